import Derived.Test.YtljdcpobomfnpaaGreatDc
import Derived.Test.YtljdcpobomfnpaaGreatDs
import Derived.Test.YtljdcpobomfnpaaGreatDl
import Derived.Test.YtljdcpobomfnpaaGreatDo
namespace Go.Proofs.YtljdcpobomfnpaaGreat
set_option linter.unusedVariables false
set_option linter.unusedSimpArgs false
open Go.ChangeShapes Go.WideShapes Go.ChangeAt Go.RowKit
open Go.Deep (BT)
theorem fieldT_rows (c:Pc.PC) (L:List Tk.T4) (i:Nat):(Pc.fieldT c L i).1.cs=c.cs∧(Pc.fieldT c L i).1.rs=c.rs∧(Pc.fieldT c L i).1.os=c.os∧(Pc.fieldT c L i).1.cr=c.cr∧(Pc.fieldT c L i).1.ls=c.ls∧(Pc.fieldT c L i).1.fs=c.fs:=by
 have key:∀ j,(Pc.setField (Pc.setSeen c j) j L).cs=c.cs∧(Pc.setField (Pc.setSeen c j) j L).rs=c.rs∧(Pc.setField (Pc.setSeen c j) j L).os=c.os∧(Pc.setField (Pc.setSeen c j) j L).cr=c.cr∧(Pc.setField (Pc.setSeen c j) j L).ls=c.ls∧(Pc.setField (Pc.setSeen c j) j L).fs=c.fs:=by
  intro j
  unfold Pc.setField Pc.setSeen
  split<;>exact ⟨rfl,rfl,rfl,rfl,rfl,rfl⟩
 unfold Pc.fieldT
 split
 · exact ⟨rfl,rfl,rfl,rfl,rfl,rfl⟩
 · split
   · exact ⟨rfl,rfl,rfl,rfl,rfl,rfl⟩
   · split
     · exact ⟨rfl,rfl,rfl,rfl,rfl,rfl⟩
     · exact key i
set_option maxHeartbeats 4000000 in
set_option maxRecDepth 100000 in
theorem rdecl_field (bs cb sb:Nat) (c:Pc.PC) (vs:Fin 6→Value) (D:Six) (L:List Tk.T4) (v:Value) (w:World) (hp:PcV w bs cb sb c vs D) (ht:TkAt w L v) (hk:Pc.kd L 0 1=true) (i:Nat) (hF:Pc.fieldsL.findIdx? (fun s=>decide (s=(Pc.tok L 0).text))=some i) :
 Calls Tryz.prog 25 #[.pointer (some ⟨cb,0,none⟩),.pointer (some ⟨sb,0,none⟩),v] w (DcP w bs cb sb (Pc.declT c L)):=by
 have RQ:Hid (Pc.declT c L=Pc.fieldT c L i):=by
  unfold Hid Pc.declT
  rw [if_neg (by rw [hk];decide),hF]
 rw [RQ.out]
 obtain ⟨hi7,hyes,hno⟩:=List.findIdx?_eq_some_iff_getElem.1 hF
 have hi7':i < 7:=hi7
 have TA:Hid (∀ wq,Below w.heap.size w wq→TkAt wq L v):=fun wq hb=>ht.next hb
 have PV:=Lib.hid hp
 have KA:Hid (Calls Tryz.prog 53 #[v,.int .i64 0,.int .i64 1] w fun e w'=>e=.returned (.bool true)∧w=w'):=(by have q:=rkd_any L v 0 1 w ht;rw [hk] at q;exact q)
 have hi:0 < L.length:=kd_lt hk
 have LL:=Lib.hid hi
 have hlc:(0:Int) < (L.length:Int):=by omega
 obtain ⟨t0,hq0⟩:∃ t,L[0]?=some t:=⟨_,List.getElem?_eq_getElem hi⟩
 obtain ⟨p,cap,hv,g1,g2,g3⟩:=ht
 subst hv
 clear g1 g2 g3
 obtain ⟨g,O,rfl,ng1,ng2⟩:=tok_ne (TA.out w (Below.refl _ _)) hq0 hp.box hp.vs hp.sn
 have T0:Hid (∀ wq,Below w.heap.size w wq→wq.cell? ⟨g,O+1,none⟩=some (.string (Pc.tok L 0).text)):=by
  intro wq hb
  obtain ⟨g',O',e',-,q1,-,-⟩:=TkAt.get (TA.out wq hb) hq0
  cases e'
  rw [tok_at hq0]
  simpa using q1
 have HFN:Hid (∀ (j:Nat) (s:ByteArray),j < i→Pc.fieldsL[j]?=some s→((Pc.tok L 0).text.toList==s.toList)=false):=by
  intro j s hji hj
  have hjl:=(List.getElem?_eq_some_iff.1 hj)
  have q:=hno j hji
  rw [hjl.2] at q
  rw [beq_eq_false_iff_ne]
  intro e
  refine q (decide_eq_true ?_)
  rw [Lib.toList_data,Lib.toList_data] at e
  exact ByteArray.ext (Array.toList_inj.1 e.symm)
 have HFY:Hid (∀ (s:ByteArray),Pc.fieldsL[i]?=some s→((Pc.tok L 0).text.toList==s.toList)=true):=by
  intro s hj
  have hjl:=(List.getElem?_eq_some_iff.1 hj)
  have q:=hyes
  rw [hjl.2] at q
  rw [of_decide_eq_true q,beq_iff_eq]
 obtain ⟨tx,htx⟩:∃ z,(Pc.tok L 0).text=z:=⟨_,rfl⟩
 rw [htx] at T0 HFN HFY
 have FLD:Hid (∀ wq,Below w.heap.size w wq→Calls Tryz.prog 54 #[.pointer (some ⟨cb,0,none⟩),.pointer (some ⟨sb,0,none⟩),.slice (some ⟨g,O,none⟩) (L.length:Nat) cap,.int .i64 i] wq (FlP wq cb sb vs (Pc.fieldT c L i))):=fun wq hb=>rfield_any c vs cb sb L _ i hi7' wq (hp.next hb).box hp.vs (hp.next hb).sn hp.ne (TA.out wq hb)
 have NX:Hid (∀ k,XBc cb sb k→k < bs):=hp.rows.lt
 clear hq0 hF hk hi hp htx hyes hno hi7
 go_enter Tryz.func25,Tryz.ntmps25
 go_upto_region 4 with (go_at_call 53;refine KA.out.mono ?_;rintro e w' ⟨rfl,rfl⟩)
 have B1:Hid (Below w.heap.size w (w.alloc (.cells #[.string Pc.wReport,.string Pc.wRelease,.string Pc.wConnect,.string Pc.wSit,.string Pc.wLayover,.string Pc.wGuarantee,.string Pc.wNight] 9))):=blw_box _ _
 have FC:Hid (∀ (j:Nat) (s:ByteArray),Pc.fieldsL[j]?=some s→(w.alloc (.cells #[.string Pc.wReport,.string Pc.wRelease,.string Pc.wConnect,.string Pc.wSit,.string Pc.wLayover,.string Pc.wGuarantee,.string Pc.wNight] 9)).cell? ⟨w.heap.size,j,none⟩=some (.string s)):=by
  intro j s hj
  match j,hj with
  | 0,hj=>(cases hj;simp [go_sem])
  | 1,hj=>(cases hj;simp [go_sem])
  | 2,hj=>(cases hj;simp [go_sem])
  | 3,hj=>(cases hj;simp [go_sem])
  | 4,hj=>(cases hj;simp [go_sem])
  | 5,hj=>(cases hj;simp [go_sem])
  | 6,hj=>(cases hj;simp [go_sem])
  | n+7,hj=>simp [Pc.fieldsL] at hj
 unfold Pc.wReport Pc.wRelease Pc.wConnect Pc.wSit Pc.wLayover Pc.wGuarantee Pc.wNight at B1 FC
 generalize w.alloc _=w1 at *
 have tc1:=T0.out _ B1.out
 go_wp2_with fail
 go_loopw [8] (fun x wr=>∃ j:Nat,j≤i∧x=.int .i64 j∧Hid (Below w1.heap.size w1 wr)) (fun x _=>7 - (intOf x).toNat)
 case atStart=>exact ⟨0,by omega,rfl,Below.refl _ _⟩
 case round =>
  obtain ⟨wp,hwp⟩:∃ z,z=wr:=⟨_,rfl⟩
  subst hwp
  obtain ⟨j,hj,rfl,HB⟩:=hrel
  have hi0:=LL.out
  have hj1:(j:Int) < 7:=by omega
  obtain ⟨s,hs⟩:∃ s,Pc.fieldsL[j]?=some s:=⟨_,List.getElem?_eq_getElem (show j < 7 from by omega)⟩
  have fc:=cell_next (FC.out j s hs) HB.out
  have tc2:=cell_next tc1 HB.out
  by_cases hlt:j < i
  · have nq:=HFN.out j s hlt hs
    clear hs
    go_upto_region 7 with (fail)
    go_quiet (fail)
    go_wp2
    go_roundw
    case rel=>exact ⟨j+1,by omega,by go_num,below_drewN HB.out _⟩
    case measure=>simp [intOf];omega
  obtain rfl:j=i:=by omega
  have nq:=HFY.out s hs
  have B2:Hid (Below w.heap.size w wp):=B1.out.trans (HB.out.mono B1.out.size)
  clear hs HFN HFY FC hj hlt
  go_upto_region 7 with (fail)
  go_quiet (fail)
  go_wp2_with (go_at_call 54;refine (FLD.out _ (below_drewN B2.out _)).mono ?_;rintro e w3 ⟨rfl,h2,h3⟩;have H2:=Lib.hid h2;have H3:=Lib.hid h3;clear h2 h3)
  go_ret
  refine ⟨rfl,fun q=>?_,fun n n1 n2 n3 n4=>?_⟩
  · obtain ⟨q1,q2⟩:=H2.out q
    obtain ⟨r1,r2,r3,r4,r5,r6⟩:=fieldT_rows c L j
    exact ⟨vs,D,(PV.out.next (below_drewN B2.out _)).field q1 q2 H3.out r1 r2 r3 r4 r5 r6⟩
  · have q:=below_drewN B2.out nq
    exact (below_low q n4).trans (H3.out.below (Nat.le_trans n4 q.size) (fun k hk=>by rcases hk with rfl|rfl<;>assumption))
theorem rdcl_any (bs cb sb:Nat) (c:Pc.PC) (vs:Fin 6→Value) (D:Six) (L:List Tk.T4) (v:Value) (w:World) (hp:PcV w bs cb sb c vs D) (ht:TkAt w L v) (hV:∀ t ∈ L,VT t.t) (hs:∀ t ∈ L,t.t.text.size≤9223372036854775807) (h40:L.length≤400) (hbs:bs≤w.heap.size) (hct:Pc.cnt c≤1000) :
 Calls Tryz.prog 25 #[.pointer (some ⟨cb,0,none⟩),.pointer (some ⟨sb,0,none⟩),v] w (DcP w bs cb sb (Pc.declT c L)):=by
 cases hk:Pc.kd L 0 1 with
 | false=>exact rdecl_word bs cb sb c L v w ht hk
 | true =>
   cases hF:Pc.fieldsL.findIdx? (fun s=>decide (s=(Pc.tok L 0).text)) with
   | some i=>exact rdecl_field bs cb sb c vs D L v w hp ht hk i hF
   | none =>
     by_cases h1:(Pc.tok L 0).text=Pc.wConst
     · exact rdw_const bs cb sb c vs D L v w hp ht hV hs hk hF h1 h40 hbs hct
     · by_cases h2:(Pc.tok L 0).text=Pc.wLimit
       · exact rdw_limit bs cb sb c vs D L v w hp ht hV hs hk hF h2 h40 hbs hct
       · by_cases h3:(Pc.tok L 0).text=Pc.wOff
         · exact rdw_off bs cb sb c vs D L v w hp ht hV hs hk hF h3 h40 hbs hct
         · by_cases h4:Pc.scopeT (Pc.tok L 0).text=0
           · exact rdw_other bs cb sb c vs D L v w hp ht hV hs hk hF h4 h1 h2 h3 h40 hbs hct
           · exact rdw_scope bs cb sb c vs D L v w hp ht hV hs hk hF h4 h40 hbs hct
end Go.Proofs.YtljdcpobomfnpaaGreat
