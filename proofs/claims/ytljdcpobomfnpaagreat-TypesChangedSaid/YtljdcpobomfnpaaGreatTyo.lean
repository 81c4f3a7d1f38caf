import Derived.Test.YtljdcpobomfnpaaGreatRtb
import Derived.Test.YtljdcpobomfnpaaGreatNod
namespace Go.Proofs.YtljdcpobomfnpaaGreat
set_option linter.unusedVariables false
set_option linter.unusedSimpArgs false
open Go.ChangeShapes Go.WideShapes Go.ChangeAt Go.RowKit
open Go.Deep (BT)
set_option maxHeartbeats 4000000 in
set_option maxRecDepth 100000 in
theorem rtypeof_any (cs:List Cn) (p:Option Addr) (cap:Nat) (sc:Int) (b o:Nat) (op num:Int) (name:ByteArray) (ptr:Option Addr) (acap:Nat) (k:Fo) (w:World) (hcs:CsV w cs p) (hcap:cs.length≤cap)
 (hx:ExAt w b o ⟨op,num,name,ptr,acap⟩ k) (hok:ExOk ⟨op,num,name,ptr,acap⟩ k) :
 Calls Tryz.prog 20 #[.slice p cs.length cap,.int .i64 sc,.agg #[.int .i64 op,.int .i64 num,.string name,.slice ptr (len k) acap]] w
  fun e w'=>e=.returned (.tuple #[.int .i64 (typeOfT cs sc ⟨op,num,name,ptr,acap⟩ k).1,.int .i64 (typeOfT cs sc ⟨op,num,name,ptr,acap⟩ k).2])∧Below w.heap.size w w':=by
 have HCS:=Lib.hid hcs
 have HX:=Lib.hid hx
 have HOK:=Lib.hid hok
 have TT:Hid (typeOfT cs sc ⟨op,num,name,ptr,acap⟩ k=if valE ⟨op,num,name,ptr,acap⟩ k=0 then tyT (lookT cs (tabN cs cs.length)) sc ⟨op,num,name,ptr,acap⟩ k else (0,valE ⟨op,num,name,ptr,acap⟩ k)):=rfl
 have VOK:=Lib.hid (val_ok ⟨op,num,name,ptr,acap⟩ k)
 generalize typeOfT cs sc ⟨op,num,name,ptr,acap⟩ k=R at *
 clear hcs hx hok
 go_enter Tryz.func20,Tryz.ntmps20
 go_wp2_with fail
 have B0:Hid (Below w.heap.size w (w.alloc (.cells #[.int .i64 op,.int .i64 num,.string name,.slice ptr (len k) acap] 34))):=(Below.refl _ _).alloc (Nat.le_refl _) _
 have V:=Lib.hid (rvexpr_any b o op num name ptr acap k _ (HX.out.next B0.out) HOK.out)
 refine V.out.mono ?_
 clear V
 rintro e w1 ⟨rfl,hb⟩
 have hc:∀ i:Nat,w1.cell? ⟨w.heap.size,i,none⟩=_:=fun i=>hb.cell (p:=⟨w.heap.size,i,none⟩) (by simp)
 have c0:w1.cell? ⟨w.heap.size,0,none⟩=some (.int .i64 op):=by rw [hc];simp [go_sem]
 have c1:w1.cell? ⟨w.heap.size,1,none⟩=some (.int .i64 num):=by rw [hc];simp [go_sem]
 have c2:w1.cell? ⟨w.heap.size,2,none⟩=some (.string name):=by rw [hc];simp [go_sem]
 have c3:w1.cell? ⟨w.heap.size,3,none⟩=some (.slice ptr (len k) acap):=by rw [hc];simp [go_sem]
 have hz:w.heap.size < w1.heap.size:=by have:=hb.size;simp at this;omega
 have B1:Hid (Below w.heap.size w w1):=B0.out.trans (hb.mono (by simp))
 clear hc hb
 generalize hv:valE ⟨op,num,name,ptr,acap⟩ k=ve at *
 by_cases h0:ve=0
 · have b0:(ve != 0)=false:=by simp [h0]
   have HV:=Lib.hid (VOK.out h0)
   have TQ:Hid (R=tyT (lookT cs (tabN cs cs.length)) sc ⟨op,num,name,ptr,acap⟩ k):=by unfold Hid;rw [TT.out,if_pos h0]
   clear h0 hv
   go_upto_region 4 with (fail)
   have B1d:Hid (Below w.heap.size w w1.drew):=B1.out.drew
   go_region_with (first
    | (go_at_call 49;refine (rtab_any cs p cap _ (HCS.out.next B1d.out) hcap).mono ?_;rintro e w2 ⟨kv,ev,rfl,hk,he,hb⟩;have HK:=Lib.hid hk;have HE:=Lib.hid he;have B2:=Lib.hid (B1d.out.trans (hb.mono B1d.out.size));have d0:w2.cell? ⟨w.heap.size,0,none⟩=some (.int .i64 op):=(hb.cell (p:=⟨w.heap.size,0,none⟩) hz).trans c0;have d1:w2.cell? ⟨w.heap.size,1,none⟩=some (.int .i64 num):=(hb.cell (p:=⟨w.heap.size,1,none⟩) hz).trans c1;have d2:w2.cell? ⟨w.heap.size,2,none⟩=some (.string name):=(hb.cell (p:=⟨w.heap.size,2,none⟩) hz).trans c2;have d3:w2.cell? ⟨w.heap.size,3,none⟩=some (.slice ptr (len k) acap):=(hb.cell (p:=⟨w.heap.size,3,none⟩) hz).trans c3;clear hk he hb)
    | (go_at_call 48;have q:=rtyped_any b o ⟨op,num,name,ptr,acap⟩ k w2 cs p cap (tabN cs cs.length) kv ev sc (HX.out.next B2.out) HOK.out HV.out.1 HV.out.2 (HCS.out.next B2.out) (by rw [tabN_len];exact Nat.le_refl _) HK.out HE.out;rw [tabN_len,← TQ.out] at q;refine q.mono ?_;clear q;rintro e w3 ⟨rfl,hb3⟩))
   all_goals (go_wp2;go_ret2;exact ⟨rfl,B2.out.trans (hb3.mono B2.out.size)⟩)
 · have b0:(ve != 0)=true:=by simp [h0]
   have TQ:Hid (R=(0,ve)):=by unfold Hid;rw [TT.out,if_neg h0]
   clear h0
   go_wp2
   go_ret2
   exact ⟨by rw [TQ.out];rfl,B1.out⟩
end Go.Proofs.YtljdcpobomfnpaaGreat
namespace Go.Proofs.YtljdcpobomfnpaaGreat
set_option linter.unusedVariables false
set_option linter.unusedSimpArgs false
open Go.ChangeShapes Go.WideShapes Go.ChangeAt Go.RowKit
open Go.Maps (has size IsMap)
open Go.Deep (BT)
theorem atS_bd (sc:Int) (s:ByteArray):0≤atS sc s∧atS sc s≤4:=by
 unfold atS Att.atT Att.dutyT Att.restT Att.pairT Att.dutyT
 (repeat' split)<;>omega
theorem resT_bd (op:Int) (L:List Int) (h:∀ x ∈ L,0≤x∧x≤4):0≤resT op L∧resT op L≤4:=by
 have hg:∀ i,0≤L.getD i 0∧L.getD i 0≤4:=by
  intro i
  rw [List.getD_eq_getElem?_getD]
  cases q:L[i]? with
  | none=>simp
  | some x=>exact h x (List.mem_of_getElem? q)
 have h0:=hg 0
 have h1:=hg 1
 unfold resT prodT
 (repeat' split)<;>omega
theorem tyF_bd (look:Look) (sc:Int) (hl:∀ s,0≤(look s).1∧(look s).1≤4) (T:Fo):∀ x ∈ (tyF look sc T).2,0≤x∧x≤4:=by
 induction T with
 | nil=>intro x hx;cases hx
 | node b o a k r ihk ihr =>
   have ht:0≤(tyT look sc a k).1∧(tyT look sc a k).1≤4:=by
    have h1:=atS_bd sc a.name
    have h2:=hl a.name
    have h3:=resT_bd a.op _ ihk
    unfold tyT nameT
    (repeat' split)<;>first|exact h1|exact h2|exact h3|simp
   rw [tyF_node]
   intro x hx
   by_cases q1:(tyT look sc a k).2=0
   · rw [if_pos q1] at hx
     by_cases q2:(tyF look sc r).1=0
     · rw [if_pos q2] at hx
       rcases List.mem_cons.1 hx with rfl|hx
       · exact ht
       · exact ihr x hx
     · rw [if_neg q2] at hx;cases hx
   · rw [if_neg q1] at hx;cases hx
theorem tyT_bd (look:Look) (sc:Int) (hl:∀ s,0≤(look s).1∧(look s).1≤4) (a:Nd) (k:Fo):0≤(tyT look sc a k).1∧(tyT look sc a k).1≤4:=by
 have h1:=atS_bd sc a.name
 have h2:=hl a.name
 have h3:=resT_bd a.op _ (tyF_bd look sc hl k)
 unfold tyT nameT
 (repeat' split)<;>first|exact h1|exact h2|exact h3|simp
theorem rowT_bd (cs:List Cn) (i:Nat):0≤(rowT cs i).1∧(rowT cs i).1≤4:=by
 induction i using Nat.strongRecOn with
 | _ i ih =>
   cases hc:cs[i]? with
   | none =>
     unfold rowT
     rw [tabN,hc,List.getD_eq_getElem?_getD,List.getElem?_append_right (by rw [tabN_len];omega),tabN_len]
     simp
   | some c =>
     rw [rowT_eq cs i c hc]
     unfold oneT
     by_cases q:valE c.a c.k=0
     · rw [if_pos q]
       refine tyT_bd _ _ (fun s=>?_) _ _
       rw [lookT_tab]
       cases firstIx s cs with
       | none=>simp
       | some j =>
         by_cases hj:j < i
         · simp only [if_pos hj];exact ih j hj
         · simp only [if_neg hj];simp
     · rw [if_neg q];simp
theorem kn_look {w:World} {cs:List Cn} {b:Nat} (h:KnMap Tryz.prog w cs b) (i:Nat) (hs:i≤9223372036854775807):∃ (v:Int) (hb:Bool),(Instr.lookup 84 (.map (some b)) (.int .i64 i) true).run Tryz.prog w=.ok (.tuple #[.int .i64 v,.bool hb]) w ∧
 (hb=true→rowT cs i=(v,0)):=by
 obtain ⟨D,K,h1,h2,h3,h4,h5,h6,h7⟩:=h
 obtain ⟨v,ps,hrun,hv⟩:=h1.look_ok Tryz.keyI Tryz.underlying84 (Tryz.zeroI w) (plainElem_int Tryz.underlying3 (by decide)) (Go.Maps.keyOf_int_mk Tryz.underlying3 (a:=(i:Int)) (WalkArith.wf_i64 (by omega)))
 obtain ⟨c,rfl,hc,-⟩:=plainElem_int_inv Tryz.underlying3 hv
 refine ⟨c,_,hrun,?_⟩
 intro hh
 have e:=congrArg Prod.fst hc
 by_cases hk:i ∈ K
 · have q:=h6 i hk
   have h9:(DataW.lit (Lit.int .i64 (rowT cs i).1):DataW Unit)=.lit (.int .i64 c):=q.2.1.symm.trans e
   rw [← lit_inj h9,← q.2.2]
 · have q:=h7 i hk
   have hh2:has D (intK i)=true:=hh
   rw [q] at hh2;cases hh2
theorem kn_upd {w:World} {cs:List Cn} {b:Nat} (h:KnMap Tryz.prog w cs b) (i:Nat) (t:Int) (hi:i < cs.length) (hs:cs.length≤2932031007402) (hr:rowT cs i=(t,0)) :
 ∃ w',(Instr.mapUpdate 84 (.map (some b)) (.int .i64 i) (.int .i64 t)).run Tryz.prog w=.ok () w'∧KnMap Tryz.prog w' cs b∧w.grownBy w' (some b):=by
 obtain ⟨D,K,h1,h2,h3,h4,h5,h6,h7⟩:=h
 have hl:=nodup_len cs.length K h3 h4
 have hb:=rowT_bd cs i
 rw [hr] at hb
 dsimp only at hb
 obtain ⟨w',hrun,ho,hg⟩:=h1.update Tryz.keyI Tryz.underlying84 (by unfold maxLen;omega) (Go.Maps.keyOf_int_mk Tryz.underlying3 (a:=(i:Int)) (WalkArith.wf_i64 (by omega))) (plainElem_int Tryz.underlying3 (a:=t) (WalkArith.wf_i64 (by omega)))
 exact ⟨w',hrun,kn_put (w:=w) hi h2 (h1.tidy Tryz.keyI) h3 h4 h5 h6 h7 hr ho,hg⟩
theorem ChkJ.know {P:Program} {w w':World} {kb ib mb:Nat} {cs:List Cn} {j:Nat} {p:Option Addr} {cap:Nat} (h:ChkJ P w kb ib mb cs j p cap) (hk:KnMap P w' cs mb) (hg:w.grownBy w' (some mb)):ChkJ P w' kb ib mb cs j p cap where
 c0:=by rw [World.cell?_of_block (hg.block kb h.lt (fun e=>h.n2 (Option.some.inj e)))];exact h.c0
 c1:=by rw [World.cell?_of_block (hg.block kb h.lt (fun e=>h.n2 (Option.some.inj e)))];exact h.c1
 c2:=by rw [World.cell?_of_block (hg.block kb h.lt (fun e=>h.n2 (Option.some.inj e)))];exact h.c2
 ix:=h.ix.kept hg (fun e=>h.n3 (Option.some.inj e))
 kn:=hk
 n1:=h.n1
 n2:=h.n2
 n3:=h.n3
 lt:=Nat.lt_of_lt_of_le h.lt hg.size
def tofN (cs:List Cn) (n:Nat) (sc:Int) (a:Nd) (k:Fo):Int × Int:=if valE a k=0 then tyT (lookT cs (tabN cs n)) sc a k else (0,valE a k)
def TypeC (n:Nat):Prop:=∀ (b o:Nat) (a:Nd) (k:Fo) (w:World) (cs:List Cn) (p:Option Addr) (cap kb ib mb:Nat) (sc:Int),
 n≤cs.length→ChkJ Tryz.prog w kb ib mb cs cs.length p cap→CsV w cs p→ExAt w b o a k→ExOk a k →
 Calls Tryz.prog 42 #[.pointer (some ⟨kb,0,none⟩),.int .i64 sc,.int .i64 n,.agg #[.int .i64 a.op,.int .i64 a.num,.string a.name,.slice a.ptr (len k) a.cap]] w (NP w cs p cap kb ib mb (tofN cs n sc a k))
set_option maxHeartbeats 4000000 in
set_option maxRecDepth 100000 in
theorem type_of (n:Nat) (ihn:∀ b o a k,NodeC n b o a k):TypeC n:=by
 intro b o a k w cs p cap kb ib mb sc hn hch hcs hx hok
 obtain ⟨op,num,name,ptr,acap⟩:=a
 show Calls Tryz.prog 42 #[.pointer (some ⟨kb,0,none⟩),.int .i64 sc,.int .i64 n,.agg #[.int .i64 op,.int .i64 num,.string name,.slice ptr (len k) acap]] w _
 have IHN:=Lib.hid ihn
 have HX:=Lib.hid hx
 have HOK:=Lib.hid hok
 have HCS:=Lib.hid hcs
 have HCH:=Lib.hid hch
 have TT:Hid (tofN cs n sc ⟨op,num,name,ptr,acap⟩ k=if valE ⟨op,num,name,ptr,acap⟩ k=0 then tyT (lookT cs (tabN cs n)) sc ⟨op,num,name,ptr,acap⟩ k else (0,valE ⟨op,num,name,ptr,acap⟩ k)):=rfl
 have VOK:=Lib.hid (val_ok ⟨op,num,name,ptr,acap⟩ k)
 generalize tofN cs n sc ⟨op,num,name,ptr,acap⟩ k=R at *
 clear ihn hx hok hcs hch
 go_enter Tryz.func42,Tryz.ntmps42
 go_wp2_with fail
 have B0:Hid (Below w.heap.size w (w.alloc (.cells #[.int .i64 op,.int .i64 num,.string name,.slice ptr (len k) acap] 34))):=(Below.refl _ _).alloc (Nat.le_refl _) _
 refine (vexpr_any b o op num name ptr acap k _ (HX.out.next B0.out) HOK.out).mono ?_
 rintro e w1 ⟨rfl,hb⟩
 have hc:∀ i:Nat,w1.cell? ⟨w.heap.size,i,none⟩=_:=fun i=>hb.cell (p:=⟨w.heap.size,i,none⟩) (by simp)
 have c0:w1.cell? ⟨w.heap.size,0,none⟩=some (.int .i64 op):=by rw [hc];simp [go_sem]
 have c1:w1.cell? ⟨w.heap.size,1,none⟩=some (.int .i64 num):=by rw [hc];simp [go_sem]
 have c2:w1.cell? ⟨w.heap.size,2,none⟩=some (.string name):=by rw [hc];simp [go_sem]
 have c3:w1.cell? ⟨w.heap.size,3,none⟩=some (.slice ptr (len k) acap):=by rw [hc];simp [go_sem]
 have B1:Hid (Below w.heap.size w w1):=B0.out.trans (hb.mono (by simp))
 clear hc hb
 generalize hv:valE ⟨op,num,name,ptr,acap⟩ k=ve at *
 by_cases h0:ve=0
 · have b0:(ve != 0)=false:=by simp [h0]
   have HV:=Lib.hid (VOK.out h0)
   have TQ:Hid (R=tyT (lookT cs (tabN cs n)) sc ⟨op,num,name,ptr,acap⟩ k):=by unfold Hid;rw [TT.out,if_pos h0]
   clear h0 hv
   go_wp2_with fail
   refine (IHN.out b o ⟨op,num,name,ptr,acap⟩ k w1 cs p cap kb ib mb sc hn (HCH.out.next B1.out) (HCS.out.next B1.out) (HX.out.next B1.out) HOK.out HV.out.1 HV.out.2).mono ?_
   rw [← TQ.out]
   rintro e w3 ⟨rfl,ch3,g3⟩
   have CH3:=Lib.hid ch3
   have G3:=Lib.hid g3
   clear ch3 g3
   go_wp2
   go_ret2
   exact ⟨rfl,CH3.out,(grw_of_below _ B1.out).trans G3.out⟩
 · have b0:(ve != 0)=true:=by simp [h0]
   have TQ:Hid (R=(0,ve)):=by unfold Hid;rw [TT.out,if_neg h0]
   clear h0
   go_wp2
   go_ret2
   exact ⟨by rw [TQ.out];rfl,HCH.out.next B1.out,grw_of_below _ B1.out⟩
set_option maxHeartbeats 4000000 in
set_option maxRecDepth 100000 in
theorem const_of (i:Nat) (iht:TypeC i):ConstC i:=by
 intro w cs p cap kb ib mb hi hch hcs
 have IHT:=Lib.hid iht
 have HCS:=Lib.hid hcs
 have HCH:=Lib.hid hch
 have hsm:=hcs.small
 obtain ⟨c,hc⟩:∃ c,cs[i]?=some c:=⟨_,List.getElem?_eq_getElem (by omega)⟩
 have RT:Hid (rowT cs i=tofN cs i 0 c.a c.k):=rowT_eq cs i c hc
 have RE:=Lib.hid (rowT_err cs i)
 have HC:=Lib.hid hc
 obtain ⟨v,hb,hrun,hv⟩:=kn_look (w:=w) hch.kn i (by omega)
 have HV:=Lib.hid hv
 have y2:=hch.c2
 obtain ⟨B,O,rfl,⟨d0,d1,d2,d3,d4⟩,hx⟩:=hcs.get hc
 have HX:=Lib.hid hx
 have y0:=hch.c0
 clear iht hcs hch hv hx hc
 have hi1:(i:Int) < (cs.length:Int):=by omega
 go_enter Tryz.func16,Tryz.ntmps16
 cases hb with
 | true =>
   have RQ:=Lib.hid (HV.out rfl)
   go_wp2
   go_ret2
   exact ⟨by rw [RQ.out];rfl,HCH.out,grw_of_below _ (Below.refl _ _)⟩
 | false =>
   go_wp2_with fail
   refine (IHT.out c.b c.o c.a c.k w cs _ cap kb ib mb 0 (by omega) HCH.out HCS.out HX.out (HCS.out.ok c (List.mem_of_getElem? HC.out)).2).mono ?_
   rw [← RT.out]
   generalize hR:rowT cs i=R at *
   obtain ⟨z1,z2⟩:=R
   rintro e w1 ⟨rfl,ch1,g1⟩
   have CH1:=Lib.hid ch1
   have G1:=Lib.hid g1
   clear hrun HV y0 y2 d0 d1 d2 d3 d4 g1
   have y2:=ch1.c2
   clear ch1
   dsimp only at RE ⊢
   by_cases h0:z2=0
   · subst h0
     obtain ⟨w9,hrun9,hk9,hg9⟩:=kn_upd CH1.out.kn i z1 hi hsm hR
     have K9:=Lib.hid hk9
     have G9:=Lib.hid hg9
     clear hk9 hg9
     go_wp2
     go_ret2
     exact ⟨rfl,CH1.out.know K9.out G9.out,G1.out.trans G9.out⟩
   · have b0:(z2 != 0)=true:=by simp [h0]
     have hz:z1=0:=RE.out h0
     subst hz
     clear h0
     go_wp2
     go_ret2
     exact ⟨rfl,CH1.out,G1.out⟩
theorem const_any (i:Nat):ConstC i:=by
 induction i using Nat.strongRecOn with
 | _ i ih=>exact const_of i (type_of i (node_of i ih))
theorem type_any (n:Nat):TypeC n:=type_of n (node_of n (fun i _=>const_any i))
theorem newchk_ex (cs:List Cn) (p:Option Addr) (cap:Nat) (w:World) (hcs:CsV w cs p) :
 Calls Tryz.prog 14 #[.slice p cs.length cap] w fun e w'=>∃ kb ib mb,e=.returned (.pointer (some ⟨kb,0,none⟩))∧ChkJ Tryz.prog w' kb ib mb cs cs.length p cap∧w.heap.size≤mb∧Below w.heap.size w w':=by
 refine (newchk_any cs p cap w hcs).mono ?_
 rintro e w' ⟨rfl,h1,h2⟩
 exact ⟨_,_,_,rfl,h1,Nat.le_succ _,h2⟩
set_option maxHeartbeats 4000000 in
set_option maxRecDepth 100000 in
theorem typeof_any (cs:List Cn) (p:Option Addr) (cap:Nat) (sc:Int) (b o:Nat) (op num:Int) (name:ByteArray) (ptr:Option Addr) (acap:Nat) (k:Fo) (w:World) (hcs:CsV w cs p)
 (hx:ExAt w b o ⟨op,num,name,ptr,acap⟩ k) (hok:ExOk ⟨op,num,name,ptr,acap⟩ k) :
 Calls Tryz.prog 22 #[.slice p cs.length cap,.int .i64 sc,.agg #[.int .i64 op,.int .i64 num,.string name,.slice ptr (len k) acap]] w
  fun e w'=>e=.returned (.tuple #[.int .i64 (typeOfT cs sc ⟨op,num,name,ptr,acap⟩ k).1,.int .i64 (typeOfT cs sc ⟨op,num,name,ptr,acap⟩ k).2])∧Below w.heap.size w w':=by
 have HCS:=Lib.hid hcs
 have HX:=Lib.hid hx
 have HOK:=Lib.hid hok
 have TT:Hid (typeOfT cs sc ⟨op,num,name,ptr,acap⟩ k=tofN cs cs.length sc ⟨op,num,name,ptr,acap⟩ k):=rfl
 generalize typeOfT cs sc ⟨op,num,name,ptr,acap⟩ k=R at *
 clear hcs hx hok
 go_enter Tryz.func22,Tryz.ntmps22
 go_upto_region 1 with (fail)
 have B0:Hid (Below w.heap.size w (w.alloc (.cells #[.int .i64 op,.int .i64 num,.string name,.slice ptr (len k) acap] 34))):=(Below.refl _ _).alloc (Nat.le_refl _) _
 have c0:(w.alloc (.cells #[.int .i64 op,.int .i64 num,.string name,.slice ptr (len k) acap] 34)).cell? ⟨w.heap.size,0,none⟩=some (.int .i64 op):=by simp [go_sem]
 have c1:(w.alloc (.cells #[.int .i64 op,.int .i64 num,.string name,.slice ptr (len k) acap] 34)).cell? ⟨w.heap.size,1,none⟩=some (.int .i64 num):=by simp [go_sem]
 have c2:(w.alloc (.cells #[.int .i64 op,.int .i64 num,.string name,.slice ptr (len k) acap] 34)).cell? ⟨w.heap.size,2,none⟩=some (.string name):=by simp [go_sem]
 have c3:(w.alloc (.cells #[.int .i64 op,.int .i64 num,.string name,.slice ptr (len k) acap] 34)).cell? ⟨w.heap.size,3,none⟩=some (.slice ptr (len k) acap):=by simp [go_sem]
 have hz:w.heap.size < (w.alloc (.cells #[.int .i64 op,.int .i64 num,.string name,.slice ptr (len k) acap] 34)).heap.size:=by simp
 generalize w.alloc (.cells #[.int .i64 op,.int .i64 num,.string name,.slice ptr (len k) acap] 34)=w1 at *
 have B1d:Hid (Below w.heap.size w w1.drew):=B0.out.drew
 go_region_with (first
  | (go_at_call 14;refine (newchk_ex cs p cap _ (HCS.out.next B1d.out)).mono ?_;rintro e w2 ⟨kb,ib,mb,rfl,hch,hm,hb⟩;have HCH:=Lib.hid hch;have B2:=Lib.hid (B1d.out.trans (hb.mono B1d.out.size));have HM:Hid (w.heap.size≤mb):=Nat.le_trans B1d.out.size hm;have d0:w2.cell? ⟨w.heap.size,0,none⟩=some (.int .i64 op):=(hb.cell (p:=⟨w.heap.size,0,none⟩) hz).trans c0;have d1:w2.cell? ⟨w.heap.size,1,none⟩=some (.int .i64 num):=(hb.cell (p:=⟨w.heap.size,1,none⟩) hz).trans c1;have d2:w2.cell? ⟨w.heap.size,2,none⟩=some (.string name):=(hb.cell (p:=⟨w.heap.size,2,none⟩) hz).trans c2;have d3:w2.cell? ⟨w.heap.size,3,none⟩=some (.slice ptr (len k) acap):=(hb.cell (p:=⟨w.heap.size,3,none⟩) hz).trans c3;clear hch hb hm)
  | (go_at_call 42;have q:=type_any cs.length b o ⟨op,num,name,ptr,acap⟩ k w2 cs p cap kb ib mb sc (Nat.le_refl _) HCH.out (HCS.out.next B2.out) (HX.out.next B2.out) HOK.out;rw [← TT.out] at q;refine q.mono ?_;clear q;rintro e w3 ⟨rfl,ch3,g3⟩;have G3:=Lib.hid g3;clear ch3 g3))
 all_goals (go_wp2;go_ret2;exact ⟨rfl,B2.out.grown G3.out B2.out.size (fun m hm=>by cases hm;exact HM.out)⟩)
end Go.Proofs.YtljdcpobomfnpaaGreat
