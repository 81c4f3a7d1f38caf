import Derived.Test.YtljdcpobomfnpaaGreatDa
namespace Go.Proofs.YtljdcpobomfnpaaGreat
set_option linter.unusedVariables false
set_option linter.unusedSimpArgs false
open Go.ChangeShapes Go.WideShapes Go.ChangeAt Go.RowKit
open Go.Deep (BT)
def ruxT:List (Nat × Nat):=[(104,0),(105,1),(106,2),(107,3),(108,4),(109,5),(110,6),(111,7),(112,8),(113,9),(114,10),(115,11),(116,12),(117,13),(118,14),(119,15),(120,16),(121,17),(122,18),(123,19)]
def ruxW (cb g O Ll cap nn cv B0:Nat) (pv:Option Addr) (t21:ByteArray) (tb:Nat) (x5:Ch) (tx:ByteArray) (sc:Int) (i:Nat):Wl :=
 match i with
 | 0=>.eq (.pointer (some ⟨cb,0,none⟩))
 | 1=>.eq (.pointer (some ⟨cb,0,none⟩))
 | 2=>.eq (.pointer (some ⟨cb,0,none⟩))
 | 3=>.eq (.pointer (some ⟨cb,8,none⟩))
 | 4=>.eq (.slice pv nn cv)
 | 5=>.eq (.slice (some ⟨g,O,none⟩) Ll cap)
 | 6=>.eq (.pointer (some ⟨g,O+0 * 4,none⟩))
 | 7=>.eq (.pointer (some ⟨g,O+0 * 4+1,none⟩))
 | 8=>.eq (.string tx)
 | 9=>.eq (.int .i64 sc)
 | 10=>.eq (.slice (some ⟨g,O,none⟩) Ll cap)
 | 11=>.eq (.pointer (some ⟨g,O+2 * 4,none⟩))
 | 12=>.eq (.pointer (some ⟨g,O+2 * 4+1,none⟩))
 | 13=>.eq (.string t21)
 | 14=>.eq (.agg #[.int .i64 x5.a.op,.int .i64 x5.a.num,.string x5.a.name,.slice x5.a.ptr (len x5.k) x5.a.cap])
 | 15=>.eq (.agg #[.int .i64 sc,.string t21,.int .i64 x5.a.op,.int .i64 x5.a.num,.string x5.a.name,.slice x5.a.ptr (len x5.k) x5.a.cap])
 | 16=>.row B0 [.int .i64 sc,.string t21,.int .i64 x5.a.op,.int .i64 x5.a.num,.string x5.a.name,.slice x5.a.ptr (len x5.k) x5.a.cap]
 | 17=>.any
 | 18=>.eq (.pointer (some ⟨cb,0,none⟩))
 | 19=>.eq (.pointer (some ⟨cb,8,none⟩))
 | _=>.any
def ruxG (cb g O Ll cap nn cv B0:Nat) (pv:Option Addr) (t21:ByteArray) (tb:Nat) (x5:Ch) (tx:ByteArray) (sc:Int) (i:Nat) (v:Value) (w:World):Prop:=(ruxW cb g O Ll cap nn cv B0 pv t21 tb x5 tx sc i).ok v w
def coxT:List (Nat × Nat):=[(147,0),(148,1),(149,2),(150,3),(151,4),(152,5),(153,6),(154,7),(155,8),(156,9),(157,10),(158,11),(159,12),(160,13),(161,14),(162,15)]
def coxW (cb g O Ll cap nn cv B0:Nat) (pv:Option Addr) (tb:Nat) (x5:Ch) (tx:ByteArray) (sc:Int) (i:Nat):Wl :=
 match i with
 | 0=>.eq (.pointer (some ⟨cb,0,none⟩))
 | 1=>.eq (.pointer (some ⟨cb,0,none⟩))
 | 2=>.eq (.pointer (some ⟨cb,0,none⟩))
 | 3=>.eq (.pointer (some ⟨cb,9,none⟩))
 | 4=>.eq (.slice pv nn cv)
 | 5=>.eq (.slice (some ⟨g,O,none⟩) Ll cap)
 | 6=>.eq (.pointer (some ⟨g,O+0 * 4,none⟩))
 | 7=>.eq (.pointer (some ⟨g,O+0 * 4+1,none⟩))
 | 8=>.eq (.string tx)
 | 9=>.eq (.int .i64 sc)
 | 10=>.eq (.agg #[.int .i64 x5.a.op,.int .i64 x5.a.num,.string x5.a.name,.slice x5.a.ptr (len x5.k) x5.a.cap])
 | 11=>.eq (.agg #[.int .i64 sc,.int .i64 x5.a.op,.int .i64 x5.a.num,.string x5.a.name,.slice x5.a.ptr (len x5.k) x5.a.cap])
 | 12=>.row B0 [.int .i64 sc,.int .i64 x5.a.op,.int .i64 x5.a.num,.string x5.a.name,.slice x5.a.ptr (len x5.k) x5.a.cap]
 | 13=>.any
 | 14=>.eq (.pointer (some ⟨cb,0,none⟩))
 | 15=>.eq (.pointer (some ⟨cb,9,none⟩))
 | _=>.any
def coxG (cb g O Ll cap nn cv B0:Nat) (pv:Option Addr) (tb:Nat) (x5:Ch) (tx:ByteArray) (sc:Int) (i:Nat) (v:Value) (w:World):Prop:=(coxW cb g O Ll cap nn cv B0 pv tb x5 tx sc i).ok v w
set_option maxHeartbeats 16000000 in
set_option maxRecDepth 100000 in
theorem rdw_scope (bs cb sb:Nat) (c:Pc.PC) (vs:Fin 6→Value) (D:Six) (L:List Tk.T4) (v:Value) (w:World) (hp:PcV w bs cb sb c vs D) (ht:TkAt w L v) (hV:∀ t ∈ L,VT t.t) (hs:∀ t ∈ L,t.t.text.size≤9223372036854775807) (hk:Pc.kd L 0 1=true) (hF:Pc.fieldsL.findIdx? (fun s=>decide (s=(Pc.tok L 0).text))=none)
 (hs0:Pc.scopeT (Pc.tok L 0).text≠0) (h40:L.length≤400) (hbs:bs≤w.heap.size) (hct:Pc.cnt c≤1000) :
 Calls Tryz.prog 25 #[.pointer (some ⟨cb,0,none⟩),.pointer (some ⟨sb,0,none⟩),v] w (DcP w bs cb sb (Pc.declT c L)):=by
 have REST:=Lib.hid (declT_rest (c:=c) hk hF)
 generalize Pc.declT c L=R at *
 have TA:Hid (∀ wq,Below w.heap.size w wq→TkAt wq L v):=fun wq hb=>ht.next hb
 have PV:=Lib.hid hp
 have HVV:=Lib.hid hV
 have HS:=Lib.hid hs
 have KA:Hid (Calls Tryz.prog 53 #[v,.int .i64 0,.int .i64 1] w fun e w'=>e=.returned (.bool true)∧w=w'):=kdC hk ht
 have hi:0 < L.length:=kd_lt hk
 have LL:=Lib.hid hi
 have hlc:(0:Int) < (L.length:Int):=by omega
 obtain ⟨t0,hq0⟩:∃ t,L[0]?=some t:=⟨_,List.getElem?_eq_getElem hi⟩
 have LB:Hid (cb < bs∧bs≤w.heap.size):=⟨hp.rows.lt cb (Or.inl rfl),hbs⟩
 have LC:=Lib.hid hct
 have H40:=Lib.hid h40
 obtain ⟨p,cap,hv,g1,g2,g3⟩:=ht
 subst hv
 have HCP:=Lib.hid g1
 clear g1 g2 g3
 obtain ⟨g,O,rfl,ng1,ng2⟩:=tok_ne (TA.out w (Below.refl _ _)) hq0 hp.box hp.vs hp.sn
 have T0:Hid (∀ wq,Below w.heap.size w wq→wq.cell? ⟨g,O+1,none⟩=some (.string (Pc.tok L 0).text)):=fun wq hb=>by
  have q:=(tkc (TA.out wq hb) hi).1
  rw [show O+0 * 4+1=O+1 by omega] at q
  exact q
 have HFN:Hid (∀ (j:Nat) (s:ByteArray),Pc.fieldsL[j]?=some s→((Pc.tok L 0).text.toList==s.toList)=false):=by
  intro j s hj
  have q:=List.findIdx?_eq_none_iff.1 hF s (List.mem_of_getElem? hj)
  rw [beq_eq_false_iff_ne]
  intro e
  refine (of_decide_eq_false q) ?_
  rw [Lib.toList_data,Lib.toList_data] at e
  exact ByteArray.ext (Array.toList_inj.1 e.symm)
 obtain ⟨tx,htx⟩:∃ z,(Pc.tok L 0).text=z:=⟨_,rfl⟩
 rw [htx] at T0 HFN REST hs0
 obtain ⟨sc,hsc⟩:∃ z,Pc.scopeT tx=z:=⟨_,rfl⟩
 have SC:Hid (∀ wq,Calls Tryz.prog 58 #[.string tx] wq fun e w'=>e=.returned (.int .i64 sc)∧wq=w'):=fun wq=>(by have q:=rscope_any tx wq;rw [hsc] at q;exact q)
 clear hq0 hF hk hi hp hs hV htx
 have hz:¬ sc=0:=(by rw [← hsc];exact hs0)
 have hz3:1≤sc∧sc≤3:=by rcases scope_123 tx with q|q|q|q<;>omega
 have hnc:tx≠Pc.wConst:=(by rintro rfl;exact hs0 (by decide))
 have hnl:tx≠Pc.wLimit:=(by rintro rfl;exact hs0 (by decide))
 have hno:tx≠Pc.wOff:=(by rintro rfl;exact hs0 (by decide))
 have nc:¬ tx.toList=[99,111,110,115,116]:=tl_neD hnc
 have nl:¬ tx.toList=[108,105,109,105,116]:=tl_neD hnl
 have no:¬ tx.toList=[111,102,102]:=tl_neD hno
 clear h40 hbs hct
 go_enter Tryz.func25,Tryz.ntmps25
 go_upto_region 4 with (go_at_call 53;refine KA.out.mono ?_;rintro e w' ⟨rfl,rfl⟩)
 have B1:Hid (Below w.heap.size w (w.alloc (.cells #[.string Pc.wReport,.string Pc.wRelease,.string Pc.wConnect,.string Pc.wSit,.string Pc.wLayover,.string Pc.wGuarantee,.string Pc.wNight] 9))):=blw_box _ _
 have FC:Hid (∀ (j:Nat) (s:ByteArray),Pc.fieldsL[j]?=some s→(w.alloc (.cells #[.string Pc.wReport,.string Pc.wRelease,.string Pc.wConnect,.string Pc.wSit,.string Pc.wLayover,.string Pc.wGuarantee,.string Pc.wNight] 9)).cell? ⟨w.heap.size,j,none⟩=some (.string s)):=by
  intro j s hj
  match j,hj with
  | 0,hj=>(cases hj;simp [go_sem])
  | 1,hj=>(cases hj;simp [go_sem])
  | 2,hj=>(cases hj;simp [go_sem])
  | 3,hj=>(cases hj;simp [go_sem])
  | 4,hj=>(cases hj;simp [go_sem])
  | 5,hj=>(cases hj;simp [go_sem])
  | 6,hj=>(cases hj;simp [go_sem])
  | n+7,hj=>simp [Pc.fieldsL] at hj
 unfold Pc.wReport Pc.wRelease Pc.wConnect Pc.wSit Pc.wLayover Pc.wGuarantee Pc.wNight at B1 FC
 generalize w.alloc _=w1 at *
 have tc1:=T0.out _ B1.out
 go_wp2_with fail
 go_loopw [8] (fun i wr=>∃ j:Nat,j≤7∧i=.int .i64 j∧Hid (Below w1.heap.size w1 wr)) (fun i _=>7 - (intOf i).toNat)
 case atStart=>exact ⟨0,by omega,rfl,Below.refl _ _⟩
 case round =>
  obtain ⟨wp,hwp⟩:∃ z,z=wr:=⟨_,rfl⟩
  subst hwp
  obtain ⟨j,hj,rfl,HB⟩:=hrel
  have hi0:=LL.out
  by_cases hlt:j < 7
  · have hj1:(j:Int) < 7:=by omega
    obtain ⟨s,hs⟩:∃ s,Pc.fieldsL[j]?=some s:=⟨_,List.getElem?_eq_getElem (show j < 7 from hlt)⟩
    have fc:=cell_next (FC.out j s hs) HB.out
    have tc2:=cell_next tc1 HB.out
    have nq:=HFN.out j s hs
    clear hs
    go_upto_region 7 with (fail)
    go_quiet (fail)
    go_wp2
    go_roundw
    case rel=>exact ⟨j+1,by omega,by go_num,below_drewN HB.out _⟩
    case measure=>simp [intOf];omega
  have hj1:¬ (j:Int) < 7:=by omega
  clear FC HFN hlt hj
  have B2:Hid (Below w.heap.size w wp):=B1.out.trans (HB.out.mono B1.out.size)
  have tc2:=T0.out _ B2.out
  clear tc1 B1 HB
  cases a:Pc.isW L 1 Pc.wRule with
  | false =>
    cases b:Pc.isW L 1 Pc.wCost with
    | false =>
      by_cases hd:tx=Pc.wDuty
      ·
       have nd:tx.toList=[100,117,116,121]:=tl_eq hd
       have HD:=Lib.hid hd
       clear hd
       cases f:Pc.isW L 1 Pc.wCredit with
       | false =>
         have RQ:Hid (R=(c,1)):=by unfold Hid;rw [REST.out];unfold restT;simp [hsc,hz,hnc,hnl,hno,HD.out,a,b,f,wn_all]
         go_upto_region 20 with (first|(go_at_call 56;refine (isC a (TA.out _ (by first|exact B3.out|exact B2.out))).mono ?_;rintro e w' ⟨rfl,rfl⟩;clear a)|(go_at_call 58;refine (SC.out _).mono ?_;rintro e w' ⟨rfl,rfl⟩))
         go_upto_region 25 with (first|(go_at_call 56;refine (isC b (TA.out _ (by first|exact B3.out|exact B2.out))).mono ?_;rintro e w' ⟨rfl,rfl⟩;clear b)|(go_at_call 58;refine (SC.out _).mono ?_;rintro e w' ⟨rfl,rfl⟩))
         go_wp2_with (first|(go_at_call 56;refine (isC f (TA.out _ (by first|exact B3.out|exact B2.out))).mono ?_;rintro e w' ⟨rfl,rfl⟩;clear f)|(go_at_call 58;refine (SC.out _).mono ?_;rintro e w' ⟨rfl,rfl⟩))
         go_ret
         exact dcp_err RQ.out (by decide) (by first|exact B3.out|exact B2.out)
       | true =>
         cases e:Pc.isW L 2 Pc.wIs with
         | false =>
           have RQ:Hid (R=(c,1)):=by unfold Hid;rw [REST.out];unfold restT;simp [hsc,hz,hnc,hnl,hno,HD.out,a,b,f,e,wn_all]
           go_upto_region 20 with (first|(go_at_call 56;refine (isC a (TA.out _ (by first|exact B3.out|exact B2.out))).mono ?_;rintro e w' ⟨rfl,rfl⟩;clear a)|(go_at_call 58;refine (SC.out _).mono ?_;rintro e w' ⟨rfl,rfl⟩))
           go_upto_region 25 with (first|(go_at_call 56;refine (isC b (TA.out _ (by first|exact B3.out|exact B2.out))).mono ?_;rintro e w' ⟨rfl,rfl⟩;clear b)|(go_at_call 58;refine (SC.out _).mono ?_;rintro e w' ⟨rfl,rfl⟩))
           go_wp2_with (first|(go_at_call 56;refine (isC f (TA.out _ (by first|exact B3.out|exact B2.out))).mono ?_;rintro e w' ⟨rfl,rfl⟩;clear f)|(go_at_call 56;refine (isC e (TA.out _ (by first|exact B3.out|exact B2.out))).mono ?_;rintro e w' ⟨rfl,rfl⟩;clear e)|(go_at_call 58;refine (SC.out _).mono ?_;rintro e w' ⟨rfl,rfl⟩))
           go_ret
           exact dcp_err RQ.out (by decide) (by first|exact B3.out|exact B2.out)
         | true =>
           by_cases hbd:0≤badT (L.drop 3)
           ·
            have RQ:Hid (R=(c,1)):=by unfold Hid;rw [REST.out];unfold restT;simp [hsc,hz,hnc,hnl,hno,HD.out,a,b,f,e,Pc.ifEx,hbd,wn_all]
            have HL3:Hid (3≤L.length):=isw_lt e
            have TE:=Lib.hid (exC 3 HVV.out H40.out TA.out)
            have DV:Hid ((∀ t ∈ L.drop 3,VT t.t)∧(L.drop 3).length≤400):=⟨fun t ht=>HVV.out t (List.mem_of_mem_drop ht),by have:=H40.out;rw [List.length_drop];omega⟩
            have HBD:=Lib.hid hbd
            have hl3:=HL3.out
            go_upto_region 20 with (first|(go_at_call 56;refine (isC a (TA.out _ (by first|exact B3.out|exact B2.out))).mono ?_;rintro e w' ⟨rfl,rfl⟩;clear a)|(go_at_call 58;refine (SC.out _).mono ?_;rintro e w' ⟨rfl,rfl⟩))
            go_upto_region 25 with (first|(go_at_call 56;refine (isC b (TA.out _ (by first|exact B3.out|exact B2.out))).mono ?_;rintro e w' ⟨rfl,rfl⟩;clear b)|(go_at_call 58;refine (SC.out _).mono ?_;rintro e w' ⟨rfl,rfl⟩))
            go_upto_region 26 with (first|(go_at_call 56;refine (isC f (TA.out _ (by first|exact B3.out|exact B2.out))).mono ?_;rintro e w' ⟨rfl,rfl⟩;clear f)|(go_at_call 56;refine (isC e (TA.out _ (by first|exact B3.out|exact B2.out))).mono ?_;rintro e w' ⟨rfl,rfl⟩;clear e)|(go_at_call 58;refine (SC.out _).mono ?_;rintro e w' ⟨rfl,rfl⟩))
            go_wp2_with ((go_at_call 57;refine (TE.out _ _ _ (by first|exact B3.out|exact B2.out) (by have q1:=HL3.out;have q2:=HCP.out;first|exact .inl rfl|exact .inr (by omega)|(split;exact .inr (by omega);exact .inl rfl))).mono ?_;rintro e w5 h5;obtain ⟨x5,rfl,hb5,hx5⟩:=txp_tree2 DV.out.1 DV.out.2 h5;clear h5 TE;have B5:=Lib.hid (Below.trans (by first|exact B3.out|exact B2.out) (hb5.mono (by first|exact B3.out.size|exact B2.out.size)));clear hx5 hb5;generalize badT _=bd at *;have hbd0:=HBD.out))
            all_goals
             go_ret
             exact dcp_err RQ.out (by decide) (B5.out.trans ((blw_box _ _).mono B5.out.size))
           ·
            replace hbd:badT (L.drop 3) < 0:=by omega
            have RQ:Hid (R=({ c with cr:=c.cr++[Pc.tree (L.drop 3)] },0)):=by unfold Hid;rw [REST.out];unfold restT;simp [hsc,hz,hnc,hnl,hno,HD.out,a,b,f,e,Pc.ifEx,show ¬ 0≤badT (L.drop 3) from by omega,wn_all]
            have HL3:Hid (3≤L.length):=isw_lt e
            have TE:=Lib.hid (exC 3 HVV.out H40.out TA.out)
            have DV:Hid ((∀ t ∈ L.drop 3,VT t.t)∧(L.drop 3).length≤400):=⟨fun t ht=>HVV.out t (List.mem_of_mem_drop ht),by have:=H40.out;rw [List.length_drop];omega⟩
            have HBD:=Lib.hid hbd
            have hl3:=HL3.out
            have hcp:¬ cap=3:=by
             have q1:=HCP.out
             intro q
             have q2:L.drop 3=[]:=List.drop_eq_nil_of_le (by omega)
             rw [q2,badT_nil] at hbd
             omega
            have LD:Hid (D.cr.length≤1000):=by have q:=PV.out.len;have:=LC.out;unfold Hid;omega
            go_upto_region 20 with (first|(go_at_call 56;refine (isC a (TA.out _ (by first|exact B3.out|exact B2.out))).mono ?_;rintro e w' ⟨rfl,rfl⟩;clear a)|(go_at_call 58;refine (SC.out _).mono ?_;rintro e w' ⟨rfl,rfl⟩))
            go_upto_region 25 with (first|(go_at_call 56;refine (isC b (TA.out _ (by first|exact B3.out|exact B2.out))).mono ?_;rintro e w' ⟨rfl,rfl⟩;clear b)|(go_at_call 58;refine (SC.out _).mono ?_;rintro e w' ⟨rfl,rfl⟩))
            go_upto_region 26 with (first|(go_at_call 56;refine (isC f (TA.out _ (by first|exact B3.out|exact B2.out))).mono ?_;rintro e w' ⟨rfl,rfl⟩;clear f)|(go_at_call 56;refine (isC e (TA.out _ (by first|exact B3.out|exact B2.out))).mono ?_;rintro e w' ⟨rfl,rfl⟩;clear e)|(go_at_call 58;refine (SC.out _).mono ?_;rintro e w' ⟨rfl,rfl⟩))
            go_upto_region 29 with ((go_at_call 57;refine (TE.out _ _ _ (by first|exact B3.out|exact B2.out) (by have q1:=HL3.out;have q2:=HCP.out;first|exact .inl rfl|exact .inr (by omega)|(split;exact .inr (by omega);exact .inl rfl))).mono ?_;rintro e w5 h5;obtain ⟨x5,rfl,hb5,hx5⟩:=txp_tree2 DV.out.1 DV.out.2 h5;clear h5 TE;have B5:=Lib.hid (Below.trans (by first|exact B3.out|exact B2.out) (hb5.mono (by first|exact B3.out.size|exact B2.out.size)));have X5:=Lib.hid (hx5 HBD.out);have A5:=Lib.hid ((PV.out.next (by first|exact B3.out|exact B2.out)).av X5.out.2.2.1);clear hx5 hb5;have hbd0:=HBD.out;generalize badT _=bd at *))
            obtain ⟨w6,hw6,hbx,e0,e1,e2,e3⟩:=ex_boxP w5 x5
            rw [hw6]
            clear hw6
            have B6:=Lib.hid (B5.out.trans (hbx.mono B5.out.size))
            have X6:Hid (Pz.nr x5=Pc.tree (L.drop 3)∧ExAt w6 x5.b x5.o x5.a x5.k∧ExOk x5.a x5.k):=⟨X5.out.1,X5.out.2.1.next hbx,X5.out.2.2.2⟩
            have TBG:Hid (w.heap.size≤w5.heap.size):=B5.out.size
            have htb:=block_lt_of_cell e0
            generalize w5.heap.size=tb at *
            have htb2:tb < w6.heap.size:=htb
            clear htb X5 hbx hbd0 DV
            obtain ⟨ir,hir,hir0,hir1,hir2⟩:=info_parts Tryz.infoXpP
            have P6:=Lib.hid (PV.out.next B6.out)
            obtain ⟨pv,cv,hv⟩:∃ pv cv,vs 3=.slice pv D.cr.length cv:=own_slp (P6.out.rows.ow 3)
            have HV:=Lib.hid hv
            have oc:=P6.out.box.c10
            have hcb:cb < w6.heap.size:=P6.out.box.lt
            rw [hv] at oc
            clear hv
            have HNB:=Lib.hid ((blw_box w6 (.cells #[.int .i64 0,.int .i64 0,.string ⟨#[]⟩,.slice none 0 0] 34)).drew)
            have P7:=Lib.hid (P6.out.next HNB.out)
            have OW4:Hid ((w6.alloc (.cells #[.int .i64 0,.int .i64 0,.string ⟨#[]⟩,.slice none 0 0] 34)).drew.ownsRow bs 34 4 (.slice pv D.cr.length cv) D.cr.length (D.cr.flatMap chC)):=by
             unfold Hid
             have q:=P7.out.rows.ow 3
             rw [← HV.out]
             exact q
            have OB:Hid (bs≤w6.heap.size∧cb < bs):=⟨Nat.le_trans LB.out.2 B6.out.size,LB.out.1⟩
            have hnn:(D.cr.length:Int) < (D.cr.length:Int)+1:=by omega
            go_region_law (first|(refine step_append_atP _ (by rfl) _ _ 26 (by rfl) bs 34 ir (.agg #[.int .i64 0,.int .i64 0,.string ⟨#[]⟩,.slice none 0 0]) 4 56 Tryz.underlying26 hir hir0 hir1 hir2 rfl (by decide) (.slice pv D.cr.length cv) D.cr.length (D.cr.flatMap chC) (by rfl) OW4.out ⟨w6.heap.size,0,none⟩ 1 1 [.int .i64 0,.int .i64 0,.string ⟨#[]⟩,.slice none 0 0] (by rfl) (by rfl) (by intro q u hu;match q,hu with|0,hu=>(simp at hu;subst hu;simp [Addr.add,go_sem])|1,hu=>(simp at hu;subst hu;simp [Addr.add,go_sem])|2,hu=>(simp at hu;subst hu;simp [Addr.add,go_sem])|3,hu=>(simp at hu;subst hu;simp [Addr.add,go_sem])|q+4,hu=>simp at hu) one_zero (by have:=LD.out;unfold maxLen;omega) (by have:=LD.out;omega) (by have:=OB.out;simp;omega) ?_;intro v' we hown hgrow hob;obtain ⟨g2,cn,hvn⟩:=own_succ4 hown;subst hvn;have GB:=P7.out.box.grown hgrow (fun e'=>by have q:=(OW4.out.lt cb e'.symm).1;have:=OB.out;omega);have fz:=GB.f10;have cz:=GB.c10;have HOWN:=Lib.hid hown;have HGR:=Lib.hid hgrow;have HOB:=Lib.hid hob;obtain ⟨q0,q1,q2,q3⟩:=zero_cells OW4.out.1 hown;have r0:=hown.frozenAt (D.cr.length * 4);have r1:=hown.frozenAt (D.cr.length * 4+1);have r2:=hown.frozenAt (D.cr.length * 4+2);have r3:=hown.frozenAt (D.cr.length * 4+3);have ng1:¬ g2=cb:=(by have q:=(hown.lt g2 rfl).1;have:=OB.out;omega);have ng2:¬ cb=g2:=(fun e=>ng1 e.symm);have tq:∀ (j:Nat) (u:Value),w6.cell? ⟨tb,j,none⟩=some u→we.cell? ⟨tb,j,none⟩=some u:=(fun j u hj=>by rw [World.cell?_of_block (a:=⟨tb,j,none⟩) (hgrow.block tb (by simp;omega) (fun e'=>by have q:=((PV.out.rows.ow 3).lt tb (by show (vs 3).ownBlock=_;rw [HV.out];exact e'.symm)).2;have:=TBG.out;omega))];exact cell_next hj HNB.out);have x0:=tq 0 _ e0;have x1:=tq 1 _ e1;have x2:=tq 2 _ e2;have x3:=tq 3 _ e3;clear tq GB hown hgrow hob))
            all_goals
             go_wp2_with fail
             go_ret
             have SW:∀ (wq:World) (kq:Nat) (u v:Value),(wq.setCell ⟨cb,10,none⟩ u).setCell ⟨g2,kq,none⟩ v=(wq.setCell ⟨g2,kq,none⟩ v).setCell ⟨cb,10,none⟩ u:=fun wq kq u v=>setCell_swap wq (fun e=>ng1 e.symm) u v
             have hgo:some g2=(Value.slice pv D.cr.length cv).ownBlock∨(w6.alloc (.cells #[.int .i64 0,.int .i64 0,.string ⟨#[]⟩,.slice none 0 0] 34)).drew.heap.size≤g2:=(by
              rcases HOB.out with q|q
              · exact .inl q
              · exact .inr (Nat.le_of_eq (Option.some.inj q).symm))
             have OO:=own_setE4 OW4.out.1 HOWN.out (.int .i64 x5.a.op) (.int .i64 x5.a.num) (.string x5.a.name) (.slice x5.a.ptr (len x5.k) x5.a.cap)
             have GG:=fun k0 k1 k2 k3 u0 u1 u2 u3=>grow_set (grow_set (grow_set (grow_set HGR.out hgo k0 u0) hgo k1 u1) hgo k2 u2) hgo k3 u3
             have APP:=PcV.app3 P7.out x5 (X6.out.2.1.next HNB.out) A5.out X6.out.2.2 OO (by rw [HV.out];exact GG _ _ _ _ _ _ _ _) (by rw [HV.out];exact HOB.out)
             rw [X6.out.1] at APP
             have q:DcP w bs cb sb R (.returned (.int .i64 0)) _:=dcp_ok RQ.out APP (fun m q1 q2 q3 q4=>below_app (below_low (B6.out.trans (HNB.out.mono B6.out.size)) q4) q4 (GG _ _ _ _ _ _ _ _) (fun g' e'=>Nat.le_trans q3 (OW4.out.lt g' e').1) q1 _ _)
             first
              | exact q
              | (rw [SW,SW,SW,SW];exact q)
      ·
       have nd:¬ tx.toList=[100,117,116,121]:=tl_neD hd
       have HD:=Lib.hid hd
       clear hd
       have RQ:Hid (R=(c,1)):=by unfold Hid;rw [REST.out];unfold restT;simp [hsc,hz,hnc,hnl,hno,HD.out,a,b,wn_all]
       go_upto_region 20 with (first|(go_at_call 56;refine (isC a (TA.out _ (by first|exact B3.out|exact B2.out))).mono ?_;rintro e w' ⟨rfl,rfl⟩;clear a)|(go_at_call 58;refine (SC.out _).mono ?_;rintro e w' ⟨rfl,rfl⟩))
       go_upto_region 25 with (first|(go_at_call 56;refine (isC b (TA.out _ (by first|exact B3.out|exact B2.out))).mono ?_;rintro e w' ⟨rfl,rfl⟩;clear b)|(go_at_call 58;refine (SC.out _).mono ?_;rintro e w' ⟨rfl,rfl⟩))
       go_wp2_with (first|(go_at_call 58;refine (SC.out _).mono ?_;rintro e w' ⟨rfl,rfl⟩))
       go_ret
       exact dcp_err RQ.out (by decide) (by first|exact B3.out|exact B2.out)
    | true =>
      have cr:=isw_two b (b:=Pc.wCredit) (by decide)
      cases e:Pc.isW L 2 Pc.wIs with
      | false =>
        by_cases hd:tx=Pc.wDuty
        ·
         have nd:tx.toList=[100,117,116,121]:=tl_eq hd
         have HD:=Lib.hid hd
         clear hd
         have RQ:Hid (R=(c,1)):=by unfold Hid;rw [REST.out];unfold restT;simp [hsc,hz,hnc,hnl,hno,HD.out,a,b,cr,e,wn_all]
         go_upto_region 20 with (first|(go_at_call 56;refine (isC a (TA.out _ (by first|exact B3.out|exact B2.out))).mono ?_;rintro e w' ⟨rfl,rfl⟩;clear a)|(go_at_call 58;refine (SC.out _).mono ?_;rintro e w' ⟨rfl,rfl⟩))
         go_upto_region 25 with (first|(go_at_call 56;refine (isC b (TA.out _ (by first|exact B3.out|exact B2.out))).mono ?_;rintro e w' ⟨rfl,rfl⟩;clear b)|(go_at_call 56;refine (isC e (TA.out _ (by first|exact B3.out|exact B2.out))).mono ?_;rintro e w' ⟨rfl,rfl⟩;clear e)|(go_at_call 58;refine (SC.out _).mono ?_;rintro e w' ⟨rfl,rfl⟩))
         go_wp2_with (first|(go_at_call 56;refine (isC cr (TA.out _ (by first|exact B3.out|exact B2.out))).mono ?_;rintro e w' ⟨rfl,rfl⟩;clear cr)|(go_at_call 58;refine (SC.out _).mono ?_;rintro e w' ⟨rfl,rfl⟩))
         go_ret
         exact dcp_err RQ.out (by decide) (by first|exact B3.out|exact B2.out)
        ·
         have nd:¬ tx.toList=[100,117,116,121]:=tl_neD hd
         have HD:=Lib.hid hd
         clear hd
         have RQ:Hid (R=(c,1)):=by unfold Hid;rw [REST.out];unfold restT;simp [hsc,hz,hnc,hnl,hno,HD.out,a,b,cr,e,wn_all]
         go_upto_region 20 with (first|(go_at_call 56;refine (isC a (TA.out _ (by first|exact B3.out|exact B2.out))).mono ?_;rintro e w' ⟨rfl,rfl⟩;clear a)|(go_at_call 58;refine (SC.out _).mono ?_;rintro e w' ⟨rfl,rfl⟩))
         go_upto_region 25 with (first|(go_at_call 56;refine (isC b (TA.out _ (by first|exact B3.out|exact B2.out))).mono ?_;rintro e w' ⟨rfl,rfl⟩;clear b)|(go_at_call 56;refine (isC e (TA.out _ (by first|exact B3.out|exact B2.out))).mono ?_;rintro e w' ⟨rfl,rfl⟩;clear e)|(go_at_call 58;refine (SC.out _).mono ?_;rintro e w' ⟨rfl,rfl⟩))
         go_wp2_with (first|(go_at_call 58;refine (SC.out _).mono ?_;rintro e w' ⟨rfl,rfl⟩))
         go_ret
         exact dcp_err RQ.out (by decide) (by first|exact B3.out|exact B2.out)
      | true =>
        by_cases hbd:0≤badT (L.drop 3)
        ·
         have RQ:Hid (R=(c,1)):=by unfold Hid;rw [REST.out];unfold restT;simp [hsc,hz,hnc,hnl,hno,a,b,e,Pc.ifEx,hbd,wn_all]
         have HL3:Hid (3≤L.length):=isw_lt e
         have TE:=Lib.hid (exC 3 HVV.out H40.out TA.out)
         have DV:Hid ((∀ t ∈ L.drop 3,VT t.t)∧(L.drop 3).length≤400):=⟨fun t ht=>HVV.out t (List.mem_of_mem_drop ht),by have:=H40.out;rw [List.length_drop];omega⟩
         have HBD:=Lib.hid hbd
         have hl3:=HL3.out
         go_upto_region 20 with (first|(go_at_call 56;refine (isC a (TA.out _ (by first|exact B3.out|exact B2.out))).mono ?_;rintro e w' ⟨rfl,rfl⟩;clear a)|(go_at_call 58;refine (SC.out _).mono ?_;rintro e w' ⟨rfl,rfl⟩))
         go_upto_region 21 with (first|(go_at_call 56;refine (isC b (TA.out _ (by first|exact B3.out|exact B2.out))).mono ?_;rintro e w' ⟨rfl,rfl⟩;clear b)|(go_at_call 56;refine (isC e (TA.out _ (by first|exact B3.out|exact B2.out))).mono ?_;rintro e w' ⟨rfl,rfl⟩;clear e)|(go_at_call 58;refine (SC.out _).mono ?_;rintro e w' ⟨rfl,rfl⟩))
         go_wp2_with ((go_at_call 57;refine (TE.out _ _ _ (by first|exact B3.out|exact B2.out) (by have q1:=HL3.out;have q2:=HCP.out;first|exact .inl rfl|exact .inr (by omega)|(split;exact .inr (by omega);exact .inl rfl))).mono ?_;rintro e w5 h5;obtain ⟨x5,rfl,hb5,hx5⟩:=txp_tree2 DV.out.1 DV.out.2 h5;clear h5 TE;have B5:=Lib.hid (Below.trans (by first|exact B3.out|exact B2.out) (hb5.mono (by first|exact B3.out.size|exact B2.out.size)));clear hx5 hb5;generalize badT _=bd at *;have hbd0:=HBD.out))
         all_goals
          go_ret
          exact dcp_err RQ.out (by decide) (B5.out.trans ((blw_box _ _).mono B5.out.size))
        ·
         replace hbd:badT (L.drop 3) < 0:=by omega
         have RQ:Hid (R=({ c with os:=c.os++[(sc,Pc.tree (L.drop 3))] },0)):=by unfold Hid;rw [REST.out];unfold restT;simp [hsc,hz,hnc,hnl,hno,a,b,e,Pc.ifEx,show ¬ 0≤badT (L.drop 3) from by omega,wn_all]
         have HL3:Hid (3≤L.length):=isw_lt e
         have TE:=Lib.hid (exC 3 HVV.out H40.out TA.out)
         have DV:Hid ((∀ t ∈ L.drop 3,VT t.t)∧(L.drop 3).length≤400):=⟨fun t ht=>HVV.out t (List.mem_of_mem_drop ht),by have:=H40.out;rw [List.length_drop];omega⟩
         have HBD:=Lib.hid hbd
         have hl3:=HL3.out
         have hcp:¬ cap=3:=by
          have q1:=HCP.out
          intro q
          have q2:L.drop 3=[]:=List.drop_eq_nil_of_le (by omega)
          rw [q2,badT_nil] at hbd
          omega
         have LD:Hid (D.os.length≤1000):=by have q:=PV.out.len;have:=LC.out;unfold Hid;omega
         go_upto_region 20 with (first|(go_at_call 56;refine (isC a (TA.out _ (by first|exact B3.out|exact B2.out))).mono ?_;rintro e w' ⟨rfl,rfl⟩;clear a)|(go_at_call 58;refine (SC.out _).mono ?_;rintro e w' ⟨rfl,rfl⟩))
         go_upto_region 21 with (first|(go_at_call 56;refine (isC b (TA.out _ (by first|exact B3.out|exact B2.out))).mono ?_;rintro e w' ⟨rfl,rfl⟩;clear b)|(go_at_call 56;refine (isC e (TA.out _ (by first|exact B3.out|exact B2.out))).mono ?_;rintro e w' ⟨rfl,rfl⟩;clear e)|(go_at_call 58;refine (SC.out _).mono ?_;rintro e w' ⟨rfl,rfl⟩))
         go_upto_region 24 with ((go_at_call 57;refine (TE.out _ _ _ (by first|exact B3.out|exact B2.out) (by have q1:=HL3.out;have q2:=HCP.out;first|exact .inl rfl|exact .inr (by omega)|(split;exact .inr (by omega);exact .inl rfl))).mono ?_;rintro e w5 h5;obtain ⟨x5,rfl,hb5,hx5⟩:=txp_tree2 DV.out.1 DV.out.2 h5;clear h5 TE;have B5:=Lib.hid (Below.trans (by first|exact B3.out|exact B2.out) (hb5.mono (by first|exact B3.out.size|exact B2.out.size)));have X5:=Lib.hid (hx5 HBD.out);have A5:=Lib.hid ((PV.out.next (by first|exact B3.out|exact B2.out)).av X5.out.2.2.1);clear hx5 hb5;have hbd0:=HBD.out;generalize badT _=bd at *))
         obtain ⟨w6,hw6,hbx,e0,e1,e2,e3⟩:=ex_boxP w5 x5
         rw [hw6]
         clear hw6
         have B6:=Lib.hid (B5.out.trans (hbx.mono B5.out.size))
         have X6:Hid (Pz.nr x5=Pc.tree (L.drop 3)∧ExAt w6 x5.b x5.o x5.a x5.k∧ExOk x5.a x5.k):=⟨X5.out.1,X5.out.2.1.next hbx,X5.out.2.2.2⟩
         have TBG:Hid (w.heap.size≤w5.heap.size):=B5.out.size
         have htb:=block_lt_of_cell e0
         generalize w5.heap.size=tb at *
         have htb2:tb < w6.heap.size:=htb
         clear htb X5 hbx hbd0 DV
         have XE:Hid (∀ wq,Ext w6.drew wq→wq.cell? ⟨tb,0,none⟩=some (.int .i64 x5.a.op)∧wq.cell? ⟨tb,1,none⟩=some (.int .i64 x5.a.num)∧wq.cell? ⟨tb,2,none⟩=some (.string x5.a.name)∧wq.cell? ⟨tb,3,none⟩=some (.slice x5.a.ptr (len x5.k) x5.a.cap)):=fun wq hq=>(by
          have hb:Below w6.heap.size w6 wq:=((Below.refl _ _).drew).trans (Below.mono hq (by simp))
          exact ⟨cell_next e0 hb,cell_next e1 hb,cell_next e2 hb,cell_next e3 hb⟩)
         have TC0:Hid (∀ wq,Ext w6.drew wq→wq.cell? ⟨g,O+0 * 4+1,none⟩=some (.string tx)):=fun wq hq=>(by
          have hb:Below w6.heap.size w6 wq:=((Below.refl _ _).drew).trans (Below.mono hq (by simp))
          have q:=T0.out wq (B6.out.trans (hb.mono B6.out.size))
          rw [show O+0 * 4+1=O+1 by omega]
          exact q)
         obtain ⟨ir,hir,hir0,hir1,hir2⟩:=info_parts Tryz.infoCoP
         have P6:=Lib.hid (PV.out.next B6.out)
         obtain ⟨pv,cv,hv⟩:∃ pv cv,vs 2=.slice pv D.os.length cv:=own_slp (P6.out.rows.ow 2)
         have HV:=Lib.hid hv
         clear hv
         have EX:Hid (∀ wq,Ext w6.drew wq→Below w.heap.size w wq):=fun wq hq=>(B6.out.drew).trans (Below.mono hq (by have:=B6.out.size;simpa using this))
         have PX:Hid (∀ wq,Ext w6.drew wq→PcV wq bs cb sb c vs D):=fun wq hq=>PV.out.next (EX.out wq hq)
         have EXN:Hid (∀ wq,Ext w6.drew wq→Below w6.heap.size w6 wq):=fun wq hq=>((Below.refl _ _).drew).trans (Below.mono hq (by simp))
         have HB0:Hid (w6.heap.size≤w6.drew.heap.size):=by unfold Hid;simp
         have OB:Hid (bs≤w6.heap.size∧cb < bs):=⟨Nat.le_trans LB.out.2 B6.out.size,LB.out.1⟩
         have CB:Hid (∀ wq,Ext w6.drew wq→wq.cell? ⟨cb,9,none⟩=some (.slice pv D.os.length cv)):=fun wq hq=>by rw [← HV.out];exact (PX.out wq hq).box.c9
         refine plan_tbl3 coxT (coxG cb g O L.length cap D.os.length cv w6.heap.size pv tb x5 tx sc) 13 16 (fun x w1 w'=>∃ pn cn,x 160=.slice pn (D.os.length+1) cn∧w'.ownsRow bs 40 5 (.slice pn (D.os.length+1) cn) (D.os.length+1) (D.os.flatMap coCl++coCl ⟨sc,x5.b,x5.o,x5.a,x5.k⟩)∧w1.grownBy w' (vs 2).ownBlock∧((Value.slice pn (D.os.length+1) cn).ownBlock=(vs 2).ownBlock∨(Value.slice pn (D.os.length+1) cn).ownBlock=some w1.heap.size)) (fun x w1 w'=>∃ pn cn we,w'=we.setCell ⟨cb,9,none⟩ (.slice pn (D.os.length+1) cn)∧we.ownsRow bs 40 5 (.slice pn (D.os.length+1) cn) (D.os.length+1) (D.os.flatMap coCl++coCl ⟨sc,x5.b,x5.o,x5.a,x5.k⟩)∧w1.grownBy we (vs 2).ownBlock∧((Value.slice pn (D.os.length+1) cn).ownBlock=(vs 2).ownBlock∨(Value.slice pn (D.os.length+1) cn).ownBlock=some w1.heap.size)) (by kernel_rfl) (by kernel_rfl) (fun i v w w' h he=>Wl.ext h he) (fun i=>decide (i≠0∧i≠14∧i≠15∧i < 13)) (by kernel_rfl) (by kernel_rfl) (by decide) ?hst ?hpu ?hla ?hyo ?hfin
         case hst =>
          intro i o ho hz hy
          match i,ho with
          | 0,ho=>obtain rfl:=Option.some.inj ho;intro a w3 hx hol hdep hwar;exact ⟨rfl,st_run (run_move a.eval _ _ _ _ _ w3 (.tmp 0) (.pointer (some ⟨cb,0,none⟩)) (hol 0 rfl)) (Ext.refl _) rfl⟩
          | 1,ho=>obtain rfl:=Option.some.inj ho;intro a w3 hx hol hdep hwar;exact ⟨rfl,st_run (run_move a.eval _ _ _ _ _ w3 (.tmp 0) (.pointer (some ⟨cb,0,none⟩)) (hol 0 rfl)) (Ext.refl _) rfl⟩
          | 2,ho=>obtain rfl:=Option.some.inj ho;intro a w3 hx hol hdep hwar;exact ⟨rfl,st_run (run_nilP a.eval _ _ _ _ _ w3 (.tmp 148) ⟨cb,0,none⟩ (hdep 148 1 rfl rfl)) (Ext.refl _) rfl⟩
          | 3,ho=>obtain rfl:=Option.some.inj ho;intro a w3 hx hol hdep hwar;exact ⟨rfl,st_run (run_fldC a.eval _ _ _ _ _ w3 (.tmp 149) cb 0 9 (by decide) (hdep 149 2 rfl rfl)) (Ext.refl _) rfl⟩
          | 4,ho=>obtain rfl:=Option.some.inj ho;intro a w3 hx hol hdep hwar;exact ⟨rfl,st_run (run_ld1 a.eval _ _ _ _ _ w3 (.tmp 150) ⟨cb,9,none⟩ 25 (by decide) _ (hdep 150 3 rfl rfl) (CB.out w3 hx)) (Ext.refl _) rfl⟩
          | 5,ho=>obtain rfl:=Option.some.inj ho;intro a w3 hx hol hdep hwar;exact ⟨rfl,st_run (run_move a.eval _ _ _ _ _ w3 (.tmp 2) (.slice (some ⟨g,O,none⟩) L.length cap) (hol 2 rfl)) (Ext.refl _) rfl⟩
          | 6,ho=>obtain rfl:=Option.some.inj ho;intro a w3 hx hol hdep hwar;exact ⟨rfl,st_run (run_ixT a.eval _ _ _ _ _ w3 (.tmp 152) g O L.length cap 0 rfl LL.out (hdep 152 5 rfl rfl)) (Ext.refl _) rfl⟩
          | 7,ho=>obtain rfl:=Option.some.inj ho;intro a w3 hx hol hdep hwar;exact ⟨rfl,st_run (run_fldT a.eval _ _ _ _ _ w3 (.tmp 153) g (O+0 * 4) 1 (by decide) (hdep 153 6 rfl rfl)) (Ext.refl _) rfl⟩
          | 8,ho=>obtain rfl:=Option.some.inj ho;intro a w3 hx hol hdep hwar;exact ⟨rfl,st_run (run_ld1 a.eval _ _ _ _ _ w3 (.tmp 154) ⟨g,O+0 * 4+1,none⟩ 9 (by decide) (.string tx) (hdep 154 7 rfl rfl) (TC0.out w3 hx)) (Ext.refl _) rfl⟩
          | 9,ho=>obtain rfl:=Option.some.inj ho;intro a w3 hx hol hdep hwar;have h9:a.tmps.getD 155 undef=.string tx:=hdep 155 8 rfl rfl;exact ⟨rfl,st_enter (run_call a.eval _ _ _ _ _ w3 _ #[.string tx] _ Tryz.func58 (by kernel_rfl) rfl rfl (by rw [map1P];exact congrArg (fun z=>#[z]) h9)) ((SC.out w3).mono (by rintro e w9 ⟨rfl,rfl⟩;exact ⟨_,rfl,Ext.refl _,rfl⟩))⟩
          | 10,ho=>obtain rfl:=Option.some.inj ho;intro a w3 hx hol hdep hwar;exact ⟨rfl,st_run (run_ldEP a.eval _ _ _ _ _ w3 (.tmp 13) tb _ _ _ _ (hol 13 rfl) (XE.out w3 hx).1 (XE.out w3 hx).2.1 (XE.out w3 hx).2.2.1 (XE.out w3 hx).2.2.2) (Ext.refl _) rfl⟩
          | 11,ho=>obtain rfl:=Option.some.inj ho;intro a w3 hx hol hdep hwar;exact ⟨rfl,st_run (run_bldK a.eval _ _ _ _ _ w3 (.tmp 156) (.tmp 157) sc _ _ _ _ (hdep 156 9 rfl rfl) (hdep 157 10 rfl rfl)) (Ext.refl _) rfl⟩
          | 12,ho=>obtain rfl:=Option.some.inj ho;intro a w3 hx hol hdep hwar;have hz:=(hx.size:(w6.drew).heap.size≤w3.heap.size);exact ⟨rfl,st_run (run_slK a.eval _ _ _ _ _ w3 (.tmp 158) (.int .i64 sc) (.int .i64 x5.a.op) (.int .i64 x5.a.num) (.string x5.a.name) (.slice x5.a.ptr (len x5.k) x5.a.cap) (hdep 158 11 rfl rfl)) (Ext.alloc _ _) (wl_new5 w3 w6.heap.size (Nat.le_trans HB0.out hz) (.int .i64 sc) (.int .i64 x5.a.op) (.int .i64 x5.a.num) (.string x5.a.name) (.slice x5.a.ptr (len x5.k) x5.a.cap) _)⟩
          | 13,ho=>exact absurd rfl hz
          | 14,ho=>obtain rfl:=Option.some.inj ho;intro a w3 hx hol hdep hwar;exact ⟨rfl,st_run (run_nilP a.eval _ _ _ _ _ w3 (.tmp 147) ⟨cb,0,none⟩ (hdep 147 0 rfl rfl)) (Ext.refl _) rfl⟩
          | 15,ho=>obtain rfl:=Option.some.inj ho;intro a w3 hx hol hdep hwar;exact ⟨rfl,st_run (run_fldC a.eval _ _ _ _ _ w3 (.tmp 161) cb 0 9 (by decide) (hdep 161 14 rfl rfl)) (Ext.refl _) rfl⟩
          | 16,ho=>exact absurd rfl hy
          | i+17,ho=>cases ho
         case hpu =>
          intro i o ho hz hy
          match i,ho with
          | 0,ho=>obtain rfl:=Option.some.inj ho;refine .inr ?_;intro a w1 w3 hx hsz hol hdep hwar hf;exact ⟨rfl,wp_of_run (run_move a.eval _ _ _ _ _ w3 (.tmp 0) (.pointer (some ⟨cb,0,none⟩)) (hol 0 rfl)) ⟨_,rfl,rfl,fun _=>rfl,hf.imp fun pn q=>q.imp fun cn q=>⟨(show (a.put (some 147) _).tmps.getD 160 undef=_ from by rw [put_getD,if_neg (fun e=>absurd e.1 (by decide))];exact q.1),q.2⟩⟩⟩
          | 1,ho=>exact .inl rfl
          | 2,ho=>exact .inl rfl
          | 3,ho=>exact .inl rfl
          | 4,ho=>exact .inl rfl
          | 5,ho=>exact .inl rfl
          | 6,ho=>exact .inl rfl
          | 7,ho=>exact .inl rfl
          | 8,ho=>exact .inl rfl
          | 9,ho=>exact .inl rfl
          | 10,ho=>exact .inl rfl
          | 11,ho=>exact .inl rfl
          | 12,ho=>exact .inl rfl
          | 13,ho=>exact absurd rfl hz
          | 14,ho=>obtain rfl:=Option.some.inj ho;refine .inr ?_;intro a w1 w3 hx hsz hol hdep hwar hf;exact ⟨rfl,wp_of_run (run_nilP a.eval _ _ _ _ _ w3 (.tmp 147) ⟨cb,0,none⟩ (hdep 147 0 rfl rfl)) ⟨_,rfl,rfl,fun _=>rfl,hf.imp fun pn q=>q.imp fun cn q=>⟨(show (a.put (some 161) _).tmps.getD 160 undef=_ from by rw [put_getD,if_neg (fun e=>absurd e.1 (by decide))];exact q.1),q.2⟩⟩⟩
          | 15,ho=>obtain rfl:=Option.some.inj ho;refine .inr ?_;intro a w1 w3 hx hsz hol hdep hwar hf;exact ⟨rfl,wp_of_run (run_fldC a.eval _ _ _ _ _ w3 (.tmp 161) cb 0 9 (by decide) (hdep 161 14 rfl rfl)) ⟨_,rfl,rfl,fun _=>rfl,hf.imp fun pn q=>q.imp fun cn q=>⟨(show (a.put (some 162) _).tmps.getD 160 undef=_ from by rw [put_getD,if_neg (fun e=>absurd e.1 (by decide))];exact q.1),q.2⟩⟩⟩
          | 16,ho=>exact absurd rfl hy
          | i+17,ho=>cases ho
         case hla =>
          intro o ho
          obtain rfl:=Option.some.inj ho
          intro a w3 hx hsz hol hdep hwar
          obtain ⟨b,h1,h2,h3,h4⟩:=(hdep 159 12 rfl rfl:(Wl.row w6.heap.size (coCl ⟨sc,x5.b,x5.o,x5.a,x5.k⟩)).ok (a.tmps.getD 159 undef) w3)
          have h5:a.tmps.getD 151 undef=.slice pv D.os.length cv:=hdep 151 4 rfl rfl
          have PQ:=PX.out w3 hx
          have OW:w3.ownsRow bs 40 5 (.slice pv D.os.length cv) D.os.length (D.os.flatMap coCl):=by have q:=PQ.rows.ow 2;rw [← HV.out];exact q
          refine ⟨rfl,?_⟩
          refine wp_of_append w3 rfl (.tmp 151) (.tmp 159) 25 rfl bs 40 ir (.agg #[.int .i64 0,.int .i64 0,.int .i64 0,.string ⟨#[]⟩,.slice none 0 0]) 5 64 Tryz.underlying25 hir hir0 hir1 hir2 rfl (by decide) (.slice pv D.os.length cv) D.os.length (D.os.flatMap coCl) h5 OW ⟨b,0,none⟩ 1 1 (coCl ⟨sc,x5.b,x5.o,x5.a,x5.k⟩) h1 rfl (fun j u hj=>by have q:=h4 j u hj;by_cases e:j=0;(subst e;simpa [Addr.add] using q);simpa [Addr.add,e] using q) (oneP_co _) (by have:=LD.out;unfold maxLen;omega) (by have:=LD.out;omega) (by have q1:=OB.out;have q2:w6.drew.heap.size≤w3.heap.size:=hx.size;have q3:=HB0.out;omega) ?_
          intro v' w' hown hgrow hob
          obtain ⟨pn,cn,hvn⟩:=own_slp hown
          subst hvn
          refine ⟨_,rfl,fun _=>trivial,pn,cn,?_,hown,by rw [HV.out];exact hgrow,by rw [HV.out];exact hob⟩
          show (a.put (some 160) _).tmps.getD 160 undef=_
          rw [put_getD,if_pos ⟨rfl,by rw [hsz];exact (show (160:Nat) < 335 from by decide)⟩]
         case hyo =>
          intro o ho
          obtain rfl:=Option.some.inj ho
          intro a w1 w3 hx hsz hol hdep hwar hf
          obtain ⟨pn,cn,h1,hown,hgrow,hob⟩:=hf
          have h2:a.tmps.getD 162 undef=.pointer (some ⟨cb,9,none⟩):=hdep 162 15 rfl rfl
          have PQ:=PX.out w1 hx
          have GB:=PQ.box.grown hgrow (by rw [HV.out];exact fun e'=>by have q:=((PQ.rows.ow 2).lt cb (by show (vs 2).ownBlock=_;rw [HV.out];exact e'.symm)).1;have:=OB.out;omega)
          exact ⟨rfl,wp_skipP (run_st1 a.eval _ _ _ _ w3 (.tmp 162) (.tmp 160) ⟨cb,9,none⟩ 25 (by decide) pn _ cn _ h2 h1 GB.c9 GB.f9) ⟨undef,rfl,fun h=>absurd h (by decide),pn,cn,w3,rfl,hown,hgrow,hob⟩⟩
         case hfin =>
          rintro x w1 w9 h1 h2 ⟨pn,cn,we,rfl,hown,hgrow,hob⟩
          have APP:=Lib.hid (PcV.app2 (PX.out w1 h1) ⟨sc,x5.b,x5.o,x5.a,x5.k⟩ (X6.out.2.1.next (EXN.out w1 h1)) (A5.out) (⟨X6.out.2.2,show Bd sc by unfold Bd;omega⟩) hown hgrow hob)
          have BEL:Hid (∀ m,m≤cb→m≤bs→m≤w.heap.size→Below m w (we.setCell ⟨cb,9,none⟩ (.slice pn (D.os.length+1) cn))):=(fun m q1 q2 q3=>below_app (below_low (EX.out w1 h1) q3) q3 hgrow (fun g' e'=>Nat.le_trans q2 (((PX.out w1 h1).rows.ow 2).lt g' e').1) q1 _ _)
          clear h1 h2 hown hgrow hob
          generalize we.setCell ⟨cb,9,none⟩ (.slice pn (D.os.length+1) cn)=w9 at *
          dsimp only [frameT,coxT,List.foldl]
          generalize x 147=q147
          generalize x 148=q148
          generalize x 149=q149
          generalize x 150=q150
          generalize x 151=q151
          generalize x 152=q152
          generalize x 153=q153
          generalize x 154=q154
          generalize x 155=q155
          generalize x 156=q156
          generalize x 157=q157
          generalize x 158=q158
          generalize x 159=q159
          generalize x 160=q160
          generalize x 161=q161
          generalize x 162=q162
          clear x
          go_simp
          go_wp2_with fail
          go_ret
          exact dcp_ok RQ.out (by have q:=APP.out;rw [show Pz.nr (coTr ⟨sc,x5.b,x5.o,x5.a,x5.k⟩)=Pc.tree _ from X6.out.1] at q;exact q) (fun m q1 q2 q3 q4=>BEL.out m q1 q3 q4)
  | true =>
    have ct:=isw_two a (b:=Pc.wCost) (by decide)
    have cr:=isw_two a (b:=Pc.wCredit) (by decide)
    cases b:Pc.nmd L 2 with
    | false =>
      by_cases hd:tx=Pc.wDuty
      ·
       have nd:tx.toList=[100,117,116,121]:=tl_eq hd
       have HD:=Lib.hid hd
       clear hd
       have RQ:Hid (R=(c,1)):=by unfold Hid;rw [REST.out];unfold restT;simp [hsc,hz,hnc,hnl,hno,HD.out,a,ct,cr,b,wn_all]
       go_upto_region 20 with (first|(go_at_call 56;refine (isC a (TA.out _ (by first|exact B3.out|exact B2.out))).mono ?_;rintro e w' ⟨rfl,rfl⟩;clear a)|(go_at_call 55;refine (nmCd HS.out b (TA.out _ (by exact B2.out))).mono ?_;rintro e w2 ⟨rfl,hb2⟩;have B3:=Lib.hid (B2.out.trans (hb2.mono B2.out.size));have tc3:=T0.out _ B3.out;clear hb2 tc2 b)|(go_at_call 58;refine (SC.out _).mono ?_;rintro e w' ⟨rfl,rfl⟩))
       go_upto_region 25 with (first|(go_at_call 56;refine (isC ct (TA.out _ (by first|exact B3.out|exact B2.out))).mono ?_;rintro e w' ⟨rfl,rfl⟩;clear ct)|(go_at_call 58;refine (SC.out _).mono ?_;rintro e w' ⟨rfl,rfl⟩))
       go_wp2_with (first|(go_at_call 56;refine (isC cr (TA.out _ (by first|exact B3.out|exact B2.out))).mono ?_;rintro e w' ⟨rfl,rfl⟩;clear cr)|(go_at_call 58;refine (SC.out _).mono ?_;rintro e w' ⟨rfl,rfl⟩))
       go_ret
       exact dcp_err RQ.out (by decide) (by first|exact B3.out|exact B2.out)
      ·
       have nd:¬ tx.toList=[100,117,116,121]:=tl_neD hd
       have HD:=Lib.hid hd
       clear hd
       have RQ:Hid (R=(c,1)):=by unfold Hid;rw [REST.out];unfold restT;simp [hsc,hz,hnc,hnl,hno,HD.out,a,ct,cr,b,wn_all]
       go_upto_region 20 with (first|(go_at_call 56;refine (isC a (TA.out _ (by first|exact B3.out|exact B2.out))).mono ?_;rintro e w' ⟨rfl,rfl⟩;clear a)|(go_at_call 55;refine (nmCd HS.out b (TA.out _ (by exact B2.out))).mono ?_;rintro e w2 ⟨rfl,hb2⟩;have B3:=Lib.hid (B2.out.trans (hb2.mono B2.out.size));have tc3:=T0.out _ B3.out;clear hb2 tc2 b)|(go_at_call 58;refine (SC.out _).mono ?_;rintro e w' ⟨rfl,rfl⟩))
       go_upto_region 25 with (first|(go_at_call 56;refine (isC ct (TA.out _ (by first|exact B3.out|exact B2.out))).mono ?_;rintro e w' ⟨rfl,rfl⟩;clear ct)|(go_at_call 58;refine (SC.out _).mono ?_;rintro e w' ⟨rfl,rfl⟩))
       go_wp2_with (first|(go_at_call 58;refine (SC.out _).mono ?_;rintro e w' ⟨rfl,rfl⟩))
       go_ret
       exact dcp_err RQ.out (by decide) (by first|exact B3.out|exact B2.out)
    | true =>
      cases e:Pc.isW L 3 Pc.wIs with
      | false =>
        by_cases hd:tx=Pc.wDuty
        ·
         have nd:tx.toList=[100,117,116,121]:=tl_eq hd
         have HD:=Lib.hid hd
         clear hd
         have RQ:Hid (R=(c,1)):=by unfold Hid;rw [REST.out];unfold restT;simp [hsc,hz,hnc,hnl,hno,HD.out,a,ct,cr,b,e,wn_all]
         go_upto_region 20 with (first|(go_at_call 56;refine (isC a (TA.out _ (by first|exact B3.out|exact B2.out))).mono ?_;rintro e w' ⟨rfl,rfl⟩;clear a)|(go_at_call 55;refine (nmCd HS.out b (TA.out _ (by exact B2.out))).mono ?_;rintro e w2 ⟨rfl,hb2⟩;have B3:=Lib.hid (B2.out.trans (hb2.mono B2.out.size));have tc3:=T0.out _ B3.out;clear hb2 tc2 b)|(go_at_call 56;refine (isC e (TA.out _ (by first|exact B3.out|exact B2.out))).mono ?_;rintro e w' ⟨rfl,rfl⟩;clear e)|(go_at_call 58;refine (SC.out _).mono ?_;rintro e w' ⟨rfl,rfl⟩))
         go_upto_region 25 with (first|(go_at_call 56;refine (isC ct (TA.out _ (by first|exact B3.out|exact B2.out))).mono ?_;rintro e w' ⟨rfl,rfl⟩;clear ct)|(go_at_call 58;refine (SC.out _).mono ?_;rintro e w' ⟨rfl,rfl⟩))
         go_wp2_with (first|(go_at_call 56;refine (isC cr (TA.out _ (by first|exact B3.out|exact B2.out))).mono ?_;rintro e w' ⟨rfl,rfl⟩;clear cr)|(go_at_call 58;refine (SC.out _).mono ?_;rintro e w' ⟨rfl,rfl⟩))
         go_ret
         exact dcp_err RQ.out (by decide) (by first|exact B3.out|exact B2.out)
        ·
         have nd:¬ tx.toList=[100,117,116,121]:=tl_neD hd
         have HD:=Lib.hid hd
         clear hd
         have RQ:Hid (R=(c,1)):=by unfold Hid;rw [REST.out];unfold restT;simp [hsc,hz,hnc,hnl,hno,HD.out,a,ct,cr,b,e,wn_all]
         go_upto_region 20 with (first|(go_at_call 56;refine (isC a (TA.out _ (by first|exact B3.out|exact B2.out))).mono ?_;rintro e w' ⟨rfl,rfl⟩;clear a)|(go_at_call 55;refine (nmCd HS.out b (TA.out _ (by exact B2.out))).mono ?_;rintro e w2 ⟨rfl,hb2⟩;have B3:=Lib.hid (B2.out.trans (hb2.mono B2.out.size));have tc3:=T0.out _ B3.out;clear hb2 tc2 b)|(go_at_call 56;refine (isC e (TA.out _ (by first|exact B3.out|exact B2.out))).mono ?_;rintro e w' ⟨rfl,rfl⟩;clear e)|(go_at_call 58;refine (SC.out _).mono ?_;rintro e w' ⟨rfl,rfl⟩))
         go_upto_region 25 with (first|(go_at_call 56;refine (isC ct (TA.out _ (by first|exact B3.out|exact B2.out))).mono ?_;rintro e w' ⟨rfl,rfl⟩;clear ct)|(go_at_call 58;refine (SC.out _).mono ?_;rintro e w' ⟨rfl,rfl⟩))
         go_wp2_with (first|(go_at_call 58;refine (SC.out _).mono ?_;rintro e w' ⟨rfl,rfl⟩))
         go_ret
         exact dcp_err RQ.out (by decide) (by first|exact B3.out|exact B2.out)
      | true =>
        by_cases hbd:0≤badT (L.drop 4)
        ·
         have RQ:Hid (R=(c,1)):=by unfold Hid;rw [REST.out];unfold restT;simp [hsc,hz,hnc,hnl,hno,a,b,e,Pc.ifEx,hbd,wn_all]
         have HL3:Hid (4≤L.length):=isw_lt e
         have TE:=Lib.hid (exC 4 HVV.out H40.out TA.out)
         have DV:Hid ((∀ t ∈ L.drop 4,VT t.t)∧(L.drop 4).length≤400):=⟨fun t ht=>HVV.out t (List.mem_of_mem_drop ht),by have:=H40.out;rw [List.length_drop];omega⟩
         have HBD:=Lib.hid hbd
         have hl3:=HL3.out
         go_upto_region 16 with (first|(go_at_call 56;refine (isC a (TA.out _ (by first|exact B3.out|exact B2.out))).mono ?_;rintro e w' ⟨rfl,rfl⟩;clear a)|(go_at_call 55;refine (nmCd HS.out b (TA.out _ (by exact B2.out))).mono ?_;rintro e w2 ⟨rfl,hb2⟩;have B3:=Lib.hid (B2.out.trans (hb2.mono B2.out.size));have tc3:=T0.out _ B3.out;clear hb2 tc2 b)|(go_at_call 56;refine (isC e (TA.out _ (by first|exact B3.out|exact B2.out))).mono ?_;rintro e w' ⟨rfl,rfl⟩;clear e)|(go_at_call 58;refine (SC.out _).mono ?_;rintro e w' ⟨rfl,rfl⟩))
         go_wp2_with ((go_at_call 57;refine (TE.out _ _ _ (by first|exact B3.out|exact B2.out) (by have q1:=HL3.out;have q2:=HCP.out;first|exact .inl rfl|exact .inr (by omega)|(split;exact .inr (by omega);exact .inl rfl))).mono ?_;rintro e w5 h5;obtain ⟨x5,rfl,hb5,hx5⟩:=txp_tree2 DV.out.1 DV.out.2 h5;clear h5 TE;have B5:=Lib.hid (Below.trans (by first|exact B3.out|exact B2.out) (hb5.mono (by first|exact B3.out.size|exact B2.out.size)));clear hx5 hb5;generalize badT _=bd at *;have hbd0:=HBD.out))
         all_goals
          go_ret
          exact dcp_err RQ.out (by decide) (B5.out.trans ((blw_box _ _).mono B5.out.size))
        ·
         replace hbd:badT (L.drop 4) < 0:=by omega
         have RQ:Hid (R=({ c with rs:=c.rs++[(sc,(Pc.tok L 2).text,Pc.tree (L.drop 4))] },0)):=by unfold Hid;rw [REST.out];unfold restT;simp [hsc,hz,hnc,hnl,hno,a,b,e,Pc.ifEx,show ¬ 0≤badT (L.drop 4) from by omega,wn_all]
         have HL3:Hid (4≤L.length):=isw_lt e
         have TE:=Lib.hid (exC 4 HVV.out H40.out TA.out)
         have DV:Hid ((∀ t ∈ L.drop 4,VT t.t)∧(L.drop 4).length≤400):=⟨fun t ht=>HVV.out t (List.mem_of_mem_drop ht),by have:=H40.out;rw [List.length_drop];omega⟩
         have HBD:=Lib.hid hbd
         have hl3:=HL3.out
         have hcp:¬ cap=4:=by
          have q1:=HCP.out
          intro q
          have q2:L.drop 4=[]:=List.drop_eq_nil_of_le (by omega)
          rw [q2,badT_nil] at hbd
          omega
         have ix2:(2:Int) < (L.length:Int):=by omega
         have IX2:Hid (2 < L.length):=by unfold Hid;omega
         have TK21:Hid (∀ wq,Below w.heap.size w wq→wq.cell? ⟨g,O+2 * 4+1,none⟩=some (.string (Pc.tok L 2).text)):=fun wq hb=>(tkc (TA.out wq hb) IX2.out).1
         have NS21:Hid ((Pc.tok L 2).text.size≤9223372036854775807):=tok_sz HS.out 2
         obtain ⟨t21,ht21⟩:∃ z,(Pc.tok L 2).text=z:=⟨_,rfl⟩
         rw [ht21] at TK21 NS21 RQ
         have LD:Hid (D.rs.length≤1000):=by have q:=PV.out.len;have:=LC.out;unfold Hid;omega
         go_upto_region 16 with (first|(go_at_call 56;refine (isC a (TA.out _ (by first|exact B3.out|exact B2.out))).mono ?_;rintro e w' ⟨rfl,rfl⟩;clear a)|(go_at_call 55;refine (nmCd HS.out b (TA.out _ (by exact B2.out))).mono ?_;rintro e w2 ⟨rfl,hb2⟩;have B3:=Lib.hid (B2.out.trans (hb2.mono B2.out.size));have tc3:=T0.out _ B3.out;clear hb2 tc2 b)|(go_at_call 56;refine (isC e (TA.out _ (by first|exact B3.out|exact B2.out))).mono ?_;rintro e w' ⟨rfl,rfl⟩;clear e)|(go_at_call 58;refine (SC.out _).mono ?_;rintro e w' ⟨rfl,rfl⟩))
         go_upto_region 19 with ((go_at_call 57;refine (TE.out _ _ _ (by first|exact B3.out|exact B2.out) (by have q1:=HL3.out;have q2:=HCP.out;first|exact .inl rfl|exact .inr (by omega)|(split;exact .inr (by omega);exact .inl rfl))).mono ?_;rintro e w5 h5;obtain ⟨x5,rfl,hb5,hx5⟩:=txp_tree2 DV.out.1 DV.out.2 h5;clear h5 TE;have B5:=Lib.hid (Below.trans (by first|exact B3.out|exact B2.out) (hb5.mono (by first|exact B3.out.size|exact B2.out.size)));have X5:=Lib.hid (hx5 HBD.out);have A5:=Lib.hid ((PV.out.next (by first|exact B3.out|exact B2.out)).av X5.out.2.2.1);clear hx5 hb5;have hbd0:=HBD.out;generalize badT _=bd at *))
         obtain ⟨w6,hw6,hbx,e0,e1,e2,e3⟩:=ex_boxP w5 x5
         rw [hw6]
         clear hw6
         have B6:=Lib.hid (B5.out.trans (hbx.mono B5.out.size))
         have X6:Hid (Pz.nr x5=Pc.tree (L.drop 4)∧ExAt w6 x5.b x5.o x5.a x5.k∧ExOk x5.a x5.k):=⟨X5.out.1,X5.out.2.1.next hbx,X5.out.2.2.2⟩
         have TBG:Hid (w.heap.size≤w5.heap.size):=B5.out.size
         have htb:=block_lt_of_cell e0
         generalize w5.heap.size=tb at *
         have htb2:tb < w6.heap.size:=htb
         clear htb X5 hbx hbd0 DV
         have XE:Hid (∀ wq,Ext w6.drew wq→wq.cell? ⟨tb,0,none⟩=some (.int .i64 x5.a.op)∧wq.cell? ⟨tb,1,none⟩=some (.int .i64 x5.a.num)∧wq.cell? ⟨tb,2,none⟩=some (.string x5.a.name)∧wq.cell? ⟨tb,3,none⟩=some (.slice x5.a.ptr (len x5.k) x5.a.cap)):=fun wq hq=>(by
          have hb:Below w6.heap.size w6 wq:=((Below.refl _ _).drew).trans (Below.mono hq (by simp))
          exact ⟨cell_next e0 hb,cell_next e1 hb,cell_next e2 hb,cell_next e3 hb⟩)
         have TC0:Hid (∀ wq,Ext w6.drew wq→wq.cell? ⟨g,O+0 * 4+1,none⟩=some (.string tx)):=fun wq hq=>(by
          have hb:Below w6.heap.size w6 wq:=((Below.refl _ _).drew).trans (Below.mono hq (by simp))
          have q:=T0.out wq (B6.out.trans (hb.mono B6.out.size))
          rw [show O+0 * 4+1=O+1 by omega]
          exact q)
         obtain ⟨ir,hir,hir0,hir1,hir2⟩:=info_parts Tryz.infoRuP
         have P6:=Lib.hid (PV.out.next B6.out)
         obtain ⟨pv,cv,hv⟩:∃ pv cv,vs 1=.slice pv D.rs.length cv:=own_slp (P6.out.rows.ow 1)
         have HV:=Lib.hid hv
         clear hv
         have EX:Hid (∀ wq,Ext w6.drew wq→Below w.heap.size w wq):=fun wq hq=>(B6.out.drew).trans (Below.mono hq (by have:=B6.out.size;simpa using this))
         have PX:Hid (∀ wq,Ext w6.drew wq→PcV wq bs cb sb c vs D):=fun wq hq=>PV.out.next (EX.out wq hq)
         have EXN:Hid (∀ wq,Ext w6.drew wq→Below w6.heap.size w6 wq):=fun wq hq=>((Below.refl _ _).drew).trans (Below.mono hq (by simp))
         have HB0:Hid (w6.heap.size≤w6.drew.heap.size):=by unfold Hid;simp
         have OB:Hid (bs≤w6.heap.size∧cb < bs):=⟨Nat.le_trans LB.out.2 B6.out.size,LB.out.1⟩
         have CB:Hid (∀ wq,Ext w6.drew wq→wq.cell? ⟨cb,8,none⟩=some (.slice pv D.rs.length cv)):=fun wq hq=>by rw [← HV.out];exact (PX.out wq hq).box.c8
         have TC21:Hid (∀ wq,Ext w6.drew wq→wq.cell? ⟨g,O+2 * 4+1,none⟩=some (.string t21)):=fun wq hq=>TK21.out wq (EX.out wq hq)
         refine plan_tbl3 ruxT (ruxG cb g O L.length cap D.rs.length cv w6.heap.size pv t21 tb x5 tx sc) 17 20 (fun x w1 w'=>∃ pn cn,x 121=.slice pn (D.rs.length+1) cn∧w'.ownsRow bs 38 6 (.slice pn (D.rs.length+1) cn) (D.rs.length+1) (D.rs.flatMap ruCl++ruCl ⟨sc,t21,x5.b,x5.o,x5.a,x5.k⟩)∧w1.grownBy w' (vs 1).ownBlock∧((Value.slice pn (D.rs.length+1) cn).ownBlock=(vs 1).ownBlock∨(Value.slice pn (D.rs.length+1) cn).ownBlock=some w1.heap.size)) (fun x w1 w'=>∃ pn cn we,w'=we.setCell ⟨cb,8,none⟩ (.slice pn (D.rs.length+1) cn)∧we.ownsRow bs 38 6 (.slice pn (D.rs.length+1) cn) (D.rs.length+1) (D.rs.flatMap ruCl++ruCl ⟨sc,t21,x5.b,x5.o,x5.a,x5.k⟩)∧w1.grownBy we (vs 1).ownBlock∧((Value.slice pn (D.rs.length+1) cn).ownBlock=(vs 1).ownBlock∨(Value.slice pn (D.rs.length+1) cn).ownBlock=some w1.heap.size)) (by kernel_rfl) (by kernel_rfl) (fun i v w w' h he=>Wl.ext h he) (fun i=>decide (i≠0∧i≠18∧i≠19∧i < 17)) (by kernel_rfl) (by kernel_rfl) (by decide) ?hst ?hpu ?hla ?hyo ?hfin
         case hst =>
          intro i o ho hz hy
          match i,ho with
          | 0,ho=>obtain rfl:=Option.some.inj ho;intro a w3 hx hol hdep hwar;exact ⟨rfl,st_run (run_move a.eval _ _ _ _ _ w3 (.tmp 0) (.pointer (some ⟨cb,0,none⟩)) (hol 0 rfl)) (Ext.refl _) rfl⟩
          | 1,ho=>obtain rfl:=Option.some.inj ho;intro a w3 hx hol hdep hwar;exact ⟨rfl,st_run (run_move a.eval _ _ _ _ _ w3 (.tmp 0) (.pointer (some ⟨cb,0,none⟩)) (hol 0 rfl)) (Ext.refl _) rfl⟩
          | 2,ho=>obtain rfl:=Option.some.inj ho;intro a w3 hx hol hdep hwar;exact ⟨rfl,st_run (run_nilP a.eval _ _ _ _ _ w3 (.tmp 105) ⟨cb,0,none⟩ (hdep 105 1 rfl rfl)) (Ext.refl _) rfl⟩
          | 3,ho=>obtain rfl:=Option.some.inj ho;intro a w3 hx hol hdep hwar;exact ⟨rfl,st_run (run_fldC a.eval _ _ _ _ _ w3 (.tmp 106) cb 0 8 (by decide) (hdep 106 2 rfl rfl)) (Ext.refl _) rfl⟩
          | 4,ho=>obtain rfl:=Option.some.inj ho;intro a w3 hx hol hdep hwar;exact ⟨rfl,st_run (run_ld1 a.eval _ _ _ _ _ w3 (.tmp 107) ⟨cb,8,none⟩ 24 (by decide) _ (hdep 107 3 rfl rfl) (CB.out w3 hx)) (Ext.refl _) rfl⟩
          | 5,ho=>obtain rfl:=Option.some.inj ho;intro a w3 hx hol hdep hwar;exact ⟨rfl,st_run (run_move a.eval _ _ _ _ _ w3 (.tmp 2) (.slice (some ⟨g,O,none⟩) L.length cap) (hol 2 rfl)) (Ext.refl _) rfl⟩
          | 6,ho=>obtain rfl:=Option.some.inj ho;intro a w3 hx hol hdep hwar;exact ⟨rfl,st_run (run_ixT a.eval _ _ _ _ _ w3 (.tmp 109) g O L.length cap 0 rfl LL.out (hdep 109 5 rfl rfl)) (Ext.refl _) rfl⟩
          | 7,ho=>obtain rfl:=Option.some.inj ho;intro a w3 hx hol hdep hwar;exact ⟨rfl,st_run (run_fldT a.eval _ _ _ _ _ w3 (.tmp 110) g (O+0 * 4) 1 (by decide) (hdep 110 6 rfl rfl)) (Ext.refl _) rfl⟩
          | 8,ho=>obtain rfl:=Option.some.inj ho;intro a w3 hx hol hdep hwar;exact ⟨rfl,st_run (run_ld1 a.eval _ _ _ _ _ w3 (.tmp 111) ⟨g,O+0 * 4+1,none⟩ 9 (by decide) (.string tx) (hdep 111 7 rfl rfl) (TC0.out w3 hx)) (Ext.refl _) rfl⟩
          | 9,ho=>obtain rfl:=Option.some.inj ho;intro a w3 hx hol hdep hwar;have h9:a.tmps.getD 112 undef=.string tx:=hdep 112 8 rfl rfl;exact ⟨rfl,st_enter (run_call a.eval _ _ _ _ _ w3 _ #[.string tx] _ Tryz.func58 (by kernel_rfl) rfl rfl (by rw [map1P];exact congrArg (fun z=>#[z]) h9)) ((SC.out w3).mono (by rintro e w9 ⟨rfl,rfl⟩;exact ⟨_,rfl,Ext.refl _,rfl⟩))⟩
          | 10,ho=>obtain rfl:=Option.some.inj ho;intro a w3 hx hol hdep hwar;exact ⟨rfl,st_run (run_move a.eval _ _ _ _ _ w3 (.tmp 2) (.slice (some ⟨g,O,none⟩) L.length cap) (hol 2 rfl)) (Ext.refl _) rfl⟩
          | 11,ho=>obtain rfl:=Option.some.inj ho;intro a w3 hx hol hdep hwar;exact ⟨rfl,st_run (run_ixT a.eval _ _ _ _ _ w3 (.tmp 114) g O L.length cap 2 rfl IX2.out (hdep 114 10 rfl rfl)) (Ext.refl _) rfl⟩
          | 12,ho=>obtain rfl:=Option.some.inj ho;intro a w3 hx hol hdep hwar;exact ⟨rfl,st_run (run_fldT a.eval _ _ _ _ _ w3 (.tmp 115) g (O+2 * 4) 1 (by decide) (hdep 115 11 rfl rfl)) (Ext.refl _) rfl⟩
          | 13,ho=>obtain rfl:=Option.some.inj ho;intro a w3 hx hol hdep hwar;exact ⟨rfl,st_run (run_ld1 a.eval _ _ _ _ _ w3 (.tmp 116) ⟨g,O+2 * 4+1,none⟩ 9 (by decide) (.string t21) (hdep 116 12 rfl rfl) (TC21.out w3 hx)) (Ext.refl _) rfl⟩
          | 14,ho=>obtain rfl:=Option.some.inj ho;intro a w3 hx hol hdep hwar;exact ⟨rfl,st_run (run_ldEP a.eval _ _ _ _ _ w3 (.tmp 11) tb _ _ _ _ (hol 11 rfl) (XE.out w3 hx).1 (XE.out w3 hx).2.1 (XE.out w3 hx).2.2.1 (XE.out w3 hx).2.2.2) (Ext.refl _) rfl⟩
          | 15,ho=>obtain rfl:=Option.some.inj ho;intro a w3 hx hol hdep hwar;exact ⟨rfl,st_run (run_bldR a.eval _ _ _ _ _ w3 (.tmp 113) (.tmp 117) (.tmp 118) sc t21 _ _ _ _ (hdep 113 9 rfl rfl) (hdep 117 13 rfl rfl) (hdep 118 14 rfl rfl)) (Ext.refl _) rfl⟩
          | 16,ho=>obtain rfl:=Option.some.inj ho;intro a w3 hx hol hdep hwar;have hz:=(hx.size:(w6.drew).heap.size≤w3.heap.size);exact ⟨rfl,st_run (run_slR a.eval _ _ _ _ _ w3 (.tmp 119) (.int .i64 sc) (.string t21) (.int .i64 x5.a.op) (.int .i64 x5.a.num) (.string x5.a.name) (.slice x5.a.ptr (len x5.k) x5.a.cap) (hdep 119 15 rfl rfl)) (Ext.alloc _ _) (wl_new6 w3 w6.heap.size (Nat.le_trans HB0.out hz) (.int .i64 sc) (.string t21) (.int .i64 x5.a.op) (.int .i64 x5.a.num) (.string x5.a.name) (.slice x5.a.ptr (len x5.k) x5.a.cap) _)⟩
          | 17,ho=>exact absurd rfl hz
          | 18,ho=>obtain rfl:=Option.some.inj ho;intro a w3 hx hol hdep hwar;exact ⟨rfl,st_run (run_nilP a.eval _ _ _ _ _ w3 (.tmp 104) ⟨cb,0,none⟩ (hdep 104 0 rfl rfl)) (Ext.refl _) rfl⟩
          | 19,ho=>obtain rfl:=Option.some.inj ho;intro a w3 hx hol hdep hwar;exact ⟨rfl,st_run (run_fldC a.eval _ _ _ _ _ w3 (.tmp 122) cb 0 8 (by decide) (hdep 122 18 rfl rfl)) (Ext.refl _) rfl⟩
          | 20,ho=>exact absurd rfl hy
          | i+21,ho=>cases ho
         case hpu =>
          intro i o ho hz hy
          match i,ho with
          | 0,ho=>obtain rfl:=Option.some.inj ho;refine .inr ?_;intro a w1 w3 hx hsz hol hdep hwar hf;exact ⟨rfl,wp_of_run (run_move a.eval _ _ _ _ _ w3 (.tmp 0) (.pointer (some ⟨cb,0,none⟩)) (hol 0 rfl)) ⟨_,rfl,rfl,fun _=>rfl,hf.imp fun pn q=>q.imp fun cn q=>⟨(show (a.put (some 104) _).tmps.getD 121 undef=_ from by rw [put_getD,if_neg (fun e=>absurd e.1 (by decide))];exact q.1),q.2⟩⟩⟩
          | 1,ho=>exact .inl rfl
          | 2,ho=>exact .inl rfl
          | 3,ho=>exact .inl rfl
          | 4,ho=>exact .inl rfl
          | 5,ho=>exact .inl rfl
          | 6,ho=>exact .inl rfl
          | 7,ho=>exact .inl rfl
          | 8,ho=>exact .inl rfl
          | 9,ho=>exact .inl rfl
          | 10,ho=>exact .inl rfl
          | 11,ho=>exact .inl rfl
          | 12,ho=>exact .inl rfl
          | 13,ho=>exact .inl rfl
          | 14,ho=>exact .inl rfl
          | 15,ho=>exact .inl rfl
          | 16,ho=>exact .inl rfl
          | 17,ho=>exact absurd rfl hz
          | 18,ho=>obtain rfl:=Option.some.inj ho;refine .inr ?_;intro a w1 w3 hx hsz hol hdep hwar hf;exact ⟨rfl,wp_of_run (run_nilP a.eval _ _ _ _ _ w3 (.tmp 104) ⟨cb,0,none⟩ (hdep 104 0 rfl rfl)) ⟨_,rfl,rfl,fun _=>rfl,hf.imp fun pn q=>q.imp fun cn q=>⟨(show (a.put (some 122) _).tmps.getD 121 undef=_ from by rw [put_getD,if_neg (fun e=>absurd e.1 (by decide))];exact q.1),q.2⟩⟩⟩
          | 19,ho=>obtain rfl:=Option.some.inj ho;refine .inr ?_;intro a w1 w3 hx hsz hol hdep hwar hf;exact ⟨rfl,wp_of_run (run_fldC a.eval _ _ _ _ _ w3 (.tmp 122) cb 0 8 (by decide) (hdep 122 18 rfl rfl)) ⟨_,rfl,rfl,fun _=>rfl,hf.imp fun pn q=>q.imp fun cn q=>⟨(show (a.put (some 123) _).tmps.getD 121 undef=_ from by rw [put_getD,if_neg (fun e=>absurd e.1 (by decide))];exact q.1),q.2⟩⟩⟩
          | 20,ho=>exact absurd rfl hy
          | i+21,ho=>cases ho
         case hla =>
          intro o ho
          obtain rfl:=Option.some.inj ho
          intro a w3 hx hsz hol hdep hwar
          obtain ⟨b,h1,h2,h3,h4⟩:=(hdep 120 16 rfl rfl:(Wl.row w6.heap.size (ruCl ⟨sc,t21,x5.b,x5.o,x5.a,x5.k⟩)).ok (a.tmps.getD 120 undef) w3)
          have h5:a.tmps.getD 108 undef=.slice pv D.rs.length cv:=hdep 108 4 rfl rfl
          have PQ:=PX.out w3 hx
          have OW:w3.ownsRow bs 38 6 (.slice pv D.rs.length cv) D.rs.length (D.rs.flatMap ruCl):=by have q:=PQ.rows.ow 1;rw [← HV.out];exact q
          refine ⟨rfl,?_⟩
          refine wp_of_append w3 rfl (.tmp 108) (.tmp 120) 24 rfl bs 38 ir (.agg #[.int .i64 0,.string ⟨#[]⟩,.int .i64 0,.int .i64 0,.string ⟨#[]⟩,.slice none 0 0]) 6 80 Tryz.underlying24 hir hir0 hir1 hir2 rfl (by decide) (.slice pv D.rs.length cv) D.rs.length (D.rs.flatMap ruCl) h5 OW ⟨b,0,none⟩ 1 1 (ruCl ⟨sc,t21,x5.b,x5.o,x5.a,x5.k⟩) h1 rfl (fun j u hj=>by have q:=h4 j u hj;by_cases e:j=0;(subst e;simpa [Addr.add] using q);simpa [Addr.add,e] using q) (oneP_ru _) (by have:=LD.out;unfold maxLen;omega) (by have:=LD.out;omega) (by have q1:=OB.out;have q2:w6.drew.heap.size≤w3.heap.size:=hx.size;have q3:=HB0.out;omega) ?_
          intro v' w' hown hgrow hob
          obtain ⟨pn,cn,hvn⟩:=own_slp hown
          subst hvn
          refine ⟨_,rfl,fun _=>trivial,pn,cn,?_,hown,by rw [HV.out];exact hgrow,by rw [HV.out];exact hob⟩
          show (a.put (some 121) _).tmps.getD 121 undef=_
          rw [put_getD,if_pos ⟨rfl,by rw [hsz];exact (show (121:Nat) < 335 from by decide)⟩]
         case hyo =>
          intro o ho
          obtain rfl:=Option.some.inj ho
          intro a w1 w3 hx hsz hol hdep hwar hf
          obtain ⟨pn,cn,h1,hown,hgrow,hob⟩:=hf
          have h2:a.tmps.getD 123 undef=.pointer (some ⟨cb,8,none⟩):=hdep 123 19 rfl rfl
          have PQ:=PX.out w1 hx
          have GB:=PQ.box.grown hgrow (by rw [HV.out];exact fun e'=>by have q:=((PQ.rows.ow 1).lt cb (by show (vs 1).ownBlock=_;rw [HV.out];exact e'.symm)).1;have:=OB.out;omega)
          exact ⟨rfl,wp_skipP (run_st1 a.eval _ _ _ _ w3 (.tmp 123) (.tmp 121) ⟨cb,8,none⟩ 24 (by decide) pn _ cn _ h2 h1 GB.c8 GB.f8) ⟨undef,rfl,fun h=>absurd h (by decide),pn,cn,w3,rfl,hown,hgrow,hob⟩⟩
         case hfin =>
          rintro x w1 w9 h1 h2 ⟨pn,cn,we,rfl,hown,hgrow,hob⟩
          have APP:=Lib.hid (PcV.app1 (PX.out w1 h1) ⟨sc,t21,x5.b,x5.o,x5.a,x5.k⟩ (X6.out.2.1.next (EXN.out w1 h1)) (A5.out) (⟨X6.out.2.2,show Bd sc by unfold Bd;omega,NS21.out⟩) hown hgrow hob)
          have BEL:Hid (∀ m,m≤cb→m≤bs→m≤w.heap.size→Below m w (we.setCell ⟨cb,8,none⟩ (.slice pn (D.rs.length+1) cn))):=(fun m q1 q2 q3=>below_app (below_low (EX.out w1 h1) q3) q3 hgrow (fun g' e'=>Nat.le_trans q2 (((PX.out w1 h1).rows.ow 1).lt g' e').1) q1 _ _)
          clear h1 h2 hown hgrow hob
          generalize we.setCell ⟨cb,8,none⟩ (.slice pn (D.rs.length+1) cn)=w9 at *
          dsimp only [frameT,ruxT,List.foldl]
          generalize x 104=q104
          generalize x 105=q105
          generalize x 106=q106
          generalize x 107=q107
          generalize x 108=q108
          generalize x 109=q109
          generalize x 110=q110
          generalize x 111=q111
          generalize x 112=q112
          generalize x 113=q113
          generalize x 114=q114
          generalize x 115=q115
          generalize x 116=q116
          generalize x 117=q117
          generalize x 118=q118
          generalize x 119=q119
          generalize x 120=q120
          generalize x 121=q121
          generalize x 122=q122
          generalize x 123=q123
          clear x
          go_simp
          go_wp2_with fail
          go_ret
          exact dcp_ok RQ.out (by have q:=APP.out;rw [show Pz.nr (ruTr ⟨sc,t21,x5.b,x5.o,x5.a,x5.k⟩)=Pc.tree _ from X6.out.1] at q;exact q) (fun m q1 q2 q3 q4=>BEL.out m q1 q3 q4)
end Go.Proofs.YtljdcpobomfnpaaGreat
