import Derived.Test.YtljdcpobomfnpaaGreatDa
namespace Go.Proofs.YtljdcpobomfnpaaGreat
set_option linter.unusedVariables false
set_option linter.unusedSimpArgs false
open Go.ChangeShapes Go.WideShapes Go.ChangeAt Go.RowKit
open Go.Deep (BT)
def ofTd:List (Nat × Nat):=[(313,0),(314,1),(315,2),(316,3),(317,4),(318,5),(319,6),(320,7),(321,8),(322,9),(323,10),(324,11),(325,12),(326,13),(327,14),(328,15),(329,16),(330,17),(331,18),(332,19),(333,20),(334,21)]
def ofW (cb g O Ll cap nn cv B0:Nat) (pv:Option Addr) (t11:ByteArray) (t32:Int) (t52:Int) (i:Nat):Wl :=
 match i with
 | 0=>.eq (.pointer (some ⟨cb,0,none⟩))
 | 1=>.eq (.pointer (some ⟨cb,0,none⟩))
 | 2=>.eq (.pointer (some ⟨cb,0,none⟩))
 | 3=>.eq (.pointer (some ⟨cb,12,none⟩))
 | 4=>.eq (.slice pv nn cv)
 | 5=>.eq (.slice (some ⟨g,O,none⟩) Ll cap)
 | 6=>.eq (.pointer (some ⟨g,O+1 * 4,none⟩))
 | 7=>.eq (.pointer (some ⟨g,O+1 * 4+1,none⟩))
 | 8=>.eq (.string t11)
 | 9=>.eq (.slice (some ⟨g,O,none⟩) Ll cap)
 | 10=>.eq (.pointer (some ⟨g,O+3 * 4,none⟩))
 | 11=>.eq (.pointer (some ⟨g,O+3 * 4+2,none⟩))
 | 12=>.eq (.int .i64 t32)
 | 13=>.eq (.slice (some ⟨g,O,none⟩) Ll cap)
 | 14=>.eq (.pointer (some ⟨g,O+5 * 4,none⟩))
 | 15=>.eq (.pointer (some ⟨g,O+5 * 4+2,none⟩))
 | 16=>.eq (.int .i64 t52)
 | 17=>.eq (.agg #[.string t11,.int .i64 t32,.int .i64 t52])
 | 18=>.row B0 [.string t11,.int .i64 t32,.int .i64 t52]
 | 19=>.any
 | 20=>.eq (.pointer (some ⟨cb,0,none⟩))
 | 21=>.eq (.pointer (some ⟨cb,12,none⟩))
 | _=>.any
def ofG (cb g O Ll cap nn cv B0:Nat) (pv:Option Addr) (t11:ByteArray) (t32:Int) (t52:Int) (i:Nat) (v:Value) (w:World):Prop:=(ofW cb g O Ll cap nn cv B0 pv t11 t32 t52 i).ok v w
set_option maxHeartbeats 16000000 in
set_option maxRecDepth 100000 in
theorem rdw_off (bs cb sb:Nat) (c:Pc.PC) (vs:Fin 6→Value) (D:Six) (L:List Tk.T4) (v:Value) (w:World) (hp:PcV w bs cb sb c vs D) (ht:TkAt w L v) (hV:∀ t ∈ L,VT t.t) (hs:∀ t ∈ L,t.t.text.size≤9223372036854775807) (hk:Pc.kd L 0 1=true) (hF:Pc.fieldsL.findIdx? (fun s=>decide (s=(Pc.tok L 0).text))=none)
 (hw:(Pc.tok L 0).text=Pc.wOff) (h40:L.length≤400) (hbs:bs≤w.heap.size) (hct:Pc.cnt c≤1000) :
 Calls Tryz.prog 25 #[.pointer (some ⟨cb,0,none⟩),.pointer (some ⟨sb,0,none⟩),v] w (DcP w bs cb sb (Pc.declT c L)):=by
 have REST:=Lib.hid (declT_rest (c:=c) hk hF)
 generalize Pc.declT c L=R at *
 have TA:Hid (∀ wq,Below w.heap.size w wq→TkAt wq L v):=fun wq hb=>ht.next hb
 have PV:=Lib.hid hp
 have HVV:=Lib.hid hV
 have HS:=Lib.hid hs
 have KA:Hid (Calls Tryz.prog 53 #[v,.int .i64 0,.int .i64 1] w fun e w'=>e=.returned (.bool true)∧w=w'):=kdC hk ht
 have hi:0 < L.length:=kd_lt hk
 have LL:=Lib.hid hi
 have hlc:(0:Int) < (L.length:Int):=by omega
 obtain ⟨t0,hq0⟩:∃ t,L[0]?=some t:=⟨_,List.getElem?_eq_getElem hi⟩
 have LB:Hid (cb < bs∧bs≤w.heap.size):=⟨hp.rows.lt cb (Or.inl rfl),hbs⟩
 have LC:=Lib.hid hct
 have H40:=Lib.hid h40
 obtain ⟨p,cap,hv,g1,g2,g3⟩:=ht
 subst hv
 have HCP:=Lib.hid g1
 clear g1 g2 g3
 obtain ⟨g,O,rfl,ng1,ng2⟩:=tok_ne (TA.out w (Below.refl _ _)) hq0 hp.box hp.vs hp.sn
 have T0:Hid (∀ wq,Below w.heap.size w wq→wq.cell? ⟨g,O+1,none⟩=some (.string (Pc.tok L 0).text)):=fun wq hb=>by
  have q:=(tkc (TA.out wq hb) hi).1
  rw [show O+0 * 4+1=O+1 by omega] at q
  exact q
 have HFN:Hid (∀ (j:Nat) (s:ByteArray),Pc.fieldsL[j]?=some s→((Pc.tok L 0).text.toList==s.toList)=false):=by
  intro j s hj
  have q:=List.findIdx?_eq_none_iff.1 hF s (List.mem_of_getElem? hj)
  rw [beq_eq_false_iff_ne]
  intro e
  refine (of_decide_eq_false q) ?_
  rw [Lib.toList_data,Lib.toList_data] at e
  exact ByteArray.ext (Array.toList_inj.1 e.symm)
 obtain ⟨tx,htx⟩:∃ z,(Pc.tok L 0).text=z:=⟨_,rfl⟩
 rw [htx] at T0 HFN REST hw
 obtain ⟨sc,hsc⟩:∃ z,Pc.scopeT tx=z:=⟨_,rfl⟩
 have SC:Hid (∀ wq,Calls Tryz.prog 58 #[.string tx] wq fun e w'=>e=.returned (.int .i64 sc)∧wq=w'):=fun wq=>(by have q:=rscope_any tx wq;rw [hsc] at q;exact q)
 clear hq0 hF hk hi hp hs hV htx
 have hz:sc=0:=by rw [← hsc,hw];decide
 have HC:Hid (tx.toList=[111,102,102]):=tl_eq hw
 have HW:=Lib.hid hw
 clear hw
 subst hz
 clear h40 hbs hct
 go_enter Tryz.func25,Tryz.ntmps25
 go_upto_region 4 with (go_at_call 53;refine KA.out.mono ?_;rintro e w' ⟨rfl,rfl⟩)
 have B1:Hid (Below w.heap.size w (w.alloc (.cells #[.string Pc.wReport,.string Pc.wRelease,.string Pc.wConnect,.string Pc.wSit,.string Pc.wLayover,.string Pc.wGuarantee,.string Pc.wNight] 9))):=blw_box _ _
 have FC:Hid (∀ (j:Nat) (s:ByteArray),Pc.fieldsL[j]?=some s→(w.alloc (.cells #[.string Pc.wReport,.string Pc.wRelease,.string Pc.wConnect,.string Pc.wSit,.string Pc.wLayover,.string Pc.wGuarantee,.string Pc.wNight] 9)).cell? ⟨w.heap.size,j,none⟩=some (.string s)):=by
  intro j s hj
  match j,hj with
  | 0,hj=>(cases hj;simp [go_sem])
  | 1,hj=>(cases hj;simp [go_sem])
  | 2,hj=>(cases hj;simp [go_sem])
  | 3,hj=>(cases hj;simp [go_sem])
  | 4,hj=>(cases hj;simp [go_sem])
  | 5,hj=>(cases hj;simp [go_sem])
  | 6,hj=>(cases hj;simp [go_sem])
  | n+7,hj=>simp [Pc.fieldsL] at hj
 unfold Pc.wReport Pc.wRelease Pc.wConnect Pc.wSit Pc.wLayover Pc.wGuarantee Pc.wNight at B1 FC
 generalize w.alloc _=w1 at *
 have tc1:=T0.out _ B1.out
 go_wp2_with fail
 go_loopw [8] (fun i wr=>∃ j:Nat,j≤7∧i=.int .i64 j∧Hid (Below w1.heap.size w1 wr)) (fun i _=>7 - (intOf i).toNat)
 case atStart=>exact ⟨0,by omega,rfl,Below.refl _ _⟩
 case round =>
  obtain ⟨wp,hwp⟩:∃ z,z=wr:=⟨_,rfl⟩
  subst hwp
  obtain ⟨j,hj,rfl,HB⟩:=hrel
  have hi0:=LL.out
  by_cases hlt:j < 7
  · have hj1:(j:Int) < 7:=by omega
    obtain ⟨s,hs⟩:∃ s,Pc.fieldsL[j]?=some s:=⟨_,List.getElem?_eq_getElem (show j < 7 from hlt)⟩
    have fc:=cell_next (FC.out j s hs) HB.out
    have tc2:=cell_next tc1 HB.out
    have nq:=HFN.out j s hs
    clear hs
    go_upto_region 7 with (fail)
    go_quiet (fail)
    go_wp2
    go_roundw
    case rel=>exact ⟨j+1,by omega,by go_num,below_drewN HB.out _⟩
    case measure=>simp [intOf];omega
  have hj1:¬ (j:Int) < 7:=by omega
  clear FC HFN hlt hj
  have B2:Hid (Below w.heap.size w wp):=B1.out.trans (HB.out.mono B1.out.size)
  have tc2:=T0.out _ B2.out
  clear tc1 B1 HB
  have hc:=HC.out
  by_cases h0:L.length=7
  case neg =>
   have N0:((L.length:Int)==7)=false:=(by rw [beq_eq_false_iff_ne];omega)
   have HL:=Lib.hid h0
   clear h0
   have RQ:Hid (R=(c,1)):=by unfold Hid;rw [REST.out];unfold restT;simp [HW.out,HL.out,wn_all]
   go_wp2_with (first|(go_at_call 58;refine (SC.out _).mono ?_;rintro e w' ⟨rfl,rfl⟩))
   go_ret
   exact dcp_err RQ.out (by decide) (by first|exact B3.out|exact B2.out)
  have N0:((L.length:Int)==7)=true:=(by rw [beq_iff_eq];omega)
  have HL:=Lib.hid h0
  clear h0
  cases h1:Pc.nmd L 1 with
  | false =>
    have RQ:Hid (R=(c,1)):=by unfold Hid;rw [REST.out];unfold restT;simp [HW.out,HL.out,h1,wn_all]
    go_wp2_with (first|(go_at_call 55;refine (nmCd HS.out h1 (TA.out _ (by exact B2.out))).mono ?_;rintro e w2 ⟨rfl,hb2⟩;have B3:=Lib.hid (B2.out.trans (hb2.mono B2.out.size));have tc3:=T0.out _ B3.out;clear hb2 tc2 h1)|(go_at_call 58;refine (SC.out _).mono ?_;rintro e w' ⟨rfl,rfl⟩))
    go_ret
    exact dcp_err RQ.out (by decide) (by first|exact B3.out|exact B2.out)
  | true =>
    cases h2:Pc.isW L 2 Pc.wIs with
    | false =>
      have RQ:Hid (R=(c,1)):=by unfold Hid;rw [REST.out];unfold restT;simp [HW.out,HL.out,h1,h2,wn_all]
      go_wp2_with (first|(go_at_call 55;refine (nmCd HS.out h1 (TA.out _ (by exact B2.out))).mono ?_;rintro e w2 ⟨rfl,hb2⟩;have B3:=Lib.hid (B2.out.trans (hb2.mono B2.out.size));have tc3:=T0.out _ B3.out;clear hb2 tc2 h1)|(go_at_call 56;refine (isC h2 (TA.out _ (by first|exact B3.out|exact B2.out))).mono ?_;rintro e w' ⟨rfl,rfl⟩;clear h2)|(go_at_call 58;refine (SC.out _).mono ?_;rintro e w' ⟨rfl,rfl⟩))
      go_ret
      exact dcp_err RQ.out (by decide) (by first|exact B3.out|exact B2.out)
    | true =>
      cases h3:Pc.kd L 3 2 with
      | false =>
        have RQ:Hid (R=(c,1)):=by unfold Hid;rw [REST.out];unfold restT;simp [HW.out,HL.out,h1,h2,h3,wn_all]
        go_wp2_with (first|(go_at_call 55;refine (nmCd HS.out h1 (TA.out _ (by exact B2.out))).mono ?_;rintro e w2 ⟨rfl,hb2⟩;have B3:=Lib.hid (B2.out.trans (hb2.mono B2.out.size));have tc3:=T0.out _ B3.out;clear hb2 tc2 h1)|(go_at_call 56;refine (isC h2 (TA.out _ (by first|exact B3.out|exact B2.out))).mono ?_;rintro e w' ⟨rfl,rfl⟩;clear h2)|(go_at_call 53;refine (kdC h3 (TA.out _ (by first|exact B3.out|exact B2.out))).mono ?_;rintro e w' ⟨rfl,rfl⟩;clear h3)|(go_at_call 58;refine (SC.out _).mono ?_;rintro e w' ⟨rfl,rfl⟩))
        go_ret
        exact dcp_err RQ.out (by decide) (by first|exact B3.out|exact B2.out)
      | true =>
        cases h4:Pc.isW L 4 Pc.wIn with
        | false =>
          have RQ:Hid (R=(c,1)):=by unfold Hid;rw [REST.out];unfold restT;simp [HW.out,HL.out,h1,h2,h3,h4,wn_all]
          go_wp2_with (first|(go_at_call 55;refine (nmCd HS.out h1 (TA.out _ (by exact B2.out))).mono ?_;rintro e w2 ⟨rfl,hb2⟩;have B3:=Lib.hid (B2.out.trans (hb2.mono B2.out.size));have tc3:=T0.out _ B3.out;clear hb2 tc2 h1)|(go_at_call 56;refine (isC h2 (TA.out _ (by first|exact B3.out|exact B2.out))).mono ?_;rintro e w' ⟨rfl,rfl⟩;clear h2)|(go_at_call 53;refine (kdC h3 (TA.out _ (by first|exact B3.out|exact B2.out))).mono ?_;rintro e w' ⟨rfl,rfl⟩;clear h3)|(go_at_call 56;refine (isC h4 (TA.out _ (by first|exact B3.out|exact B2.out))).mono ?_;rintro e w' ⟨rfl,rfl⟩;clear h4)|(go_at_call 58;refine (SC.out _).mono ?_;rintro e w' ⟨rfl,rfl⟩))
          go_ret
          exact dcp_err RQ.out (by decide) (by first|exact B3.out|exact B2.out)
        | true =>
          cases h5:Pc.kd L 5 2 with
          | false =>
            have RQ:Hid (R=(c,1)):=by unfold Hid;rw [REST.out];unfold restT;simp [HW.out,HL.out,h1,h2,h3,h4,h5,wn_all]
            go_wp2_with (first|(go_at_call 55;refine (nmCd HS.out h1 (TA.out _ (by exact B2.out))).mono ?_;rintro e w2 ⟨rfl,hb2⟩;have B3:=Lib.hid (B2.out.trans (hb2.mono B2.out.size));have tc3:=T0.out _ B3.out;clear hb2 tc2 h1)|(go_at_call 56;refine (isC h2 (TA.out _ (by first|exact B3.out|exact B2.out))).mono ?_;rintro e w' ⟨rfl,rfl⟩;clear h2)|(go_at_call 53;refine (kdC h3 (TA.out _ (by first|exact B3.out|exact B2.out))).mono ?_;rintro e w' ⟨rfl,rfl⟩;clear h3)|(go_at_call 56;refine (isC h4 (TA.out _ (by first|exact B3.out|exact B2.out))).mono ?_;rintro e w' ⟨rfl,rfl⟩;clear h4)|(go_at_call 53;refine (kdC h5 (TA.out _ (by first|exact B3.out|exact B2.out))).mono ?_;rintro e w' ⟨rfl,rfl⟩;clear h5)|(go_at_call 58;refine (SC.out _).mono ?_;rintro e w' ⟨rfl,rfl⟩))
            go_ret
            exact dcp_err RQ.out (by decide) (by first|exact B3.out|exact B2.out)
          | true =>
            cases h6:Pc.isW L 6 Pc.wDays with
            | false =>
              have RQ:Hid (R=(c,1)):=by unfold Hid;rw [REST.out];unfold restT;simp [HW.out,HL.out,h1,h2,h3,h4,h5,h6,wn_all]
              go_wp2_with (first|(go_at_call 55;refine (nmCd HS.out h1 (TA.out _ (by exact B2.out))).mono ?_;rintro e w2 ⟨rfl,hb2⟩;have B3:=Lib.hid (B2.out.trans (hb2.mono B2.out.size));have tc3:=T0.out _ B3.out;clear hb2 tc2 h1)|(go_at_call 56;refine (isC h2 (TA.out _ (by first|exact B3.out|exact B2.out))).mono ?_;rintro e w' ⟨rfl,rfl⟩;clear h2)|(go_at_call 53;refine (kdC h3 (TA.out _ (by first|exact B3.out|exact B2.out))).mono ?_;rintro e w' ⟨rfl,rfl⟩;clear h3)|(go_at_call 56;refine (isC h4 (TA.out _ (by first|exact B3.out|exact B2.out))).mono ?_;rintro e w' ⟨rfl,rfl⟩;clear h4)|(go_at_call 53;refine (kdC h5 (TA.out _ (by first|exact B3.out|exact B2.out))).mono ?_;rintro e w' ⟨rfl,rfl⟩;clear h5)|(go_at_call 56;refine (isC h6 (TA.out _ (by first|exact B3.out|exact B2.out))).mono ?_;rintro e w' ⟨rfl,rfl⟩;clear h6)|(go_at_call 58;refine (SC.out _).mono ?_;rintro e w' ⟨rfl,rfl⟩))
              go_ret
              exact dcp_err RQ.out (by decide) (by first|exact B3.out|exact B2.out)
            | true =>
              have RQ:Hid (R=({ c with fs:=c.fs++[⟨(Pc.tok L 1).text,(Pc.tok L 3).num,(Pc.tok L 5).num⟩] },0)):=by unfold Hid;rw [REST.out];unfold restT;simp [HW.out,HL.out,h1,h2,h3,h4,h5,h6,wn_all]
              have ix1:(1:Int) < (L.length:Int):=by have:=HL.out;omega
              have IX1:Hid (1 < L.length):=by have:=HL.out;unfold Hid;omega
              have ix3:(3:Int) < (L.length:Int):=by have:=HL.out;omega
              have IX3:Hid (3 < L.length):=by have:=HL.out;unfold Hid;omega
              have ix5:(5:Int) < (L.length:Int):=by have:=HL.out;omega
              have IX5:Hid (5 < L.length):=by have:=HL.out;unfold Hid;omega
              have TK11:Hid (∀ wq,Below w.heap.size w wq→wq.cell? ⟨g,O+1 * 4+1,none⟩=some (.string (Pc.tok L 1).text)):=fun wq hb=>(tkc (TA.out wq hb) IX1.out).1
              have NS11:Hid ((Pc.tok L 1).text.size≤9223372036854775807):=tok_sz HS.out 1
              obtain ⟨t11,ht11⟩:∃ z,(Pc.tok L 1).text=z:=⟨_,rfl⟩
              rw [ht11] at TK11 NS11 RQ
              have TK32:Hid (∀ wq,Below w.heap.size w wq→wq.cell? ⟨g,O+3 * 4+2,none⟩=some (.int .i64 (Pc.tok L 3).num)):=fun wq hb=>(tkc (TA.out wq hb) IX3.out).2
              have NS32:Hid (Bd (Pc.tok L 3).num):=tok_bd HVV.out 3
              obtain ⟨t32,ht32⟩:∃ z,(Pc.tok L 3).num=z:=⟨_,rfl⟩
              rw [ht32] at TK32 NS32 RQ
              have TK52:Hid (∀ wq,Below w.heap.size w wq→wq.cell? ⟨g,O+5 * 4+2,none⟩=some (.int .i64 (Pc.tok L 5).num)):=fun wq hb=>(tkc (TA.out wq hb) IX5.out).2
              have NS52:Hid (Bd (Pc.tok L 5).num):=tok_bd HVV.out 5
              obtain ⟨t52,ht52⟩:∃ z,(Pc.tok L 5).num=z:=⟨_,rfl⟩
              rw [ht52] at TK52 NS52 RQ
              have LD:Hid (D.fs.length≤1000):=by have q:=PV.out.len;have:=LC.out;unfold Hid;omega
              go_upto_region 36 with (first|(go_at_call 55;refine (nmCd HS.out h1 (TA.out _ (by exact B2.out))).mono ?_;rintro e w2 ⟨rfl,hb2⟩;have B3:=Lib.hid (B2.out.trans (hb2.mono B2.out.size));have tc3:=T0.out _ B3.out;clear hb2 tc2 h1)|(go_at_call 56;refine (isC h2 (TA.out _ (by first|exact B3.out|exact B2.out))).mono ?_;rintro e w' ⟨rfl,rfl⟩;clear h2)|(go_at_call 53;refine (kdC h3 (TA.out _ (by first|exact B3.out|exact B2.out))).mono ?_;rintro e w' ⟨rfl,rfl⟩;clear h3)|(go_at_call 56;refine (isC h4 (TA.out _ (by first|exact B3.out|exact B2.out))).mono ?_;rintro e w' ⟨rfl,rfl⟩;clear h4)|(go_at_call 53;refine (kdC h5 (TA.out _ (by first|exact B3.out|exact B2.out))).mono ?_;rintro e w' ⟨rfl,rfl⟩;clear h5)|(go_at_call 56;refine (isC h6 (TA.out _ (by first|exact B3.out|exact B2.out))).mono ?_;rintro e w' ⟨rfl,rfl⟩;clear h6)|(go_at_call 58;refine (SC.out _).mono ?_;rintro e w' ⟨rfl,rfl⟩))
              obtain ⟨w6,hw6⟩:∃ z,z=w2:=⟨_,rfl⟩
              subst hw6
              have B6:=B3
              obtain ⟨ir,hir,hir0,hir1,hir2⟩:=info_parts Tryz.infoOfP
              have P6:=Lib.hid (PV.out.next B6.out)
              obtain ⟨pv,cv,hv⟩:∃ pv cv,vs 5=.slice pv D.fs.length cv:=own_slp (P6.out.rows.ow 5)
              have HV:=Lib.hid hv
              clear hv
              have EX:Hid (∀ wq,Ext w6.drew wq→Below w.heap.size w wq):=fun wq hq=>(B6.out.drew).trans (Below.mono hq (by have:=B6.out.size;simpa using this))
              have PX:Hid (∀ wq,Ext w6.drew wq→PcV wq bs cb sb c vs D):=fun wq hq=>PV.out.next (EX.out wq hq)
              have EXN:Hid (∀ wq,Ext w6.drew wq→Below w6.heap.size w6 wq):=fun wq hq=>((Below.refl _ _).drew).trans (Below.mono hq (by simp))
              have HB0:Hid (w6.heap.size≤w6.drew.heap.size):=by unfold Hid;simp
              have OB:Hid (bs≤w6.heap.size∧cb < bs):=⟨Nat.le_trans LB.out.2 B6.out.size,LB.out.1⟩
              have CB:Hid (∀ wq,Ext w6.drew wq→wq.cell? ⟨cb,12,none⟩=some (.slice pv D.fs.length cv)):=fun wq hq=>by rw [← HV.out];exact (PX.out wq hq).box.c12
              have TC11:Hid (∀ wq,Ext w6.drew wq→wq.cell? ⟨g,O+1 * 4+1,none⟩=some (.string t11)):=fun wq hq=>TK11.out wq (EX.out wq hq)
              have TC32:Hid (∀ wq,Ext w6.drew wq→wq.cell? ⟨g,O+3 * 4+2,none⟩=some (.int .i64 t32)):=fun wq hq=>TK32.out wq (EX.out wq hq)
              have TC52:Hid (∀ wq,Ext w6.drew wq→wq.cell? ⟨g,O+5 * 4+2,none⟩=some (.int .i64 t52)):=fun wq hq=>TK52.out wq (EX.out wq hq)
              refine plan_tbl3 ofTd (ofG cb g O L.length cap D.fs.length cv w6.heap.size pv t11 t32 t52) 19 22 (fun x w1 w'=>∃ pn cn,x 332=.slice pn (D.fs.length+1) cn∧w'.ownsRow bs 110 3 (.slice pn (D.fs.length+1) cn) (D.fs.length+1) (D.fs.flatMap ofCl++ofCl ⟨t11,t32,t52⟩)∧w1.grownBy w' (vs 5).ownBlock∧((Value.slice pn (D.fs.length+1) cn).ownBlock=(vs 5).ownBlock∨(Value.slice pn (D.fs.length+1) cn).ownBlock=some w1.heap.size)) (fun x w1 w'=>∃ pn cn we,w'=we.setCell ⟨cb,12,none⟩ (.slice pn (D.fs.length+1) cn)∧we.ownsRow bs 110 3 (.slice pn (D.fs.length+1) cn) (D.fs.length+1) (D.fs.flatMap ofCl++ofCl ⟨t11,t32,t52⟩)∧w1.grownBy we (vs 5).ownBlock∧((Value.slice pn (D.fs.length+1) cn).ownBlock=(vs 5).ownBlock∨(Value.slice pn (D.fs.length+1) cn).ownBlock=some w1.heap.size)) (by kernel_rfl) (by kernel_rfl) (fun i v w w' h he=>Wl.ext h he) (fun i=>decide (i≠0∧i≠20∧i≠21∧i < 19)) (by kernel_rfl) (by kernel_rfl) (by decide) ?hst ?hpu ?hla ?hyo ?hfin
              case hst =>
               intro i o ho hz hy
               match i,ho with
               | 0,ho=>obtain rfl:=Option.some.inj ho;intro a w3 hx hol hdep hwar;exact ⟨rfl,st_run (run_move a.eval _ _ _ _ _ w3 (.tmp 0) (.pointer (some ⟨cb,0,none⟩)) (hol 0 rfl)) (Ext.refl _) rfl⟩
               | 1,ho=>obtain rfl:=Option.some.inj ho;intro a w3 hx hol hdep hwar;exact ⟨rfl,st_run (run_move a.eval _ _ _ _ _ w3 (.tmp 0) (.pointer (some ⟨cb,0,none⟩)) (hol 0 rfl)) (Ext.refl _) rfl⟩
               | 2,ho=>obtain rfl:=Option.some.inj ho;intro a w3 hx hol hdep hwar;exact ⟨rfl,st_run (run_nilP a.eval _ _ _ _ _ w3 (.tmp 314) ⟨cb,0,none⟩ (hdep 314 1 rfl rfl)) (Ext.refl _) rfl⟩
               | 3,ho=>obtain rfl:=Option.some.inj ho;intro a w3 hx hol hdep hwar;exact ⟨rfl,st_run (run_fldC a.eval _ _ _ _ _ w3 (.tmp 315) cb 0 12 (by decide) (hdep 315 2 rfl rfl)) (Ext.refl _) rfl⟩
               | 4,ho=>obtain rfl:=Option.some.inj ho;intro a w3 hx hol hdep hwar;exact ⟨rfl,st_run (run_ld1 a.eval _ _ _ _ _ w3 (.tmp 316) ⟨cb,12,none⟩ 28 (by decide) _ (hdep 316 3 rfl rfl) (CB.out w3 hx)) (Ext.refl _) rfl⟩
               | 5,ho=>obtain rfl:=Option.some.inj ho;intro a w3 hx hol hdep hwar;exact ⟨rfl,st_run (run_move a.eval _ _ _ _ _ w3 (.tmp 2) (.slice (some ⟨g,O,none⟩) L.length cap) (hol 2 rfl)) (Ext.refl _) rfl⟩
               | 6,ho=>obtain rfl:=Option.some.inj ho;intro a w3 hx hol hdep hwar;exact ⟨rfl,st_run (run_ixT a.eval _ _ _ _ _ w3 (.tmp 318) g O L.length cap 1 rfl IX1.out (hdep 318 5 rfl rfl)) (Ext.refl _) rfl⟩
               | 7,ho=>obtain rfl:=Option.some.inj ho;intro a w3 hx hol hdep hwar;exact ⟨rfl,st_run (run_fldT a.eval _ _ _ _ _ w3 (.tmp 319) g (O+1 * 4) 1 (by decide) (hdep 319 6 rfl rfl)) (Ext.refl _) rfl⟩
               | 8,ho=>obtain rfl:=Option.some.inj ho;intro a w3 hx hol hdep hwar;exact ⟨rfl,st_run (run_ld1 a.eval _ _ _ _ _ w3 (.tmp 320) ⟨g,O+1 * 4+1,none⟩ 9 (by decide) (.string t11) (hdep 320 7 rfl rfl) (TC11.out w3 hx)) (Ext.refl _) rfl⟩
               | 9,ho=>obtain rfl:=Option.some.inj ho;intro a w3 hx hol hdep hwar;exact ⟨rfl,st_run (run_move a.eval _ _ _ _ _ w3 (.tmp 2) (.slice (some ⟨g,O,none⟩) L.length cap) (hol 2 rfl)) (Ext.refl _) rfl⟩
               | 10,ho=>obtain rfl:=Option.some.inj ho;intro a w3 hx hol hdep hwar;exact ⟨rfl,st_run (run_ixT a.eval _ _ _ _ _ w3 (.tmp 322) g O L.length cap 3 rfl IX3.out (hdep 322 9 rfl rfl)) (Ext.refl _) rfl⟩
               | 11,ho=>obtain rfl:=Option.some.inj ho;intro a w3 hx hol hdep hwar;exact ⟨rfl,st_run (run_fldT a.eval _ _ _ _ _ w3 (.tmp 323) g (O+3 * 4) 2 (by decide) (hdep 323 10 rfl rfl)) (Ext.refl _) rfl⟩
               | 12,ho=>obtain rfl:=Option.some.inj ho;intro a w3 hx hol hdep hwar;exact ⟨rfl,st_run (run_ld1 a.eval _ _ _ _ _ w3 (.tmp 324) ⟨g,O+3 * 4+2,none⟩ 3 (by decide) (.int .i64 t32) (hdep 324 11 rfl rfl) (TC32.out w3 hx)) (Ext.refl _) rfl⟩
               | 13,ho=>obtain rfl:=Option.some.inj ho;intro a w3 hx hol hdep hwar;exact ⟨rfl,st_run (run_move a.eval _ _ _ _ _ w3 (.tmp 2) (.slice (some ⟨g,O,none⟩) L.length cap) (hol 2 rfl)) (Ext.refl _) rfl⟩
               | 14,ho=>obtain rfl:=Option.some.inj ho;intro a w3 hx hol hdep hwar;exact ⟨rfl,st_run (run_ixT a.eval _ _ _ _ _ w3 (.tmp 326) g O L.length cap 5 rfl IX5.out (hdep 326 13 rfl rfl)) (Ext.refl _) rfl⟩
               | 15,ho=>obtain rfl:=Option.some.inj ho;intro a w3 hx hol hdep hwar;exact ⟨rfl,st_run (run_fldT a.eval _ _ _ _ _ w3 (.tmp 327) g (O+5 * 4) 2 (by decide) (hdep 327 14 rfl rfl)) (Ext.refl _) rfl⟩
               | 16,ho=>obtain rfl:=Option.some.inj ho;intro a w3 hx hol hdep hwar;exact ⟨rfl,st_run (run_ld1 a.eval _ _ _ _ _ w3 (.tmp 328) ⟨g,O+5 * 4+2,none⟩ 3 (by decide) (.int .i64 t52) (hdep 328 15 rfl rfl) (TC52.out w3 hx)) (Ext.refl _) rfl⟩
               | 17,ho=>obtain rfl:=Option.some.inj ho;intro a w3 hx hol hdep hwar;exact ⟨rfl,st_run (run_bldO a.eval _ _ _ _ _ w3 (.tmp 321) (.tmp 325) (.tmp 329) t11 t32 t52 (hdep 321 8 rfl rfl) (hdep 325 12 rfl rfl) (hdep 329 16 rfl rfl)) (Ext.refl _) rfl⟩
               | 18,ho=>obtain rfl:=Option.some.inj ho;intro a w3 hx hol hdep hwar;have hz:=(hx.size:(w6.drew).heap.size≤w3.heap.size);exact ⟨rfl,st_run (run_slO a.eval _ _ _ _ _ w3 (.tmp 330) (.string t11) (.int .i64 t32) (.int .i64 t52) (hdep 330 17 rfl rfl)) (Ext.alloc _ _) (wl_new3 w3 w6.heap.size (Nat.le_trans HB0.out hz) (.string t11) (.int .i64 t32) (.int .i64 t52) _)⟩
               | 19,ho=>exact absurd rfl hz
               | 20,ho=>obtain rfl:=Option.some.inj ho;intro a w3 hx hol hdep hwar;exact ⟨rfl,st_run (run_nilP a.eval _ _ _ _ _ w3 (.tmp 313) ⟨cb,0,none⟩ (hdep 313 0 rfl rfl)) (Ext.refl _) rfl⟩
               | 21,ho=>obtain rfl:=Option.some.inj ho;intro a w3 hx hol hdep hwar;exact ⟨rfl,st_run (run_fldC a.eval _ _ _ _ _ w3 (.tmp 333) cb 0 12 (by decide) (hdep 333 20 rfl rfl)) (Ext.refl _) rfl⟩
               | 22,ho=>exact absurd rfl hy
               | i+23,ho=>cases ho
              case hpu =>
               intro i o ho hz hy
               match i,ho with
               | 0,ho=>obtain rfl:=Option.some.inj ho;refine .inr ?_;intro a w1 w3 hx hsz hol hdep hwar hf;exact ⟨rfl,wp_of_run (run_move a.eval _ _ _ _ _ w3 (.tmp 0) (.pointer (some ⟨cb,0,none⟩)) (hol 0 rfl)) ⟨_,rfl,rfl,fun _=>rfl,hf.imp fun pn q=>q.imp fun cn q=>⟨(show (a.put (some 313) _).tmps.getD 332 undef=_ from by rw [put_getD,if_neg (fun e=>absurd e.1 (by decide))];exact q.1),q.2⟩⟩⟩
               | 1,ho=>exact .inl rfl
               | 2,ho=>exact .inl rfl
               | 3,ho=>exact .inl rfl
               | 4,ho=>exact .inl rfl
               | 5,ho=>exact .inl rfl
               | 6,ho=>exact .inl rfl
               | 7,ho=>exact .inl rfl
               | 8,ho=>exact .inl rfl
               | 9,ho=>exact .inl rfl
               | 10,ho=>exact .inl rfl
               | 11,ho=>exact .inl rfl
               | 12,ho=>exact .inl rfl
               | 13,ho=>exact .inl rfl
               | 14,ho=>exact .inl rfl
               | 15,ho=>exact .inl rfl
               | 16,ho=>exact .inl rfl
               | 17,ho=>exact .inl rfl
               | 18,ho=>exact .inl rfl
               | 19,ho=>exact absurd rfl hz
               | 20,ho=>obtain rfl:=Option.some.inj ho;refine .inr ?_;intro a w1 w3 hx hsz hol hdep hwar hf;exact ⟨rfl,wp_of_run (run_nilP a.eval _ _ _ _ _ w3 (.tmp 313) ⟨cb,0,none⟩ (hdep 313 0 rfl rfl)) ⟨_,rfl,rfl,fun _=>rfl,hf.imp fun pn q=>q.imp fun cn q=>⟨(show (a.put (some 333) _).tmps.getD 332 undef=_ from by rw [put_getD,if_neg (fun e=>absurd e.1 (by decide))];exact q.1),q.2⟩⟩⟩
               | 21,ho=>obtain rfl:=Option.some.inj ho;refine .inr ?_;intro a w1 w3 hx hsz hol hdep hwar hf;exact ⟨rfl,wp_of_run (run_fldC a.eval _ _ _ _ _ w3 (.tmp 333) cb 0 12 (by decide) (hdep 333 20 rfl rfl)) ⟨_,rfl,rfl,fun _=>rfl,hf.imp fun pn q=>q.imp fun cn q=>⟨(show (a.put (some 334) _).tmps.getD 332 undef=_ from by rw [put_getD,if_neg (fun e=>absurd e.1 (by decide))];exact q.1),q.2⟩⟩⟩
               | 22,ho=>exact absurd rfl hy
               | i+23,ho=>cases ho
              case hla =>
               intro o ho
               obtain rfl:=Option.some.inj ho
               intro a w3 hx hsz hol hdep hwar
               obtain ⟨b,h1,h2,h3,h4⟩:=(hdep 331 18 rfl rfl:(Wl.row w6.heap.size (ofCl ⟨t11,t32,t52⟩)).ok (a.tmps.getD 331 undef) w3)
               have h5:a.tmps.getD 317 undef=.slice pv D.fs.length cv:=hdep 317 4 rfl rfl
               have PQ:=PX.out w3 hx
               have OW:w3.ownsRow bs 110 3 (.slice pv D.fs.length cv) D.fs.length (D.fs.flatMap ofCl):=by have q:=PQ.rows.ow 5;rw [← HV.out];exact q
               refine ⟨rfl,?_⟩
               refine wp_of_append w3 rfl (.tmp 317) (.tmp 331) 28 rfl bs 110 ir (.agg #[.string ⟨#[]⟩,.int .i64 0,.int .i64 0]) 3 32 Tryz.underlying28 hir hir0 hir1 hir2 rfl (by decide) (.slice pv D.fs.length cv) D.fs.length (D.fs.flatMap ofCl) h5 OW ⟨b,0,none⟩ 1 1 (ofCl ⟨t11,t32,t52⟩) h1 rfl (fun j u hj=>by have q:=h4 j u hj;by_cases e:j=0;(subst e;simpa [Addr.add] using q);simpa [Addr.add,e] using q) (oneP_of _) (by have:=LD.out;unfold maxLen;omega) (by have:=LD.out;omega) (by have q1:=OB.out;have q2:w6.drew.heap.size≤w3.heap.size:=hx.size;have q3:=HB0.out;omega) ?_
               intro v' w' hown hgrow hob
               obtain ⟨pn,cn,hvn⟩:=own_slp hown
               subst hvn
               refine ⟨_,rfl,fun _=>trivial,pn,cn,?_,hown,by rw [HV.out];exact hgrow,by rw [HV.out];exact hob⟩
               show (a.put (some 332) _).tmps.getD 332 undef=_
               rw [put_getD,if_pos ⟨rfl,by rw [hsz];exact (show (332:Nat) < 335 from by decide)⟩]
              case hyo =>
               intro o ho
               obtain rfl:=Option.some.inj ho
               intro a w1 w3 hx hsz hol hdep hwar hf
               obtain ⟨pn,cn,h1,hown,hgrow,hob⟩:=hf
               have h2:a.tmps.getD 334 undef=.pointer (some ⟨cb,12,none⟩):=hdep 334 21 rfl rfl
               have PQ:=PX.out w1 hx
               have GB:=PQ.box.grown hgrow (by rw [HV.out];exact fun e'=>by have q:=((PQ.rows.ow 5).lt cb (by show (vs 5).ownBlock=_;rw [HV.out];exact e'.symm)).1;have:=OB.out;omega)
               exact ⟨rfl,wp_skipP (run_st1 a.eval _ _ _ _ w3 (.tmp 334) (.tmp 332) ⟨cb,12,none⟩ 28 (by decide) pn _ cn _ h2 h1 GB.c12 GB.f12) ⟨undef,rfl,fun h=>absurd h (by decide),pn,cn,w3,rfl,hown,hgrow,hob⟩⟩
              case hfin =>
               rintro x w1 w9 h1 h2 ⟨pn,cn,we,rfl,hown,hgrow,hob⟩
               have APP:=Lib.hid (PcV.app5 (PX.out w1 h1) ⟨t11,t32,t52⟩ (⟨NS32.out,NS52.out,NS11.out⟩) hown hgrow hob)
               have BEL:Hid (∀ m,m≤cb→m≤bs→m≤w.heap.size→Below m w (we.setCell ⟨cb,12,none⟩ (.slice pn (D.fs.length+1) cn))):=(fun m q1 q2 q3=>below_app (below_low (EX.out w1 h1) q3) q3 hgrow (fun g' e'=>Nat.le_trans q2 (((PX.out w1 h1).rows.ow 5).lt g' e').1) q1 _ _)
               clear h1 h2 hown hgrow hob
               generalize we.setCell ⟨cb,12,none⟩ (.slice pn (D.fs.length+1) cn)=w9 at *
               dsimp only [frameT,ofTd,List.foldl]
               generalize x 313=q313
               generalize x 314=q314
               generalize x 315=q315
               generalize x 316=q316
               generalize x 317=q317
               generalize x 318=q318
               generalize x 319=q319
               generalize x 320=q320
               generalize x 321=q321
               generalize x 322=q322
               generalize x 323=q323
               generalize x 324=q324
               generalize x 325=q325
               generalize x 326=q326
               generalize x 327=q327
               generalize x 328=q328
               generalize x 329=q329
               generalize x 330=q330
               generalize x 331=q331
               generalize x 332=q332
               generalize x 333=q333
               generalize x 334=q334
               clear x
               go_simp
               go_wp2_with fail
               go_ret
               exact dcp_ok RQ.out (by exact APP.out) (fun m q1 q2 q3 q4=>BEL.out m q1 q3 q4)
end Go.Proofs.YtljdcpobomfnpaaGreat
