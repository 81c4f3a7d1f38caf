import Derived.Test.YtcejjdmnlejbaaaGreatDoorVDa
namespace Go.Proofs.YtcejjdmnlejbaaaGreatDoor
open Lib(hid)
set_option linter.unusedVariables false
set_option linter.unusedSimpArgs false
open Go.ChangeShapes Go.WideShapes Go.ChangeAt Go.RowKit
open Go.Deep (BT)
set_option maxHeartbeats 16000000
set_option maxRecDepth 100000
theorem YE(bs cb sb:Nat)(c:Pc.PC)(vs:Fin 6→Value)(D:Six)(L:List Tk.T4)(v:Value)(w:World)(hp:PcV w bs cb sb c vs D)(ht:TkAt w L v)(hV:∀t∈ L,VT t.t)(hs:∀t∈ L,t.t.text.size≤9223372036854775807)(hk:Pc.kd L 0 1=true)(hF:Pc.fieldsL.findIdx? (fun s=>decide (s=(Pc.tok L 0).text))=none)
 (hw:(Pc.tok L 0).text=Pc.wConst) (h40:L.length≤400) (hbs:bs≤w.heap.size) (hct:Pc.cnt c≤1000) :
 Calls Tryz.prog 40 #[.pointer (some ⟨cb,0,none⟩),.pointer (some ⟨sb,0,none⟩),v] w (K5 w bs cb sb (Pc.declT c L)):=by
 have REST:=hid (jf (c:=c) hk hF);generalize Pc.declT c L=R at *;have TA:Hid (∀wq,Below w.heap.size w wq→TkAt wq L v):=fun wq hb=>ht.next hb
 have PV:=hid hp;have HVV:=hid hV;have HS:=hid hs;have KA:Hid (Calls Tryz.prog 94 #[v,.int .i64 0,.int .i64 1] w fun e w'=>e=.returned (.bool true)∧w=w'):=kT hk ht;have hi:0 < L.length:=uD hk;have LL:=hid hi;have hlc:(0:Int) < (L.length:Int):=by omega
 obtain⟨t0,hq0⟩:∃t,L[0]?=some t:=⟨_,List.getElem?_eq_getElem hi⟩;have LB:Hid (cb < bs∧bs≤w.heap.size):=⟨hp.rows.lt cb (Or.inl rfl),hbs⟩;have LC:=hid hct;have H40:=hid h40;obtain⟨p,cap,hv,g1,g2,g3⟩:=ht;subst hv;have HCP:=hid g1;clear g1 g2 g3;obtain⟨g,O,rfl,ng1,ng2⟩:=zG (TA.out w (Below.refl _ _)) hq0 hp.box hp.vs hp.sn
 have T0:Hid (∀wq,Below w.heap.size w wq→wq.cell? ⟨g,O+1,none⟩=some (.string (Pc.tok L 0).text)):=fun wq hb=>by
  have q:=(Qh (TA.out wq hb) hi).1;rw[show O+0 * 4+1=O+1 by omega] at q;exact q
 have HFN:Hid (∀(j:Nat) (s:ByteArray),Pc.fieldsL[j]?=some s→((Pc.tok L 0).text.toList==s.toList)=false):=by
  intro j s hj;have q:=List.findIdx?_eq_none_iff.1 hF s (List.mem_of_getElem? hj);rw[beq_eq_false_iff_ne];intro e;refine(of_decide_eq_false q) ?_;rw[Lib.toList_data,Lib.toList_data] at e;exact ByteArray.ext (Array.toList_inj.1 e.symm)
 obtain⟨tx,htx⟩:∃z,(Pc.tok L 0).text=z:=⟨_,rfl⟩;rw[htx] at T0 HFN REST hw;obtain⟨sc,hsc⟩:∃z,Pc.scopeT tx=z:=⟨_,rfl⟩;have SC:Hid (∀wq,Calls Tryz.prog 99 #[.string tx] wq fun e w'=>e=.returned (.int .i64 sc)∧wq=w'):=fun wq=>(by have q:=jc tx wq;rw[hsc] at q;exact q);clear hq0 hF hk hi hp hs hV htx;have hz:sc=0:=by rw[← hsc,hw];decide
 have HC:Hid (tx.toList=[99,111,110,115,116]):=xG hw;have HW:=hid hw;clear hw;subst hz;clear h40 hbs hct;go_enter Tryz.func40,Tryz.ntmps40;go_upto_region 4 with (go_at_call 94;refine KA.out.mono ?_;rintro e w' ⟨rfl,rfl⟩);have B1:Hid (Below w.heap.size w (w.alloc (.cells #[.string Pc.wReport,.string Pc.wRelease,.string Pc.wConnect,.string Pc.wSit,.string Pc.wLayover,.string Pc.wGuarantee,.string Pc.wNight] 9))):=ya _ _
 have FC:Hid (∀(j:Nat) (s:ByteArray),Pc.fieldsL[j]?=some s→(w.alloc (.cells #[.string Pc.wReport,.string Pc.wRelease,.string Pc.wConnect,.string Pc.wSit,.string Pc.wLayover,.string Pc.wGuarantee,.string Pc.wNight] 9)).cell? ⟨w.heap.size,j,none⟩=some (.string s)):=by
  intro j s hj
  match j,hj with
  | 0,hj=>(cases hj;simp[go_sem])
  | 1,hj=>(cases hj;simp[go_sem])
  | 2,hj=>(cases hj;simp[go_sem])
  | 3,hj=>(cases hj;simp[go_sem])
  | 4,hj=>(cases hj;simp[go_sem])
  | 5,hj=>(cases hj;simp[go_sem])
  | 6,hj=>(cases hj;simp[go_sem])
  | n+7,hj=>simp[Pc.fieldsL] at hj
 unfold Pc.wReport Pc.wRelease Pc.wConnect Pc.wSit Pc.wLayover Pc.wGuarantee Pc.wNight at B1 FC;generalize w.alloc _=w1 at *;have tc1:=T0.out _ B1.out;go_wp2_with fail
 go_loopw [8] (fun i wr=>∃j:Nat,j≤7∧i=.int .i64 j∧Hid (Below w1.heap.size w1 wr)) (fun i _=>7 - (intOf i).toNat)
 case atStart=>exact⟨0,by omega,rfl,Below.refl _ _⟩
 case round =>
  obtain⟨wp,hwp⟩:∃z,z=wr:=⟨_,rfl⟩;subst hwp;obtain⟨j,hj,rfl,HB⟩:=hrel;have hi0:=LL.out
  by_cases qN:j < 7
  ·have hj1:(j:Int) < 7:=by omega
   obtain⟨s,hs⟩:∃s,Pc.fieldsL[j]?=some s:=⟨_,List.getElem?_eq_getElem (show j < 7 from qN)⟩;have fc:=qb (FC.out j s hs) HB.out;have tc2:=qb tc1 HB.out;have nq:=HFN.out j s hs;clear hs;go_upto_region 7 with (fail)
   go_quiet (fail)
   go_wp2
   go_roundw
   case rel=>exact⟨j+1,by omega,by go_num,below_drewN HB.out _⟩
   case measure=>simp[intOf];omega
  have hj1:¬(j:Int) < 7:=by omega
  clear FC HFN qN hj;have B2:Hid (Below w.heap.size w wp):=B1.out.trans (HB.out.mono B1.out.size);have tc2:=T0.out _ B2.out;clear tc1 B1 HB;have hc:=HC.out;cases h0:Pc.nmd L 1 with
  | false =>
    have RQ:Hid (R=(c,1)):=(by unfold Hid;rw[REST.out];unfold restT;simp[HW.out,h0,yd]);go_wp2_with (first|(go_at_call 96;refine(zM HS.out h0 (TA.out _ (by exact B2.out))).mono ?_;rintro e w2 ⟨rfl,hb2⟩;have B3:=hid (B2.out.trans (hb2.mono B2.out.size));have tc3:=T0.out _ B3.out;clear hb2 tc2 h0)|(go_at_call 99;refine(SC.out _).mono ?_;rintro e w' ⟨rfl,rfl⟩));go_ret;exact qY RQ.out (by decide) (by first|exact B3.out|exact B2.out)
  | true =>
    cases h1:Pc.isW L 2 Pc.wIs with
    | false =>
      have RQ:Hid (R=(c,1)):=(by unfold Hid;rw[REST.out];unfold restT;simp[HW.out,h0,h1,yd]);go_wp2_with (first|(go_at_call 96;refine(zM HS.out h0 (TA.out _ (by exact B2.out))).mono ?_;rintro e w2 ⟨rfl,hb2⟩;have B3:=hid (B2.out.trans (hb2.mono B2.out.size));have tc3:=T0.out _ B3.out;clear hb2 tc2 h0)|(go_at_call 97;refine(yU h1 (TA.out _ (by first|exact B3.out|exact B2.out))).mono ?_;rintro e w' ⟨rfl,rfl⟩;clear h1)|(go_at_call 99;refine(SC.out _).mono ?_;rintro e w' ⟨rfl,rfl⟩));go_ret;exact qY RQ.out (by decide) (by first|exact B3.out|exact B2.out)
    | true =>
      by_cases hbd:0≤yM (L.drop 3)
      ·
       have RQ:Hid (R=(c,1)):=(by unfold Hid;rw[REST.out];unfold restT;simp[HW.out,h0,h1,Pc.ifEx,hbd,yd]);have HL3:Hid (3≤L.length):=isw_lt h1;have TE:=hid (KR 3 HVV.out H40.out TA.out);have DV:Hid ((∀t∈ L.drop 3,VT t.t)∧(L.drop 3).length≤400):=⟨fun t ht=>HVV.out t (List.mem_of_mem_drop ht),by have:=H40.out;rw[List.length_drop];omega⟩;have HBD:=hid hbd;have hl3:=HL3.out;go_upto_region 11 with (first|(go_at_call 96;refine(zM HS.out h0 (TA.out _ (by exact B2.out))).mono ?_;rintro e w2 ⟨rfl,hb2⟩;have B3:=hid (B2.out.trans (hb2.mono B2.out.size));have tc3:=T0.out _ B3.out;clear hb2 tc2 h0)|(go_at_call 97;refine(yU h1 (TA.out _ (by first|exact B3.out|exact B2.out))).mono ?_;rintro e w' ⟨rfl,rfl⟩;clear h1)|(go_at_call 99;refine(SC.out _).mono ?_;rintro e w' ⟨rfl,rfl⟩));go_wp2_with ((go_at_call 98;refine(TE.out _ _ _ (by first|exact B3.out|exact B2.out) (by have q1:=HL3.out;have q2:=HCP.out;first|exact .inl rfl|exact .inr (by omega)|(split;exact .inr (by omega);exact .inl rfl))).mono ?_;rintro e w5 h5;obtain⟨x5,rfl,hb5,hx5⟩:=zr DV.out.1 DV.out.2 h5;clear h5 TE;have B5:=hid (Below.trans (by first|exact B3.out|exact B2.out) (hb5.mono (by first|exact B3.out.size|exact B2.out.size)));clear hx5 hb5;generalize yM _=bd at *;have hbd0:=HBD.out))
       all_goals
        go_ret;exact qY RQ.out (by decide) (B5.out.trans ((ya _ _).mono B5.out.size))
      ·
       replace hbd:yM (L.drop 3) < 0:=by omega
       have RQ:Hid (R=({ c with cs:=c.cs++[((Pc.tok L 1).text,Pc.tree (L.drop 3))] },0)):=(by unfold Hid;rw[REST.out];unfold restT;simp[HW.out,h0,h1,Pc.ifEx,show ¬ 0≤yM (L.drop 3) from by omega,yd]);have HL3:Hid (3≤L.length):=isw_lt h1;have TE:=hid (KR 3 HVV.out H40.out TA.out);have DV:Hid ((∀t∈ L.drop 3,VT t.t)∧(L.drop 3).length≤400):=⟨fun t ht=>HVV.out t (List.mem_of_mem_drop ht),by have:=H40.out;rw[List.length_drop];omega⟩;have HBD:=hid hbd;have hl3:=HL3.out
       have hcp:¬cap=3:=by
        have q1:=HCP.out;intro q;have q2:L.drop 3=[]:=List.drop_eq_nil_of_le (by omega);rw[q2,kO] at hbd;omega
       have ix1:(1:Int) < (L.length:Int):=(by omega);have IX1:Hid (1 < L.length):=(by unfold Hid;omega);have TK11:Hid (∀wq,Below w.heap.size w wq→wq.cell? ⟨g,O+1 * 4+1,none⟩=some (.string (Pc.tok L 1).text)):=fun wq hb=>(Qh (TA.out wq hb) IX1.out).1;have NS11:Hid ((Pc.tok L 1).text.size≤9223372036854775807):=xF HS.out 1;obtain⟨t11,ht11⟩:∃z,(Pc.tok L 1).text=z:=⟨_,rfl⟩;rw[ht11] at TK11 NS11 RQ;have LD:Hid (D.cs.length≤1000):=(by have q:=PV.out.len;have:=LC.out;unfold Hid;omega);go_upto_region 11 with (first|(go_at_call 96;refine(zM HS.out h0 (TA.out _ (by exact B2.out))).mono ?_;rintro e w2 ⟨rfl,hb2⟩;have B3:=hid (B2.out.trans (hb2.mono B2.out.size));have tc3:=T0.out _ B3.out;clear hb2 tc2 h0)|(go_at_call 97;refine(yU h1 (TA.out _ (by first|exact B3.out|exact B2.out))).mono ?_;rintro e w' ⟨rfl,rfl⟩;clear h1)|(go_at_call 99;refine(SC.out _).mono ?_;rintro e w' ⟨rfl,rfl⟩));go_upto_region 14 with ((go_at_call 98;refine(TE.out _ _ _ (by first|exact B3.out|exact B2.out) (by have q1:=HL3.out;have q2:=HCP.out;first|exact .inl rfl|exact .inr (by omega)|(split;exact .inr (by omega);exact .inl rfl))).mono ?_;rintro e w5 h5;obtain⟨x5,rfl,hb5,hx5⟩:=zr DV.out.1 DV.out.2 h5;clear h5 TE;have B5:=hid (Below.trans (by first|exact B3.out|exact B2.out) (hb5.mono (by first|exact B3.out.size|exact B2.out.size)));have X5:=hid (hx5 HBD.out);have A5:=hid ((PV.out.next (by first|exact B3.out|exact B2.out)).av X5.out.2.2.1);clear hx5 hb5;have hbd0:=HBD.out;generalize yM _=bd at *));obtain⟨w6,hw6,hbx,e0,e1,e2,e3⟩:=jn w5 x5;rw[hw6];clear hw6;have B6:=hid (B5.out.trans (hbx.mono B5.out.size));have X6:Hid (Pz.nr x5=Pc.tree (L.drop 3)∧ExAt w6 x5.b x5.o x5.a x5.k∧yS x5.a x5.k):=⟨X5.out.1,X5.out.2.1.next hbx,X5.out.2.2.2⟩;have TBG:Hid (w.heap.size≤w5.heap.size):=B5.out.size;have htb:=block_lt_of_cell e0;generalize w5.heap.size=tb at *;have htb2:tb < w6.heap.size:=htb;clear htb X5 hbx hbd0 DV;obtain⟨ir,hir,hir0,hir1,hir2⟩:=info_parts Tryz.infoCnP;have P6:=hid (PV.out.next B6.out);have k11:=TK11.out w6 B6.out;obtain⟨pv,cv,hv⟩:∃pv cv,vs 0=.slice pv D.cs.length cv:=qS (P6.out.rows.ow 0);have HV:=hid hv;have oc:=P6.out.box.c7;have hcb:cb < w6.heap.size:=P6.out.box.lt;rw[hv] at oc;clear hv;have HNB:=hid ((ya w6 (.cells #[.string t11,.int .i64 x5.a.op,.int .i64 x5.a.num,.string x5.a.name,.slice x5.a.ptr (len x5.k) x5.a.cap] 85)).drew);have P7:=hid (P6.out.next HNB.out)
       have OW4:Hid ((w6.alloc (.cells #[.string t11,.int .i64 x5.a.op,.int .i64 x5.a.num,.string x5.a.name,.slice x5.a.ptr (len x5.k) x5.a.cap] 85)).drew.ownsRow bs 85 5 (.slice pv D.cs.length cv) D.cs.length (D.cs.flatMap zf)):=by
        unfold Hid;have q:=P7.out.rows.ow 0;rw[← HV.out];exact q
       have OB:Hid (bs≤w6.heap.size∧cb < bs):=⟨Nat.le_trans LB.out.2 B6.out.size,LB.out.1⟩
       go_region_law (first|(refine zQ _ (by rfl) _ _ 37 (by rfl) bs 85 ir (.agg #[.string ⟨#[]⟩,.int .i64 0,.int .i64 0,.string ⟨#[]⟩,.slice none 0 0]) 5 72 Tryz.underlying37 hir hir0 hir1 hir2 rfl (by decide) (.slice pv D.cs.length cv) D.cs.length (D.cs.flatMap zf) (by rfl) OW4.out ⟨w6.heap.size,0,none⟩ 1 1 (zf ⟨t11,x5.b,x5.o,x5.a,x5.k⟩) (by rfl) (by rfl) (by intro q u hu;match q,hu with|0,hu=>(simp[zf] at hu;subst hu;simp[Addr.add,go_sem])|1,hu=>(simp[zf] at hu;subst hu;simp[Addr.add,go_sem])|2,hu=>(simp[zf] at hu;subst hu;simp[Addr.add,go_sem])|3,hu=>(simp[zf] at hu;subst hu;simp[Addr.add,go_sem])|4,hu=>(simp[zf] at hu;subst hu;simp[Addr.add,go_sem])|q+5,hu=>simp[zf] at hu) (v9 _) (by have:=LD.out;unfold maxLen;omega) (by have:=LD.out;omega) (by have:=OB.out;simp;omega) ?_;intro v' we qB qe hob;obtain⟨pn,cn,hvn⟩:=qS qB;subst hvn;have APP:=hid (PcV.app0 P7.out ⟨t11,x5.b,x5.o,x5.a,x5.k⟩ (X6.out.2.1.next HNB.out) A5.out (⟨X6.out.2.2,NS11.out⟩) qB (by rw[HV.out];exact qe) (by rw[HV.out];exact hob));have BEL:Hid (∀m,m≤cb→m≤bs→m≤w.heap.size→Below m w (we.setCell ⟨cb,7,none⟩ (.slice pn (D.cs.length+1) cn))):=(fun m q1 q2 q3=>yE (qP (B6.out.trans (HNB.out.mono B6.out.size)) q3) q3 qe (fun g' e'=>Nat.le_trans q2 (OW4.out.lt g' e').1) q1 _ _);have GB:=P7.out.box.grown qe (fun e'=>by have q:=(OW4.out.lt cb e'.symm).1;have:=OB.out;omega);have fz:=GB.f7;have cz:=GB.c7;clear GB qB qe hob))
       all_goals
        go_wp2_with fail;go_ret;exact kV RQ.out (by have q:=APP.out;rw[show Pz.nr (km ⟨t11,x5.b,x5.o,x5.a,x5.k⟩)=Pc.tree _ from X6.out.1] at q;exact q) (fun m q1 q2 q3 q4=>BEL.out m q1 q3 q4)
theorem YC(bs cb sb:Nat)(c:Pc.PC)(vs:Fin 6→Value)(D:Six)(L:List Tk.T4)(v:Value)(w:World)(hp:PcV w bs cb sb c vs D)(ht:TkAt w L v)(hV:∀t∈ L,VT t.t)(hs:∀t∈ L,t.t.text.size≤9223372036854775807)(hk:Pc.kd L 0 1=true)(hF:Pc.fieldsL.findIdx? (fun s=>decide (s=(Pc.tok L 0).text))=none)
 (hz0:Pc.scopeT (Pc.tok L 0).text=0) (hnc:(Pc.tok L 0).text≠Pc.wConst) (hnl:(Pc.tok L 0).text≠Pc.wLimit) (hno:(Pc.tok L 0).text≠Pc.wOff) (h40:L.length≤400) (hbs:bs≤w.heap.size) (hct:Pc.cnt c≤1000) :
 Calls Tryz.prog 40 #[.pointer (some ⟨cb,0,none⟩),.pointer (some ⟨sb,0,none⟩),v] w (K5 w bs cb sb (Pc.declT c L)):=by
 have REST:=hid (jf (c:=c) hk hF);generalize Pc.declT c L=R at *;have TA:Hid (∀wq,Below w.heap.size w wq→TkAt wq L v):=fun wq hb=>ht.next hb
 have PV:=hid hp;have HVV:=hid hV;have HS:=hid hs;have KA:Hid (Calls Tryz.prog 94 #[v,.int .i64 0,.int .i64 1] w fun e w'=>e=.returned (.bool true)∧w=w'):=kT hk ht;have hi:0 < L.length:=uD hk;have LL:=hid hi;have hlc:(0:Int) < (L.length:Int):=by omega
 obtain⟨t0,hq0⟩:∃t,L[0]?=some t:=⟨_,List.getElem?_eq_getElem hi⟩;have LB:Hid (cb < bs∧bs≤w.heap.size):=⟨hp.rows.lt cb (Or.inl rfl),hbs⟩;have LC:=hid hct;have H40:=hid h40;obtain⟨p,cap,hv,g1,g2,g3⟩:=ht;subst hv;have HCP:=hid g1;clear g1 g2 g3;obtain⟨g,O,rfl,ng1,ng2⟩:=zG (TA.out w (Below.refl _ _)) hq0 hp.box hp.vs hp.sn
 have T0:Hid (∀wq,Below w.heap.size w wq→wq.cell? ⟨g,O+1,none⟩=some (.string (Pc.tok L 0).text)):=fun wq hb=>by
  have q:=(Qh (TA.out wq hb) hi).1;rw[show O+0 * 4+1=O+1 by omega] at q;exact q
 have HFN:Hid (∀(j:Nat) (s:ByteArray),Pc.fieldsL[j]?=some s→((Pc.tok L 0).text.toList==s.toList)=false):=by
  intro j s hj;have q:=List.findIdx?_eq_none_iff.1 hF s (List.mem_of_getElem? hj);rw[beq_eq_false_iff_ne];intro e;refine(of_decide_eq_false q) ?_;rw[Lib.toList_data,Lib.toList_data] at e;exact ByteArray.ext (Array.toList_inj.1 e.symm)
 obtain⟨tx,htx⟩:∃z,(Pc.tok L 0).text=z:=⟨_,rfl⟩;rw[htx] at T0 HFN REST hz0 hnc hnl hno;obtain⟨sc,hsc⟩:∃z,Pc.scopeT tx=z:=⟨_,rfl⟩;have SC:Hid (∀wq,Calls Tryz.prog 99 #[.string tx] wq fun e w'=>e=.returned (.int .i64 sc)∧wq=w'):=fun wq=>(by have q:=jc tx wq;rw[hsc] at q;exact q);clear hq0 hF hk hi hp hs hV htx;have hz:sc=0:=hsc.symm.trans hz0;subst hz;have nc:¬tx.toList=[99,111,110,115,116]:=j7 hnc;have nl:¬tx.toList=[108,105,109,105,116]:=j7 hnl;have no:¬tx.toList=[111,102,102]:=j7 hno;have hnd:tx≠Pc.wDuty:=(by rintro rfl;exact absurd hz0 (by decide));have nd:¬tx.toList=[100,117,116,121]:=j7 hnd;clear h40 hbs hct;go_enter Tryz.func40,Tryz.ntmps40;go_upto_region 4 with (go_at_call 94;refine KA.out.mono ?_;rintro e w' ⟨rfl,rfl⟩);have B1:Hid (Below w.heap.size w (w.alloc (.cells #[.string Pc.wReport,.string Pc.wRelease,.string Pc.wConnect,.string Pc.wSit,.string Pc.wLayover,.string Pc.wGuarantee,.string Pc.wNight] 9))):=ya _ _
 have FC:Hid (∀(j:Nat) (s:ByteArray),Pc.fieldsL[j]?=some s→(w.alloc (.cells #[.string Pc.wReport,.string Pc.wRelease,.string Pc.wConnect,.string Pc.wSit,.string Pc.wLayover,.string Pc.wGuarantee,.string Pc.wNight] 9)).cell? ⟨w.heap.size,j,none⟩=some (.string s)):=by
  intro j s hj
  match j,hj with
  | 0,hj=>(cases hj;simp[go_sem])
  | 1,hj=>(cases hj;simp[go_sem])
  | 2,hj=>(cases hj;simp[go_sem])
  | 3,hj=>(cases hj;simp[go_sem])
  | 4,hj=>(cases hj;simp[go_sem])
  | 5,hj=>(cases hj;simp[go_sem])
  | 6,hj=>(cases hj;simp[go_sem])
  | n+7,hj=>simp[Pc.fieldsL] at hj
 unfold Pc.wReport Pc.wRelease Pc.wConnect Pc.wSit Pc.wLayover Pc.wGuarantee Pc.wNight at B1 FC;generalize w.alloc _=w1 at *;have tc1:=T0.out _ B1.out;go_wp2_with fail
 go_loopw [8] (fun i wr=>∃j:Nat,j≤7∧i=.int .i64 j∧Hid (Below w1.heap.size w1 wr)) (fun i _=>7 - (intOf i).toNat)
 case atStart=>exact⟨0,by omega,rfl,Below.refl _ _⟩
 case round =>
  obtain⟨wp,hwp⟩:∃z,z=wr:=⟨_,rfl⟩;subst hwp;obtain⟨j,hj,rfl,HB⟩:=hrel;have hi0:=LL.out
  by_cases qN:j < 7
  ·have hj1:(j:Int) < 7:=by omega
   obtain⟨s,hs⟩:∃s,Pc.fieldsL[j]?=some s:=⟨_,List.getElem?_eq_getElem (show j < 7 from qN)⟩;have fc:=qb (FC.out j s hs) HB.out;have tc2:=qb tc1 HB.out;have nq:=HFN.out j s hs;clear hs;go_upto_region 7 with (fail)
   go_quiet (fail)
   go_wp2
   go_roundw
   case rel=>exact⟨j+1,by omega,by go_num,below_drewN HB.out _⟩
   case measure=>simp[intOf];omega
  have hj1:¬(j:Int) < 7:=by omega
  clear FC HFN qN hj;have B2:Hid (Below w.heap.size w wp):=B1.out.trans (HB.out.mono B1.out.size);have tc2:=T0.out _ B2.out;clear tc1 B1 HB;have RQ:Hid (R=(c,1)):=by unfold Hid;rw[REST.out];unfold restT;simp[hz0,hnc,hnl,hno,hnd,yd]
  go_wp2_with (first|(go_at_call 99;refine(SC.out _).mono ?_;rintro e w' ⟨rfl,rfl⟩));go_ret;exact qY RQ.out (by decide) (by first|exact B3.out|exact B2.out)
end Go.Proofs.YtcejjdmnlejbaaaGreatDoor
