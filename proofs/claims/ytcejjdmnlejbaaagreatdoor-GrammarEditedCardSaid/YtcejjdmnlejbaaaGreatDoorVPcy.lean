import Derived.Test.YtcejjdmnlejbaaaGreatDoorVDc
import Derived.Test.YtcejjdmnlejbaaaGreatDoorVDs
import Derived.Test.YtcejjdmnlejbaaaGreatDoorVDl
namespace Go.Proofs.YtcejjdmnlejbaaaGreatDoor
open Option.some(inj)
open Lib(hid)
set_option linter.unusedVariables false
set_option linter.unusedSimpArgs false
open Go.ChangeShapes Go.WideShapes Go.ChangeAt Go.RowKit
open Go.Deep (BT)
set_option maxHeartbeats 16000000
set_option maxRecDepth 100000
def UO:List (Nat× Nat):=[(313,0),(314,1),(315,2),(316,3),(317,4),(318,5),(319,6),(320,7),(321,8),(322,9),(323,10),(324,11),(325,12),(326,13),(327,14),(328,15),(329,16),(330,17),(331,18),(332,19),(333,20),(334,21)]
def ofW(cb g O Ll cap nn cv B0:Nat)(pv:Option Addr)(t11:ByteArray)(t32:Int)(t52:Int)(i:Nat):Wl :=
 match i with
 | 0=>.eq (.pointer (some ⟨cb,0,none⟩))
 | 1=>.eq (.pointer (some ⟨cb,0,none⟩))
 | 2=>.eq (.pointer (some ⟨cb,0,none⟩))
 | 3=>.eq (.pointer (some ⟨cb,12,none⟩))
 | 4=>.eq (.slice pv nn cv)
 | 5=>.eq (.slice (some ⟨g,O,none⟩) Ll cap)
 | 6=>.eq (.pointer (some ⟨g,O+1 * 4,none⟩))
 | 7=>.eq (.pointer (some ⟨g,O+1 * 4+1,none⟩))
 | 8=>.eq (.string t11)
 | 9=>.eq (.slice (some ⟨g,O,none⟩) Ll cap)
 | 10=>.eq (.pointer (some ⟨g,O+3 * 4,none⟩))
 | 11=>.eq (.pointer (some ⟨g,O+3 * 4+2,none⟩))
 | 12=>.eq (.int .i64 t32)
 | 13=>.eq (.slice (some ⟨g,O,none⟩) Ll cap)
 | 14=>.eq (.pointer (some ⟨g,O+5 * 4,none⟩))
 | 15=>.eq (.pointer (some ⟨g,O+5 * 4+2,none⟩))
 | 16=>.eq (.int .i64 t52)
 | 17=>.eq (.agg #[.string t11,.int .i64 t32,.int .i64 t52])
 | 18=>.row B0 [.string t11,.int .i64 t32,.int .i64 t52]
 | 19=>.any
 | 20=>.eq (.pointer (some ⟨cb,0,none⟩))
 | 21=>.eq (.pointer (some ⟨cb,12,none⟩))
 | _=>.any
def ofG(cb g O Ll cap nn cv B0:Nat)(pv:Option Addr)(t11:ByteArray)(t32:Int)(t52:Int)(i:Nat)(v:Value)(w:World):Prop:=(ofW cb g O Ll cap nn cv B0 pv t11 t32 t52 i).ok v w
theorem Kn(bs cb sb:Nat)(c:Pc.PC)(vs:Fin 6→Value)(D:Six)(L:List Tk.T4)(v:Value)(w:World)(hp:PcV w bs cb sb c vs D)(ht:TkAt w L v)(hV:∀t∈ L,VT t.t)(hs:∀t∈ L,t.t.text.size≤9223372036854775807)(hk:Pc.kd L 0 1=true)(hF:Pc.fieldsL.findIdx? (fun s=>decide (s=(Pc.tok L 0).text))=none)
 (hw:(Pc.tok L 0).text=Pc.wOff) (h40:L.length≤400) (hbs:bs≤w.heap.size) (hct:Pc.cnt c≤1000) :
 Calls Tryz.prog 40 #[.pointer (some ⟨cb,0,none⟩),.pointer (some ⟨sb,0,none⟩),v] w (K5 w bs cb sb (Pc.declT c L)):=by
 have REST:=hid (jf (c:=c) hk hF);generalize Pc.declT c L=R at *;have TA:Hid (∀wq,Below w.heap.size w wq→TkAt wq L v):=fun wq hb=>ht.next hb
 have PV:=hid hp;have HVV:=hid hV;have HS:=hid hs;have KA:Hid (Calls Tryz.prog 94 #[v,.int .i64 0,.int .i64 1] w fun e w'=>e=.returned (.bool true)∧w=w'):=kT hk ht;have hi:0 < L.length:=uD hk;have LL:=hid hi;have hlc:(0:Int) < (L.length:Int):=by omega
 obtain⟨t0,hq0⟩:∃t,L[0]?=some t:=⟨_,List.getElem?_eq_getElem hi⟩;have LB:Hid (cb < bs∧bs≤w.heap.size):=⟨hp.rows.lt cb (Or.inl rfl),hbs⟩;have LC:=hid hct;have H40:=hid h40;obtain⟨p,cap,hv,g1,g2,g3⟩:=ht;subst hv;have HCP:=hid g1;clear g1 g2 g3;obtain⟨g,O,rfl,ng1,ng2⟩:=zG (TA.out w (Below.refl _ _)) hq0 hp.box hp.vs hp.sn
 have T0:Hid (∀wq,Below w.heap.size w wq→wq.cell? ⟨g,O+1,none⟩=some (.string (Pc.tok L 0).text)):=fun wq hb=>by
  have q:=(Qh (TA.out wq hb) hi).1;rw[show O+0 * 4+1=O+1 by omega] at q;exact q
 have HFN:Hid (∀(j:Nat) (s:ByteArray),Pc.fieldsL[j]?=some s→((Pc.tok L 0).text.toList==s.toList)=false):=by
  intro j s hj;have q:=List.findIdx?_eq_none_iff.1 hF s (List.mem_of_getElem? hj);rw[beq_eq_false_iff_ne];intro e;refine(of_decide_eq_false q) ?_;rw[Lib.toList_data,Lib.toList_data] at e;exact ByteArray.ext (Array.toList_inj.1 e.symm)
 obtain⟨tx,htx⟩:∃z,(Pc.tok L 0).text=z:=⟨_,rfl⟩;rw[htx] at T0 HFN REST hw;obtain⟨sc,hsc⟩:∃z,Pc.scopeT tx=z:=⟨_,rfl⟩;have SC:Hid (∀wq,Calls Tryz.prog 99 #[.string tx] wq fun e w'=>e=.returned (.int .i64 sc)∧wq=w'):=fun wq=>(by have q:=jc tx wq;rw[hsc] at q;exact q);clear hq0 hF hk hi hp hs hV htx;have hz:sc=0:=by rw[← hsc,hw];decide
 have HC:Hid (tx.toList=[111,102,102]):=xG hw;have HW:=hid hw;clear hw;subst hz;clear h40 hbs hct;go_enter Tryz.func40,Tryz.ntmps40;go_upto_region 4 with (go_at_call 94;refine KA.out.mono ?_;rintro e w' ⟨rfl,rfl⟩);have B1:Hid (Below w.heap.size w (w.alloc (.cells #[.string Pc.wReport,.string Pc.wRelease,.string Pc.wConnect,.string Pc.wSit,.string Pc.wLayover,.string Pc.wGuarantee,.string Pc.wNight] 9))):=ya _ _
 have FC:Hid (∀(j:Nat) (s:ByteArray),Pc.fieldsL[j]?=some s→(w.alloc (.cells #[.string Pc.wReport,.string Pc.wRelease,.string Pc.wConnect,.string Pc.wSit,.string Pc.wLayover,.string Pc.wGuarantee,.string Pc.wNight] 9)).cell? ⟨w.heap.size,j,none⟩=some (.string s)):=by
  intro j s hj
  match j,hj with
  | 0,hj=>(cases hj;simp[go_sem])
  | 1,hj=>(cases hj;simp[go_sem])
  | 2,hj=>(cases hj;simp[go_sem])
  | 3,hj=>(cases hj;simp[go_sem])
  | 4,hj=>(cases hj;simp[go_sem])
  | 5,hj=>(cases hj;simp[go_sem])
  | 6,hj=>(cases hj;simp[go_sem])
  | n+7,hj=>simp[Pc.fieldsL] at hj
 unfold Pc.wReport Pc.wRelease Pc.wConnect Pc.wSit Pc.wLayover Pc.wGuarantee Pc.wNight at B1 FC;generalize w.alloc _=w1 at *;have tc1:=T0.out _ B1.out;go_wp2_with fail
 go_loopw [8] (fun i wr=>∃j:Nat,j≤7∧i=.int .i64 j∧Hid (Below w1.heap.size w1 wr)) (fun i _=>7 - (intOf i).toNat)
 case atStart=>exact⟨0,by omega,rfl,Below.refl _ _⟩
 case round =>
  obtain⟨wp,hwp⟩:∃z,z=wr:=⟨_,rfl⟩;subst hwp;obtain⟨j,hj,rfl,HB⟩:=hrel;have hi0:=LL.out
  by_cases qN:j < 7
  ·have hj1:(j:Int) < 7:=by omega
   obtain⟨s,hs⟩:∃s,Pc.fieldsL[j]?=some s:=⟨_,List.getElem?_eq_getElem (show j < 7 from qN)⟩;have fc:=qb (FC.out j s hs) HB.out;have tc2:=qb tc1 HB.out;have nq:=HFN.out j s hs;clear hs;go_upto_region 7 with (fail)
   go_quiet (fail)
   go_wp2
   go_roundw
   case rel=>exact⟨j+1,by omega,by go_num,below_drewN HB.out _⟩
   case measure=>simp[intOf];omega
  have hj1:¬(j:Int) < 7:=by omega
  clear FC HFN qN hj;have B2:Hid (Below w.heap.size w wp):=B1.out.trans (HB.out.mono B1.out.size);have tc2:=T0.out _ B2.out;clear tc1 B1 HB;have hc:=HC.out
  by_cases h0:L.length=7
  case neg =>
   have N0:((L.length:Int)==7)=false:=(by rw[beq_eq_false_iff_ne];omega);have HL:=hid h0;clear h0;have RQ:Hid (R=(c,1)):=(by unfold Hid;rw[REST.out];unfold restT;simp[HW.out,HL.out,yd]);go_wp2_with (first|(go_at_call 99;refine(SC.out _).mono ?_;rintro e w' ⟨rfl,rfl⟩));go_ret;exact qY RQ.out (by decide) (by exact B2.out)
  have N0:((L.length:Int)==7)=true:=(by rw[beq_iff_eq];omega);have HL:=hid h0;clear h0;cases h1:Pc.nmd L 1 with
  | false =>
    have RQ:Hid (R=(c,1)):=(by unfold Hid;rw[REST.out];unfold restT;simp[HW.out,HL.out,h1,yd]);go_wp2_with (first|(go_at_call 96;refine(zM HS.out h1 (TA.out _ (by exact B2.out))).mono ?_;rintro e w2 ⟨rfl,hb2⟩;have B3:=hid (B2.out.trans (hb2.mono B2.out.size));have tc3:=T0.out _ B3.out;clear hb2 tc2 h1)|(go_at_call 99;refine(SC.out _).mono ?_;rintro e w' ⟨rfl,rfl⟩));go_ret;exact qY RQ.out (by decide) (by exact B3.out)
  | true =>
    cases h2:Pc.isW L 2 Pc.wIs with
    | false =>
      have RQ:Hid (R=(c,1)):=(by unfold Hid;rw[REST.out];unfold restT;simp[HW.out,HL.out,h1,h2,yd]);go_wp2_with (first|(go_at_call 96;refine(zM HS.out h1 (TA.out _ (by exact B2.out))).mono ?_;rintro e w2 ⟨rfl,hb2⟩;have B3:=hid (B2.out.trans (hb2.mono B2.out.size));have tc3:=T0.out _ B3.out;clear hb2 tc2 h1)|(go_at_call 97;refine(yU h2 (TA.out _ (by exact B3.out))).mono ?_;rintro e w' ⟨rfl,rfl⟩;clear h2)|(go_at_call 99;refine(SC.out _).mono ?_;rintro e w' ⟨rfl,rfl⟩));go_ret;exact qY RQ.out (by decide) (by exact B3.out)
    | true =>
      cases h3:Pc.kd L 3 2 with
      | false =>
        have RQ:Hid (R=(c,1)):=(by unfold Hid;rw[REST.out];unfold restT;simp[HW.out,HL.out,h1,h2,h3,yd]);go_wp2_with (first|(go_at_call 96;refine(zM HS.out h1 (TA.out _ (by exact B2.out))).mono ?_;rintro e w2 ⟨rfl,hb2⟩;have B3:=hid (B2.out.trans (hb2.mono B2.out.size));have tc3:=T0.out _ B3.out;clear hb2 tc2 h1)|(go_at_call 97;refine(yU h2 (TA.out _ (by exact B3.out))).mono ?_;rintro e w' ⟨rfl,rfl⟩;clear h2)|(go_at_call 94;refine(kT h3 (TA.out _ (by exact B3.out))).mono ?_;rintro e w' ⟨rfl,rfl⟩;clear h3)|(go_at_call 99;refine(SC.out _).mono ?_;rintro e w' ⟨rfl,rfl⟩));go_ret;exact qY RQ.out (by decide) (by exact B3.out)
      | true =>
        cases h4:Pc.isW L 4 Pc.wIn with
        | false =>
          have RQ:Hid (R=(c,1)):=(by unfold Hid;rw[REST.out];unfold restT;simp[HW.out,HL.out,h1,h2,h3,h4,yd]);go_wp2_with (first|(go_at_call 96;refine(zM HS.out h1 (TA.out _ (by exact B2.out))).mono ?_;rintro e w2 ⟨rfl,hb2⟩;have B3:=hid (B2.out.trans (hb2.mono B2.out.size));have tc3:=T0.out _ B3.out;clear hb2 tc2 h1)|(go_at_call 97;refine(yU h2 (TA.out _ (by exact B3.out))).mono ?_;rintro e w' ⟨rfl,rfl⟩;clear h2)|(go_at_call 94;refine(kT h3 (TA.out _ (by exact B3.out))).mono ?_;rintro e w' ⟨rfl,rfl⟩;clear h3)|(go_at_call 97;refine(yU h4 (TA.out _ (by exact B3.out))).mono ?_;rintro e w' ⟨rfl,rfl⟩;clear h4)|(go_at_call 99;refine(SC.out _).mono ?_;rintro e w' ⟨rfl,rfl⟩));go_ret;exact qY RQ.out (by decide) (by exact B3.out)
        | true =>
          cases h5:Pc.kd L 5 2 with
          | false =>
            have RQ:Hid (R=(c,1)):=(by unfold Hid;rw[REST.out];unfold restT;simp[HW.out,HL.out,h1,h2,h3,h4,h5,yd]);go_wp2_with (first|(go_at_call 96;refine(zM HS.out h1 (TA.out _ (by exact B2.out))).mono ?_;rintro e w2 ⟨rfl,hb2⟩;have B3:=hid (B2.out.trans (hb2.mono B2.out.size));have tc3:=T0.out _ B3.out;clear hb2 tc2 h1)|(go_at_call 97;refine(yU h2 (TA.out _ (by exact B3.out))).mono ?_;rintro e w' ⟨rfl,rfl⟩;clear h2)|(go_at_call 94;refine(kT h3 (TA.out _ (by exact B3.out))).mono ?_;rintro e w' ⟨rfl,rfl⟩;clear h3)|(go_at_call 97;refine(yU h4 (TA.out _ (by exact B3.out))).mono ?_;rintro e w' ⟨rfl,rfl⟩;clear h4)|(go_at_call 94;refine(kT h5 (TA.out _ (by exact B3.out))).mono ?_;rintro e w' ⟨rfl,rfl⟩;clear h5)|(go_at_call 99;refine(SC.out _).mono ?_;rintro e w' ⟨rfl,rfl⟩));go_ret;exact qY RQ.out (by decide) (by exact B3.out)
          | true =>
            cases h6:Pc.isW L 6 Pc.wDays with
            | false =>
              have RQ:Hid (R=(c,1)):=(by unfold Hid;rw[REST.out];unfold restT;simp[HW.out,HL.out,h1,h2,h3,h4,h5,h6,yd]);go_wp2_with (first|(go_at_call 96;refine(zM HS.out h1 (TA.out _ (by exact B2.out))).mono ?_;rintro e w2 ⟨rfl,hb2⟩;have B3:=hid (B2.out.trans (hb2.mono B2.out.size));have tc3:=T0.out _ B3.out;clear hb2 tc2 h1)|(go_at_call 97;refine(yU h2 (TA.out _ (by exact B3.out))).mono ?_;rintro e w' ⟨rfl,rfl⟩;clear h2)|(go_at_call 94;refine(kT h3 (TA.out _ (by exact B3.out))).mono ?_;rintro e w' ⟨rfl,rfl⟩;clear h3)|(go_at_call 97;refine(yU h4 (TA.out _ (by exact B3.out))).mono ?_;rintro e w' ⟨rfl,rfl⟩;clear h4)|(go_at_call 94;refine(kT h5 (TA.out _ (by exact B3.out))).mono ?_;rintro e w' ⟨rfl,rfl⟩;clear h5)|(go_at_call 97;refine(yU h6 (TA.out _ (by exact B3.out))).mono ?_;rintro e w' ⟨rfl,rfl⟩;clear h6)|(go_at_call 99;refine(SC.out _).mono ?_;rintro e w' ⟨rfl,rfl⟩));go_ret;exact qY RQ.out (by decide) (by exact B3.out)
            | true =>
              have RQ:Hid (R=({ c with fs:=c.fs++[⟨(Pc.tok L 1).text,(Pc.tok L 3).num,(Pc.tok L 5).num⟩] },0)):=(by unfold Hid;rw[REST.out];unfold restT;simp[HW.out,HL.out,h1,h2,h3,h4,h5,h6,yd]);have ix1:(1:Int) < (L.length:Int):=(by have:=HL.out;omega);have IX1:Hid (1 < L.length):=(by have:=HL.out;unfold Hid;omega);have ix3:(3:Int) < (L.length:Int):=(by have:=HL.out;omega);have IX3:Hid (3 < L.length):=(by have:=HL.out;unfold Hid;omega);have ix5:(5:Int) < (L.length:Int):=(by have:=HL.out;omega);have IX5:Hid (5 < L.length):=(by have:=HL.out;unfold Hid;omega);have TK11:Hid (∀wq,Below w.heap.size w wq→wq.cell? ⟨g,O+1 * 4+1,none⟩=some (.string (Pc.tok L 1).text)):=fun wq hb=>(Qh (TA.out wq hb) IX1.out).1;have NS11:Hid ((Pc.tok L 1).text.size≤9223372036854775807):=xF HS.out 1;obtain⟨t11,ht11⟩:∃z,(Pc.tok L 1).text=z:=⟨_,rfl⟩;rw[ht11] at TK11 NS11 RQ;have TK32:Hid (∀wq,Below w.heap.size w wq→wq.cell? ⟨g,O+3 * 4+2,none⟩=some (.int .i64 (Pc.tok L 3).num)):=fun wq hb=>(Qh (TA.out wq hb) IX3.out).2;have NS32:Hid (Bd (Pc.tok L 3).num):=tok_bd HVV.out 3;obtain⟨t32,ht32⟩:∃z,(Pc.tok L 3).num=z:=⟨_,rfl⟩;rw[ht32] at TK32 NS32 RQ;have TK52:Hid (∀wq,Below w.heap.size w wq→wq.cell? ⟨g,O+5 * 4+2,none⟩=some (.int .i64 (Pc.tok L 5).num)):=fun wq hb=>(Qh (TA.out wq hb) IX5.out).2;have NS52:Hid (Bd (Pc.tok L 5).num):=tok_bd HVV.out 5;obtain⟨t52,ht52⟩:∃z,(Pc.tok L 5).num=z:=⟨_,rfl⟩;rw[ht52] at TK52 NS52 RQ;have LD:Hid (D.fs.length≤1000):=(by have q:=PV.out.len;have:=LC.out;unfold Hid;omega);go_upto_region 36 with (first|(go_at_call 96;refine(zM HS.out h1 (TA.out _ (by exact B2.out))).mono ?_;rintro e w2 ⟨rfl,hb2⟩;have B3:=hid (B2.out.trans (hb2.mono B2.out.size));have tc3:=T0.out _ B3.out;clear hb2 tc2 h1)|(go_at_call 97;refine(yU h2 (TA.out _ (by exact B3.out))).mono ?_;rintro e w' ⟨rfl,rfl⟩;clear h2)|(go_at_call 94;refine(kT h3 (TA.out _ (by exact B3.out))).mono ?_;rintro e w' ⟨rfl,rfl⟩;clear h3)|(go_at_call 97;refine(yU h4 (TA.out _ (by exact B3.out))).mono ?_;rintro e w' ⟨rfl,rfl⟩;clear h4)|(go_at_call 94;refine(kT h5 (TA.out _ (by exact B3.out))).mono ?_;rintro e w' ⟨rfl,rfl⟩;clear h5)|(go_at_call 97;refine(yU h6 (TA.out _ (by exact B3.out))).mono ?_;rintro e w' ⟨rfl,rfl⟩;clear h6)|(go_at_call 99;refine(SC.out _).mono ?_;rintro e w' ⟨rfl,rfl⟩));obtain⟨w6,hw6⟩:∃z,z=w2:=⟨_,rfl⟩;subst hw6;have B6:=B3;obtain⟨ir,hir,hir0,hir1,hir2⟩:=info_parts Tryz.infoOfP;have P6:=hid (PV.out.next B6.out);obtain⟨pv,cv,hv⟩:∃pv cv,vs 5=.slice pv D.fs.length cv:=qS (P6.out.rows.ow 5);have HV:=hid hv;clear hv;have EX:Hid (∀wq,Ext w6.drew wq→Below w.heap.size w wq):=fun wq hq=>(B6.out.drew).trans (Below.mono hq (by have:=B6.out.size;simpa using this));have PX:Hid (∀wq,Ext w6.drew wq→PcV wq bs cb sb c vs D):=fun wq hq=>PV.out.next (EX.out wq hq)
              have EXN:Hid (∀wq,Ext w6.drew wq→Below w6.heap.size w6 wq):=fun wq hq=>((Below.refl _ _).drew).trans (Below.mono hq (by simp));have HB0:Hid (w6.heap.size≤w6.drew.heap.size):=(by unfold Hid;simp);have OB:Hid (bs≤w6.heap.size∧cb < bs):=⟨Nat.le_trans LB.out.2 B6.out.size,LB.out.1⟩;have CB:Hid (∀wq,Ext w6.drew wq→wq.cell? ⟨cb,12,none⟩=some (.slice pv D.fs.length cv)):=fun wq hq=>by rw[← HV.out];exact(PX.out wq hq).box.c12
              have TC11:Hid (∀wq,Ext w6.drew wq→wq.cell? ⟨g,O+1 * 4+1,none⟩=some (.string t11)):=fun wq hq=>TK11.out wq (EX.out wq hq);have TC32:Hid (∀wq,Ext w6.drew wq→wq.cell? ⟨g,O+3 * 4+2,none⟩=some (.int .i64 t32)):=fun wq hq=>TK32.out wq (EX.out wq hq);have TC52:Hid (∀wq,Ext w6.drew wq→wq.cell? ⟨g,O+5 * 4+2,none⟩=some (.int .i64 t52)):=fun wq hq=>TK52.out wq (EX.out wq hq);refine yN UO (ofG cb g O L.length cap D.fs.length cv w6.heap.size pv t11 t32 t52) 19 22 (fun x w1 w'=>∃pn cn,x 332=.slice pn (D.fs.length+1) cn∧w'.ownsRow bs 93 3 (.slice pn (D.fs.length+1) cn) (D.fs.length+1) (D.fs.flatMap zT++zT ⟨t11,t32,t52⟩)∧w1.grownBy w' (vs 5).ownBlock∧((Value.slice pn (D.fs.length+1) cn).ownBlock=(vs 5).ownBlock∨(Value.slice pn (D.fs.length+1) cn).ownBlock=some w1.heap.size)) (fun x w1 w'=>∃pn cn we,w'=we.setCell ⟨cb,12,none⟩ (.slice pn (D.fs.length+1) cn)∧we.ownsRow bs 93 3 (.slice pn (D.fs.length+1) cn) (D.fs.length+1) (D.fs.flatMap zT++zT ⟨t11,t32,t52⟩)∧w1.grownBy we (vs 5).ownBlock∧((Value.slice pn (D.fs.length+1) cn).ownBlock=(vs 5).ownBlock∨(Value.slice pn (D.fs.length+1) cn).ownBlock=some w1.heap.size)) (by kernel_rfl) (by kernel_rfl) (fun i v w w' h he=>Wl.ext h he) (fun i=>decide (i≠0∧i≠20∧i≠21∧i < 19)) (by kernel_rfl) (by kernel_rfl) (by decide) ?hst ?hpu ?hla ?hyo ?hfin
              case hst =>
               intro i o ho hz hy
               match i,ho with
               | 0,ho=>exact qI ho fun a w3 hx qq qa=>⟨rfl,_,run_move (.tmp 0) (.pointer (some ⟨cb,0,none⟩)) (qq 0 rfl),rfl⟩
               | 1,ho=>exact qI ho fun a w3 hx qq qa=>⟨rfl,_,run_move (.tmp 0) (.pointer (some ⟨cb,0,none⟩)) (qq 0 rfl),rfl⟩
               | 2,ho=>exact qI ho fun a w3 hx qq qa=>⟨rfl,_,qL (.tmp 314) ⟨cb,0,none⟩ (qa 314 1 rfl rfl),rfl⟩
               | 3,ho=>exact qI ho fun a w3 hx qq qa=>⟨rfl,_,yX (.tmp 315) cb 0 12 (by decide) (qa 315 2 rfl rfl),rfl⟩
               | 4,ho=>exact qI ho fun a w3 hx qq qa=>⟨rfl,_,ye (.tmp 316) ⟨cb,12,none⟩ 41 (by decide) _ (qa 316 3 rfl rfl) (CB.out w3 hx),rfl⟩
               | 5,ho=>exact qI ho fun a w3 hx qq qa=>⟨rfl,_,run_move (.tmp 2) (.slice (some ⟨g,O,none⟩) L.length cap) (qq 2 rfl),rfl⟩
               | 6,ho=>exact qI ho fun a w3 hx qq qa=>⟨rfl,_,yI (.tmp 318) g O L.length cap 1 rfl IX1.out (qa 318 5 rfl rfl),rfl⟩
               | 7,ho=>exact qI ho fun a w3 hx qq qa=>⟨rfl,_,yA (.tmp 319) g (O+1 * 4) 1 (by decide) (qa 319 6 rfl rfl),rfl⟩
               | 8,ho=>exact qI ho fun a w3 hx qq qa=>⟨rfl,_,ye (.tmp 320) ⟨g,O+1 * 4+1,none⟩ 9 (by decide) (.string t11) (qa 320 7 rfl rfl) (TC11.out w3 hx),rfl⟩
               | 9,ho=>exact qI ho fun a w3 hx qq qa=>⟨rfl,_,run_move (.tmp 2) (.slice (some ⟨g,O,none⟩) L.length cap) (qq 2 rfl),rfl⟩
               | 10,ho=>exact qI ho fun a w3 hx qq qa=>⟨rfl,_,yI (.tmp 322) g O L.length cap 3 rfl IX3.out (qa 322 9 rfl rfl),rfl⟩
               | 11,ho=>exact qI ho fun a w3 hx qq qa=>⟨rfl,_,yA (.tmp 323) g (O+3 * 4) 2 (by decide) (qa 323 10 rfl rfl),rfl⟩
               | 12,ho=>exact qI ho fun a w3 hx qq qa=>⟨rfl,_,ye (.tmp 324) ⟨g,O+3 * 4+2,none⟩ 3 (by decide) (.int .i64 t32) (qa 324 11 rfl rfl) (TC32.out w3 hx),rfl⟩
               | 13,ho=>exact qI ho fun a w3 hx qq qa=>⟨rfl,_,run_move (.tmp 2) (.slice (some ⟨g,O,none⟩) L.length cap) (qq 2 rfl),rfl⟩
               | 14,ho=>exact qI ho fun a w3 hx qq qa=>⟨rfl,_,yI (.tmp 326) g O L.length cap 5 rfl IX5.out (qa 326 13 rfl rfl),rfl⟩
               | 15,ho=>exact qI ho fun a w3 hx qq qa=>⟨rfl,_,yA (.tmp 327) g (O+5 * 4) 2 (by decide) (qa 327 14 rfl rfl),rfl⟩
               | 16,ho=>exact qI ho fun a w3 hx qq qa=>⟨rfl,_,ye (.tmp 328) ⟨g,O+5 * 4+2,none⟩ 3 (by decide) (.int .i64 t52) (qa 328 15 rfl rfl) (TC52.out w3 hx),rfl⟩
               | 17,ho=>exact qI ho fun a w3 hx qq qa=>⟨rfl,_,vE (.tmp 321) (.tmp 325) (.tmp 329) t11 t32 t52 (qa 321 8 rfl rfl) (qa 325 12 rfl rfl) (qa 329 16 rfl rfl),rfl⟩
               | 18,ho=>obtain rfl:=inj ho;intro a w3 hx qq qa qM;have hz:=(hx.size:(w6.drew).heap.size≤w3.heap.size);exact⟨rfl,yL (QT (.tmp 330) (.string t11) (.int .i64 t32) (.int .i64 t52) (qa 330 17 rfl rfl)) (Ext.alloc _ _) (QN w3 w6.heap.size (Nat.le_trans HB0.out hz) (.string t11) (.int .i64 t32) (.int .i64 t52) _)⟩
               | 19,ho=>exact absurd rfl hz
               | 20,ho=>exact qI ho fun a w3 hx qq qa=>⟨rfl,_,qL (.tmp 313) ⟨cb,0,none⟩ (qa 313 0 rfl rfl),rfl⟩
               | 21,ho=>exact qI ho fun a w3 hx qq qa=>⟨rfl,_,yX (.tmp 333) cb 0 12 (by decide) (qa 333 20 rfl rfl),rfl⟩
               | 22,ho=>exact absurd rfl hy
               | i+23,ho=>cases ho
              case hpu =>
               intro i o ho hz hy
               match i,ho with
               | 0,ho=>obtain rfl:=inj ho;refine .inr ?_;intro a w1 w3 hx yD qq qa qM hf;exact⟨rfl,qD (run_move (.tmp 0) (.pointer (some ⟨cb,0,none⟩)) (qq 0 rfl)) ⟨_,rfl,rfl,fun _=>rfl,jj (by decide) hf⟩⟩
               | 1,ho=>exact .inl rfl
               | 2,ho=>exact .inl rfl
               | 3,ho=>exact .inl rfl
               | 4,ho=>exact .inl rfl
               | 5,ho=>exact .inl rfl
               | 6,ho=>exact .inl rfl
               | 7,ho=>exact .inl rfl
               | 8,ho=>exact .inl rfl
               | 9,ho=>exact .inl rfl
               | 10,ho=>exact .inl rfl
               | 11,ho=>exact .inl rfl
               | 12,ho=>exact .inl rfl
               | 13,ho=>exact .inl rfl
               | 14,ho=>exact .inl rfl
               | 15,ho=>exact .inl rfl
               | 16,ho=>exact .inl rfl
               | 17,ho=>exact .inl rfl
               | 18,ho=>exact .inl rfl
               | 19,ho=>exact absurd rfl hz
               | 20,ho=>obtain rfl:=inj ho;refine .inr ?_;intro a w1 w3 hx yD qq qa qM hf;exact⟨rfl,qD (qL (.tmp 313) ⟨cb,0,none⟩ (qa 313 0 rfl rfl)) ⟨_,rfl,rfl,fun _=>rfl,jj (by decide) hf⟩⟩
               | 21,ho=>obtain rfl:=inj ho;refine .inr ?_;intro a w1 w3 hx yD qq qa qM hf;exact⟨rfl,qD (yX (.tmp 333) cb 0 12 (by decide) (qa 333 20 rfl rfl)) ⟨_,rfl,rfl,fun _=>rfl,jj (by decide) hf⟩⟩
               | 22,ho=>exact absurd rfl hy
               | i+23,ho=>cases ho
              case hla =>
               intro o ho;obtain rfl:=inj ho;intro a w3 hx yD qq qa qM;obtain⟨b,h1,h2,h3,h4⟩:=(qa 331 18 rfl rfl:(Wl.row w6.heap.size (zT ⟨t11,t32,t52⟩)).ok (a.tmps.getD 331 undef) w3);have h5:a.tmps.getD 317 undef=.slice pv D.fs.length cv:=qa 317 4 rfl rfl;have PQ:=PX.out w3 hx;have OW:w3.ownsRow bs 93 3 (.slice pv D.fs.length cv) D.fs.length (D.fs.flatMap zT):=(by have q:=PQ.rows.ow 5;rw[← HV.out];exact q);refine⟨rfl,?_⟩;refine yp w3 rfl (.tmp 317) (.tmp 331) 41 rfl bs 93 ir (.agg #[.string ⟨#[]⟩,.int .i64 0,.int .i64 0]) 3 32 Tryz.underlying41 hir hir0 hir1 hir2 rfl (by decide) (.slice pv D.fs.length cv) D.fs.length (D.fs.flatMap zT) h5 OW ⟨b,0,none⟩ 1 1 (zT ⟨t11,t32,t52⟩) h1 rfl (fun j u hj=>by have q:=h4 j u hj;by_cases e:j=0;(subst e;simpa [Addr.add] using q);simpa [Addr.add,e] using q) (Y7 _) (by have:=LD.out;unfold maxLen;omega) (by have:=LD.out;omega) (by have q1:=OB.out;have q2:w6.drew.heap.size≤w3.heap.size:=hx.size;have q3:=HB0.out;omega) ?_;intro v' w' qB qe hob;obtain⟨pn,cn,hvn⟩:=qS qB;subst hvn;refine⟨_,rfl,fun _=>trivial,pn,cn,?_,qB,by rw[HV.out];exact qe,by rw[HV.out];exact hob⟩
               show(a.put (some 332) _).tmps.getD 332 undef=_
               rw[yj,if_pos ⟨rfl,by rw[yD];exact(show(332:Nat) < 335 from by decide)⟩]
              case hyo =>
               intro o ho;obtain rfl:=inj ho;intro a w1 w3 hx yD qq qa qM hf;obtain⟨pn,cn,h1,qB,qe,hob⟩:=hf;have h2:a.tmps.getD 334 undef=.pointer (some ⟨cb,12,none⟩):=qa 334 21 rfl rfl;have PQ:=PX.out w1 hx;have GB:=PQ.box.grown qe (by rw[HV.out];exact fun e'=>by have q:=((PQ.rows.ow 5).lt cb (by show(vs 5).ownBlock=_;rw[HV.out];exact e'.symm)).1;have:=OB.out;omega);exact⟨rfl,yV (zJ (.tmp 334) (.tmp 332) ⟨cb,12,none⟩ 41 (by decide) pn _ cn _ h2 h1 GB.c12 GB.f12) ⟨undef,rfl,fun h=>absurd h (by decide),pn,cn,w3,rfl,qB,qe,hob⟩⟩
              case hfin =>
               rintro x w1 w9 h1 h2 ⟨pn,cn,we,rfl,qB,qe,hob⟩;have APP:=hid (PcV.app5 (PX.out w1 h1) ⟨t11,t32,t52⟩ (⟨NS32.out,NS52.out,NS11.out⟩) qB qe hob);have BEL:Hid (∀m,m≤cb→m≤bs→m≤w.heap.size→Below m w (we.setCell ⟨cb,12,none⟩ (.slice pn (D.fs.length+1) cn))):=(fun m q1 q2 q3=>yE (qP (EX.out w1 h1) q3) q3 qe (fun g' e'=>Nat.le_trans q2 (((PX.out w1 h1).rows.ow 5).lt g' e').1) q1 _ _);clear h1 h2 qB qe hob;generalize we.setCell ⟨cb,12,none⟩ (.slice pn (D.fs.length+1) cn)=w9 at *;dsimp only[frameT,UO,List.foldl];generalize x 313=q313;generalize x 314=q314;generalize x 315=q315;generalize x 316=q316;generalize x 317=q317;generalize x 318=q318;generalize x 319=q319;generalize x 320=q320;generalize x 321=q321;generalize x 322=q322;generalize x 323=q323;generalize x 324=q324;generalize x 325=q325;generalize x 326=q326;generalize x 327=q327;generalize x 328=q328;generalize x 329=q329;generalize x 330=q330;generalize x 331=q331;generalize x 332=q332;generalize x 333=q333;generalize x 334=q334;clear x;go_simp;go_wp2_with fail;go_ret;exact kV RQ.out (by exact APP.out) (fun m q1 q2 q3 q4=>BEL.out m q1 q3 q4)
theorem Qc(c:Pc.PC)(L:List Tk.T4)(i:Nat):(Pc.fieldT c L i).1.cs=c.cs∧(Pc.fieldT c L i).1.rs=c.rs∧(Pc.fieldT c L i).1.os=c.os∧(Pc.fieldT c L i).1.cr=c.cr∧(Pc.fieldT c L i).1.ls=c.ls∧(Pc.fieldT c L i).1.fs=c.fs:=by
 have key:∀j,(Pc.setField (Pc.setSeen c j) j L).cs=c.cs∧(Pc.setField (Pc.setSeen c j) j L).rs=c.rs∧(Pc.setField (Pc.setSeen c j) j L).os=c.os∧(Pc.setField (Pc.setSeen c j) j L).cr=c.cr∧(Pc.setField (Pc.setSeen c j) j L).ls=c.ls∧(Pc.setField (Pc.setSeen c j) j L).fs=c.fs:=by
  intro j;unfold Pc.setField Pc.setSeen
  split<;>exact⟨rfl,rfl,rfl,rfl,rfl,rfl⟩
 unfold Pc.fieldT
 split
 ·exact⟨rfl,rfl,rfl,rfl,rfl,rfl⟩
 ·split
  ·exact⟨rfl,rfl,rfl,rfl,rfl,rfl⟩
  ·split
   ·exact⟨rfl,rfl,rfl,rfl,rfl,rfl⟩
   ·exact key i
theorem vI(bs cb sb:Nat)(c:Pc.PC)(vs:Fin 6→Value)(D:Six)(L:List Tk.T4)(v:Value)(w:World)(hp:PcV w bs cb sb c vs D)(ht:TkAt w L v)(hk:Pc.kd L 0 1=true)(i:Nat)(hF:Pc.fieldsL.findIdx? (fun s=>decide (s=(Pc.tok L 0).text))=some i) :
 Calls Tryz.prog 40 #[.pointer (some ⟨cb,0,none⟩),.pointer (some ⟨sb,0,none⟩),v] w (K5 w bs cb sb (Pc.declT c L)):=by
 have RQ:Hid (Pc.declT c L=Pc.fieldT c L i):=by
  unfold Hid Pc.declT;rw[if_neg (by rw[hk];decide),hF]
 rw[RQ.out];obtain⟨hi7,hyes,hno⟩:=List.findIdx?_eq_some_iff_getElem.1 hF;have hi7':i < 7:=hi7;have TA:Hid (∀wq,Below w.heap.size w wq→TkAt wq L v):=fun wq hb=>ht.next hb
 have PV:=hid hp;have KA:Hid (Calls Tryz.prog 94 #[v,.int .i64 0,.int .i64 1] w fun e w'=>e=.returned (.bool true)∧w=w'):=(by have q:=zA L v 0 1 w ht;rw[hk] at q;exact q);have hi:0 < L.length:=uD hk;have LL:=hid hi;have hlc:(0:Int) < (L.length:Int):=by omega
 obtain⟨t0,hq0⟩:∃t,L[0]?=some t:=⟨_,List.getElem?_eq_getElem hi⟩;obtain⟨p,cap,hv,g1,g2,g3⟩:=ht;subst hv;clear g1 g2 g3;obtain⟨g,O,rfl,ng1,ng2⟩:=zG (TA.out w (Below.refl _ _)) hq0 hp.box hp.vs hp.sn
 have T0:Hid (∀wq,Below w.heap.size w wq→wq.cell? ⟨g,O+1,none⟩=some (.string (Pc.tok L 0).text)):=by
  intro wq hb;obtain⟨g',O',e',-,q1,-,-⟩:=TkAt.get (TA.out wq hb) hq0;cases e';rw[zw hq0]
  simpa using q1
 have HFN:Hid (∀(j:Nat) (s:ByteArray),j < i→Pc.fieldsL[j]?=some s→((Pc.tok L 0).text.toList==s.toList)=false):=by
  intro j s hji hj;have hjl:=(List.getElem?_eq_some_iff.1 hj);have q:=hno j hji;rw[hjl.2] at q;rw[beq_eq_false_iff_ne];intro e;refine q (decide_eq_true ?_);rw[Lib.toList_data,Lib.toList_data] at e;exact ByteArray.ext (Array.toList_inj.1 e.symm)
 have HFY:Hid (∀(s:ByteArray),Pc.fieldsL[i]?=some s→((Pc.tok L 0).text.toList==s.toList)=true):=by
  intro s hj;have hjl:=(List.getElem?_eq_some_iff.1 hj);have q:=hyes;rw[hjl.2] at q;rw[of_decide_eq_true q,beq_iff_eq]
 obtain⟨tx,htx⟩:∃z,(Pc.tok L 0).text=z:=⟨_,rfl⟩;rw[htx] at T0 HFN HFY;have FLD:Hid (∀wq,Below w.heap.size w wq→Calls Tryz.prog 95 #[.pointer (some ⟨cb,0,none⟩),.pointer (some ⟨sb,0,none⟩),.slice (some ⟨g,O,none⟩) (L.length:Nat) cap,.int .i64 i] wq (K8 wq cb sb vs (Pc.fieldT c L i))):=fun wq hb=>Qr c vs cb sb L _ i hi7' wq (hp.next hb).box hp.vs (hp.next hb).sn hp.ne (TA.out wq hb);have NX:Hid (∀k,zV cb sb k→k < bs):=hp.rows.lt;clear hq0 hF hk hi hp htx hyes hno hi7;go_enter Tryz.func40,Tryz.ntmps40;go_upto_region 4 with (go_at_call 94;refine KA.out.mono ?_;rintro e w' ⟨rfl,rfl⟩);have B1:Hid (Below w.heap.size w (w.alloc (.cells #[.string Pc.wReport,.string Pc.wRelease,.string Pc.wConnect,.string Pc.wSit,.string Pc.wLayover,.string Pc.wGuarantee,.string Pc.wNight] 9))):=ya _ _
 have FC:Hid (∀(j:Nat) (s:ByteArray),Pc.fieldsL[j]?=some s→(w.alloc (.cells #[.string Pc.wReport,.string Pc.wRelease,.string Pc.wConnect,.string Pc.wSit,.string Pc.wLayover,.string Pc.wGuarantee,.string Pc.wNight] 9)).cell? ⟨w.heap.size,j,none⟩=some (.string s)):=by
  intro j s hj
  match j,hj with
  | 0,hj=>(cases hj;simp[go_sem])
  | 1,hj=>(cases hj;simp[go_sem])
  | 2,hj=>(cases hj;simp[go_sem])
  | 3,hj=>(cases hj;simp[go_sem])
  | 4,hj=>(cases hj;simp[go_sem])
  | 5,hj=>(cases hj;simp[go_sem])
  | 6,hj=>(cases hj;simp[go_sem])
  | n+7,hj=>simp[Pc.fieldsL] at hj
 unfold Pc.wReport Pc.wRelease Pc.wConnect Pc.wSit Pc.wLayover Pc.wGuarantee Pc.wNight at B1 FC;generalize w.alloc _=w1 at *;have tc1:=T0.out _ B1.out;go_wp2_with fail
 go_loopw [8] (fun x wr=>∃j:Nat,j≤i∧x=.int .i64 j∧Hid (Below w1.heap.size w1 wr)) (fun x _=>7 - (intOf x).toNat)
 case atStart=>exact⟨0,by omega,rfl,Below.refl _ _⟩
 case round =>
  obtain⟨wp,hwp⟩:∃z,z=wr:=⟨_,rfl⟩;subst hwp;obtain⟨j,hj,rfl,HB⟩:=hrel;have hi0:=LL.out;have hj1:(j:Int) < 7:=by omega
  obtain⟨s,hs⟩:∃s,Pc.fieldsL[j]?=some s:=⟨_,List.getElem?_eq_getElem (show j < 7 from by omega)⟩;have fc:=qb (FC.out j s hs) HB.out;have tc2:=qb tc1 HB.out
  by_cases qN:j < i
  ·have nq:=HFN.out j s qN hs;clear hs;go_upto_region 7 with (fail)
   go_quiet (fail)
   go_wp2
   go_roundw
   case rel=>exact⟨j+1,by omega,by go_num,below_drewN HB.out _⟩
   case measure=>simp[intOf];omega
  obtain rfl:j=i:=by omega
  have nq:=HFY.out s hs;have B2:Hid (Below w.heap.size w wp):=B1.out.trans (HB.out.mono B1.out.size);clear hs HFN HFY FC hj qN;go_upto_region 7 with (fail)
  go_quiet (fail)
  go_wp2_with (go_at_call 95;refine(FLD.out _ (below_drewN B2.out _)).mono ?_;rintro e w3 ⟨rfl,h2,h3⟩;have H2:=hid h2;have H3:=hid h3;clear h2 h3);go_ret;refine⟨rfl,fun q=>?_,fun n n1 n2 n3 n4=>?_⟩
  ·obtain ⟨q1,q2⟩:=H2.out q;obtain⟨r1,r2,r3,r4,r5,r6⟩:=Qc c L j;exact⟨vs,D,(PV.out.next (below_drewN B2.out _)).field q1 q2 H3.out r1 r2 r3 r4 r5 r6⟩
  ·have q:=below_drewN B2.out nq;exact(qP q n4).trans (H3.out.below (Nat.le_trans n4 q.size) (fun k hk=>by rcases hk with rfl|rfl<;>assumption))
theorem Jq(bs cb sb:Nat)(c:Pc.PC)(vs:Fin 6→Value)(D:Six)(L:List Tk.T4)(v:Value)(w:World)(hp:PcV w bs cb sb c vs D)(ht:TkAt w L v)(hV:∀t∈ L,VT t.t)(hs:∀t∈ L,t.t.text.size≤9223372036854775807)(h40:L.length≤400)(hbs:bs≤w.heap.size)(hct:Pc.cnt c≤1000) :
 Calls Tryz.prog 40 #[.pointer (some ⟨cb,0,none⟩),.pointer (some ⟨sb,0,none⟩),v] w (K5 w bs cb sb (Pc.declT c L)):=by
 cases hk:Pc.kd L 0 1 with
 | false=>exact Qs bs cb sb c L v w ht hk
 | true =>
   cases hF:Pc.fieldsL.findIdx? (fun s=>decide (s=(Pc.tok L 0).text)) with
   | some i=>exact vI bs cb sb c vs D L v w hp ht hk i hF
   | none =>
     by_cases h1:(Pc.tok L 0).text=Pc.wConst
     ·exact YE bs cb sb c vs D L v w hp ht hV hs hk hF h1 h40 hbs hct
     ·by_cases h2:(Pc.tok L 0).text=Pc.wLimit
      ·exact YD bs cb sb c vs D L v w hp ht hV hs hk hF h2 h40 hbs hct
      ·by_cases h3:(Pc.tok L 0).text=Pc.wOff
       ·exact Kn bs cb sb c vs D L v w hp ht hV hs hk hF h3 h40 hbs hct
       ·by_cases h4:Pc.scopeT (Pc.tok L 0).text=0
        ·exact YC bs cb sb c vs D L v w hp ht hV hs hk hF h4 h1 h2 h3 h40 hbs hct
        ·exact YB bs cb sb c vs D L v w hp ht hV hs hk hF h4 h40 hbs hct
def PhP(w:World)(B O:Nat)(c:Ch):Prop:=(w.cell? ⟨B,O,none⟩=some (.int .i64 c.a.op)∧w.cell? ⟨B,O+1,none⟩=some (.int .i64 c.a.num)∧w.cell? ⟨B,O+2,none⟩=some (.string c.a.name)∧w.cell? ⟨B,O+3,none⟩=some (.slice c.a.ptr (len c.k) c.a.cap))∧ExAt w c.b c.o c.a c.k
theorem YR{w:World}(L:List Ch)(B O:Nat)(h:∀(i:Nat)(x:Ch),L[i]?=some x→PhP w B (O+i * 4) x):FoAt w (qH L) B O:=by
 induction L generalizing O with
 | nil=>trivial
 | cons c l ih =>
   have h0:=h 0 c rfl;simp only[Nat.zero_mul,Nat.add_zero] at h0;refine⟨h0.1,h0.2.1,h0.2.2,ih (O+4) fun i x hi=>?_⟩;have:=h (i+1) x (by simpa using hi);rw[show O+(i+1) * 4=O+4+i * 4 by omega] at this;exact this
theorem YQ(L:List Ch)(h:∀y∈ L,yS y.a y.k):jV (qH L):=by
 induction L with
 | nil=>trivial
 | cons c l ih=>exact⟨(h c (by simp)).1,(h c (by simp)).2,ih fun y hy=>h y (by simp[hy])⟩
theorem UL{w:World}{L:List Ch}{p:Option Addr}(h:RowV PhP 4 w L p)(hok:∀y∈ L,yS y.a y.k):CrV w (qH L) p:=by
 obtain⟨h0,B,O,h1,h2⟩:=h;refine⟨by rw[qC];exact h0,YQ L hok,B,O,fun q=>h1 (by rintro rfl;exact q rfl),YR L B O h2⟩
theorem vg{α β:Type}(f:α→β)(L:List α):L.map f=L.flatMap (fun x=>[f x]):=by
 induction L with
 | nil=>rfl
 | cons a l ih=>rw[List.map_cons,List.flatMap_cons,ih];rfl
theorem Yg{α β:Type}(L:List α):([]:List β)=L.flatMap (fun _=>[]):=by
 induction L with
 | nil=>rfl
 | cons a l ih=>rw[List.flatMap_cons,← ih];rfl
def kW(c:Pc.PC)(D:Six):Ct:=⟨c.rep,c.rel,c.con,c.sit,c.lay,c.nf,c.nt,c.gua,D.cs,D.rs,D.os,qH D.cr,D.ls,D.fs⟩
theorem QI{w:World}{X:Nat→Prop}{bs:Nat}{vs:Fin 6→Value}{c:Pc.PC}{D:Six}(h:RwF w X bs (qX vs D))(hok:SixOk D)(hb:Pc.NumB c)
 (hl:D.cs.length≤100000∧D.rs.length≤100000∧D.os.length≤100000∧D.cr.length≤100000∧D.ls.length≤100000∧D.fs.length≤100000) :
 ∃p:Cp,vs 0=.slice p.cs D.cs.length p.ccs∧vs 1=.slice p.rs D.rs.length p.crs∧vs 2=.slice p.os D.os.length p.cos∧vs 3=.slice p.cr D.cr.length p.ccr∧vs 4=.slice p.ls D.ls.length p.cls∧vs 5=.slice p.fs D.fs.length p.cfs∧CtV w (kW c D) p:=by
 obtain⟨l0,l1,l2,l3,l4,l5⟩:=hl;obtain⟨p0,k0,v0,r0⟩:=h.row (tr:=fun x=>[km x]) 0 D.cs 5 (fun r=>rfl) rfl rfl rfl (vg _ _) CnP (fun B O r hr hc hx=>⟨hc 0 _ rfl,⟨⟨hc 1 _ rfl,hc 2 _ rfl,hc 3 _ rfl,hc 4 _ rfl⟩,hx _ (List.mem_singleton.2 rfl),(hok.cs r hr).1⟩,(hok.cs r hr).2⟩) (by omega);obtain⟨p1,k1,v1,r1⟩:=h.row (tr:=fun x=>[k7 x]) 1 D.rs 6 (fun r=>rfl) rfl rfl rfl (vg _ _) RuP (fun B O r hr hc hx=>⟨hc 0 _ rfl,hc 1 _ rfl,⟨⟨hc 2 _ rfl,hc 3 _ rfl,hc 4 _ rfl,hc 5 _ rfl⟩,hx _ (List.mem_singleton.2 rfl),(hok.rs r hr).1⟩,(hok.rs r hr).2.1,(hok.rs r hr).2.2⟩) (by omega);obtain⟨p2,k2,v2,r2⟩:=h.row (tr:=fun x=>[kj x]) 2 D.os 5 (fun r=>rfl) rfl rfl rfl (vg _ _) CoP (fun B O r hr hc hx=>⟨hc 0 _ rfl,⟨⟨hc 1 _ rfl,hc 2 _ rfl,hc 3 _ rfl,hc 4 _ rfl⟩,hx _ (List.mem_singleton.2 rfl),(hok.os r hr).1⟩,(hok.os r hr).2⟩) (by omega);obtain⟨p3,k3,v3,r3⟩:=h.row (tr:=fun x=>[x]) 3 D.cr 4 (fun r=>rfl) rfl rfl rfl (by show D.cr=_;rw[← vg (fun x=>x),List.map_id']) PhP (fun B O r hr hc hx=>⟨⟨hc 0 _ rfl,hc 1 _ rfl,hc 2 _ rfl,hc 3 _ rfl⟩,hx _ (List.mem_singleton.2 rfl)⟩) (by omega);obtain⟨p4,k4,v4,r4⟩:=h.row (tr:=fun _=>[]) 4 D.ls 4 (fun r=>rfl) rfl rfl rfl (Yg _) LiP (fun B O r hr hc hx=>⟨hc 0 _ rfl,hc 1 _ rfl,hc 2 _ rfl,hc 3 _ rfl,hok.ls r hr⟩) (by omega);obtain⟨p5,k5,v5,r5⟩:=h.row (tr:=fun _=>[]) 5 D.fs 3 (fun r=>rfl) rfl rfl rfl (Yg _) OfP (fun B O r hr hc hx=>⟨hc 0 _ rfl,hc 1 _ rfl,hc 2 _ rfl,hok.fs r hr⟩) (by omega)
 have cap:D.cs.length≤k0:=by
  rcases(h.ow 0).2 with ⟨hv,h0⟩|⟨g,cap,cur,hv,hb,hg,hnc,q⟩
  ·have e:D.cs.length=0:=h0;omega
  ·have e:=v0.symm.trans hv;injection e with e1 e2 e3
   rw[e3];exact hnc
 exact⟨⟨p0,p1,p2,p3,p4,p5,k0,k1,k2,k3,k4,k5⟩,v0,v1,v2,v3,v4,v5,⟨r0,r1,r2,UL r3 hok.cr,r4,r5,hb,cap⟩⟩
end Go.Proofs.YtcejjdmnlejbaaaGreatDoor
