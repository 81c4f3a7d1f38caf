import Derived.Test.YtcejjdmnlejbaaaGreatDoorVDa
namespace Go.Proofs.YtcejjdmnlejbaaaGreatDoor
open Option.some(inj)
open Lib(hid)
set_option linter.unusedVariables false
set_option linter.unusedSimpArgs false
open Go.ChangeShapes Go.WideShapes Go.ChangeAt Go.RowKit
open Go.Deep (BT)
set_option maxHeartbeats 16000000
set_option maxRecDepth 100000
def lmT:List (Nat× Nat):=[(252,0),(253,1),(254,2),(255,3),(256,4),(257,5),(258,6),(259,7),(260,8),(261,9),(262,10),(263,11),(264,12),(265,13),(266,14),(267,15),(268,16),(269,17),(270,18),(271,19),(272,20),(273,21),(274,22),(275,23),(276,24),(277,25)]
def lmW(cb g O Ll cap nn cv B0:Nat)(pv:Option Addr)(t11:ByteArray)(t31:ByteArray)(t42:Int)(t62:Int)(i:Nat):Wl :=
 match i with
 | 0=>.eq (.pointer (some ⟨cb,0,none⟩))
 | 1=>.eq (.pointer (some ⟨cb,0,none⟩))
 | 2=>.eq (.pointer (some ⟨cb,0,none⟩))
 | 3=>.eq (.pointer (some ⟨cb,11,none⟩))
 | 4=>.eq (.slice pv nn cv)
 | 5=>.eq (.slice (some ⟨g,O,none⟩) Ll cap)
 | 6=>.eq (.pointer (some ⟨g,O+1 * 4,none⟩))
 | 7=>.eq (.pointer (some ⟨g,O+1 * 4+1,none⟩))
 | 8=>.eq (.string t11)
 | 9=>.eq (.slice (some ⟨g,O,none⟩) Ll cap)
 | 10=>.eq (.pointer (some ⟨g,O+3 * 4,none⟩))
 | 11=>.eq (.pointer (some ⟨g,O+3 * 4+1,none⟩))
 | 12=>.eq (.string t31)
 | 13=>.eq (.slice (some ⟨g,O,none⟩) Ll cap)
 | 14=>.eq (.pointer (some ⟨g,O+4 * 4,none⟩))
 | 15=>.eq (.pointer (some ⟨g,O+4 * 4+2,none⟩))
 | 16=>.eq (.int .i64 t42)
 | 17=>.eq (.slice (some ⟨g,O,none⟩) Ll cap)
 | 18=>.eq (.pointer (some ⟨g,O+6 * 4,none⟩))
 | 19=>.eq (.pointer (some ⟨g,O+6 * 4+2,none⟩))
 | 20=>.eq (.int .i64 t62)
 | 21=>.eq (.agg #[.string t11,.string t31,.int .i64 t42,.int .i64 t62])
 | 22=>.row B0 [.string t11,.string t31,.int .i64 t42,.int .i64 t62]
 | 23=>.any
 | 24=>.eq (.pointer (some ⟨cb,0,none⟩))
 | 25=>.eq (.pointer (some ⟨cb,11,none⟩))
 | _=>.any
def lmG(cb g O Ll cap nn cv B0:Nat)(pv:Option Addr)(t11:ByteArray)(t31:ByteArray)(t42:Int)(t62:Int)(i:Nat)(v:Value)(w:World):Prop:=(lmW cb g O Ll cap nn cv B0 pv t11 t31 t42 t62 i).ok v w
theorem YD(bs cb sb:Nat)(c:Pc.PC)(vs:Fin 6→Value)(D:Six)(L:List Tk.T4)(v:Value)(w:World)(hp:PcV w bs cb sb c vs D)(ht:TkAt w L v)(hV:∀t∈ L,VT t.t)(hs:∀t∈ L,t.t.text.size≤9223372036854775807)(hk:Pc.kd L 0 1=true)(hF:Pc.fieldsL.findIdx? (fun s=>decide (s=(Pc.tok L 0).text))=none)
 (hw:(Pc.tok L 0).text=Pc.wLimit) (h40:L.length≤400) (hbs:bs≤w.heap.size) (hct:Pc.cnt c≤1000) :
 Calls Tryz.prog 40 #[.pointer (some ⟨cb,0,none⟩),.pointer (some ⟨sb,0,none⟩),v] w (K5 w bs cb sb (Pc.declT c L)):=by
 have REST:=hid (jf (c:=c) hk hF);generalize Pc.declT c L=R at *;have TA:Hid (∀wq,Below w.heap.size w wq→TkAt wq L v):=fun wq hb=>ht.next hb
 have PV:=hid hp;have HVV:=hid hV;have HS:=hid hs;have KA:Hid (Calls Tryz.prog 94 #[v,.int .i64 0,.int .i64 1] w fun e w'=>e=.returned (.bool true)∧w=w'):=kT hk ht;have hi:0 < L.length:=uD hk;have LL:=hid hi;have hlc:(0:Int) < (L.length:Int):=by omega
 obtain⟨t0,hq0⟩:∃t,L[0]?=some t:=⟨_,List.getElem?_eq_getElem hi⟩;have LB:Hid (cb < bs∧bs≤w.heap.size):=⟨hp.rows.lt cb (Or.inl rfl),hbs⟩;have LC:=hid hct;have H40:=hid h40;obtain⟨p,cap,hv,g1,g2,g3⟩:=ht;subst hv;have HCP:=hid g1;clear g1 g2 g3;obtain⟨g,O,rfl,ng1,ng2⟩:=zG (TA.out w (Below.refl _ _)) hq0 hp.box hp.vs hp.sn
 have T0:Hid (∀wq,Below w.heap.size w wq→wq.cell? ⟨g,O+1,none⟩=some (.string (Pc.tok L 0).text)):=fun wq hb=>by
  have q:=(Qh (TA.out wq hb) hi).1;rw[show O+0 * 4+1=O+1 by omega] at q;exact q
 have HFN:Hid (∀(j:Nat) (s:ByteArray),Pc.fieldsL[j]?=some s→((Pc.tok L 0).text.toList==s.toList)=false):=by
  intro j s hj;have q:=List.findIdx?_eq_none_iff.1 hF s (List.mem_of_getElem? hj);rw[beq_eq_false_iff_ne];intro e;refine(of_decide_eq_false q) ?_;rw[Lib.toList_data,Lib.toList_data] at e;exact ByteArray.ext (Array.toList_inj.1 e.symm)
 obtain⟨tx,htx⟩:∃z,(Pc.tok L 0).text=z:=⟨_,rfl⟩;rw[htx] at T0 HFN REST hw;obtain⟨sc,hsc⟩:∃z,Pc.scopeT tx=z:=⟨_,rfl⟩;have SC:Hid (∀wq,Calls Tryz.prog 99 #[.string tx] wq fun e w'=>e=.returned (.int .i64 sc)∧wq=w'):=fun wq=>(by have q:=jc tx wq;rw[hsc] at q;exact q);clear hq0 hF hk hi hp hs hV htx;have hz:sc=0:=by rw[← hsc,hw];decide
 have HC:Hid (tx.toList=[108,105,109,105,116]):=xG hw;have HW:=hid hw;clear hw;subst hz;clear h40 hbs hct;go_enter Tryz.func40,Tryz.ntmps40;go_upto_region 4 with (go_at_call 94;refine KA.out.mono ?_;rintro e w' ⟨rfl,rfl⟩);have B1:Hid (Below w.heap.size w (w.alloc (.cells #[.string Pc.wReport,.string Pc.wRelease,.string Pc.wConnect,.string Pc.wSit,.string Pc.wLayover,.string Pc.wGuarantee,.string Pc.wNight] 9))):=ya _ _
 have FC:Hid (∀(j:Nat) (s:ByteArray),Pc.fieldsL[j]?=some s→(w.alloc (.cells #[.string Pc.wReport,.string Pc.wRelease,.string Pc.wConnect,.string Pc.wSit,.string Pc.wLayover,.string Pc.wGuarantee,.string Pc.wNight] 9)).cell? ⟨w.heap.size,j,none⟩=some (.string s)):=by
  intro j s hj
  match j,hj with
  | 0,hj=>(cases hj;simp[go_sem])
  | 1,hj=>(cases hj;simp[go_sem])
  | 2,hj=>(cases hj;simp[go_sem])
  | 3,hj=>(cases hj;simp[go_sem])
  | 4,hj=>(cases hj;simp[go_sem])
  | 5,hj=>(cases hj;simp[go_sem])
  | 6,hj=>(cases hj;simp[go_sem])
  | n+7,hj=>simp[Pc.fieldsL] at hj
 unfold Pc.wReport Pc.wRelease Pc.wConnect Pc.wSit Pc.wLayover Pc.wGuarantee Pc.wNight at B1 FC;generalize w.alloc _=w1 at *;have tc1:=T0.out _ B1.out;go_wp2_with fail
 go_loopw [8] (fun i wr=>∃j:Nat,j≤7∧i=.int .i64 j∧Hid (Below w1.heap.size w1 wr)) (fun i _=>7 - (intOf i).toNat)
 case atStart=>exact⟨0,by omega,rfl,Below.refl _ _⟩
 case round =>
  obtain⟨wp,hwp⟩:∃z,z=wr:=⟨_,rfl⟩;subst hwp;obtain⟨j,hj,rfl,HB⟩:=hrel;have hi0:=LL.out
  by_cases qN:j < 7
  ·have hj1:(j:Int) < 7:=by omega
   obtain⟨s,hs⟩:∃s,Pc.fieldsL[j]?=some s:=⟨_,List.getElem?_eq_getElem (show j < 7 from qN)⟩;have fc:=qb (FC.out j s hs) HB.out;have tc2:=qb tc1 HB.out;have nq:=HFN.out j s hs;clear hs;go_upto_region 7 with (fail)
   go_quiet (fail)
   go_wp2
   go_roundw
   case rel=>exact⟨j+1,by omega,by go_num,below_drewN HB.out _⟩
   case measure=>simp[intOf];omega
  have hj1:¬(j:Int) < 7:=by omega
  clear FC HFN qN hj;have B2:Hid (Below w.heap.size w wp):=B1.out.trans (HB.out.mono B1.out.size);have tc2:=T0.out _ B2.out;clear tc1 B1 HB;have hc:=HC.out
  by_cases h0:L.length=8
  case neg =>
   have N0:((L.length:Int)==8)=false:=(by rw[beq_eq_false_iff_ne];omega);have HL:=hid h0;clear h0;have RQ:Hid (R=(c,1)):=(by unfold Hid;rw[REST.out];unfold restT;simp[HW.out,HL.out,yd]);go_wp2_with (first|(go_at_call 99;refine(SC.out _).mono ?_;rintro e w' ⟨rfl,rfl⟩));go_ret;exact qY RQ.out (by decide) (by exact B2.out)
  have N0:((L.length:Int)==8)=true:=(by rw[beq_iff_eq];omega);have HL:=hid h0;clear h0;cases h1:Pc.nmd L 1 with
  | false =>
    have RQ:Hid (R=(c,1)):=(by unfold Hid;rw[REST.out];unfold restT;simp[HW.out,HL.out,h1,yd]);go_wp2_with (first|(go_at_call 96;refine(zM HS.out h1 (TA.out _ (by exact B2.out))).mono ?_;rintro e w2 ⟨rfl,hb2⟩;have B3:=hid (B2.out.trans (hb2.mono B2.out.size));have tc3:=T0.out _ B3.out;clear hb2 tc2 h1)|(go_at_call 99;refine(SC.out _).mono ?_;rintro e w' ⟨rfl,rfl⟩));go_ret;exact qY RQ.out (by decide) (by exact B3.out)
  | true =>
    cases h2:Pc.isW L 2 Pc.wIs with
    | false =>
      have RQ:Hid (R=(c,1)):=(by unfold Hid;rw[REST.out];unfold restT;simp[HW.out,HL.out,h1,h2,yd]);go_wp2_with (first|(go_at_call 96;refine(zM HS.out h1 (TA.out _ (by exact B2.out))).mono ?_;rintro e w2 ⟨rfl,hb2⟩;have B3:=hid (B2.out.trans (hb2.mono B2.out.size));have tc3:=T0.out _ B3.out;clear hb2 tc2 h1)|(go_at_call 97;refine(yU h2 (TA.out _ (by exact B3.out))).mono ?_;rintro e w' ⟨rfl,rfl⟩;clear h2)|(go_at_call 99;refine(SC.out _).mono ?_;rintro e w' ⟨rfl,rfl⟩));go_ret;exact qY RQ.out (by decide) (by exact B3.out)
    | true =>
      cases h3:Pc.kd L 3 1 with
      | false =>
        have RQ:Hid (R=(c,1)):=(by unfold Hid;rw[REST.out];unfold restT;simp[HW.out,HL.out,h1,h2,h3,yd]);go_wp2_with (first|(go_at_call 96;refine(zM HS.out h1 (TA.out _ (by exact B2.out))).mono ?_;rintro e w2 ⟨rfl,hb2⟩;have B3:=hid (B2.out.trans (hb2.mono B2.out.size));have tc3:=T0.out _ B3.out;clear hb2 tc2 h1)|(go_at_call 97;refine(yU h2 (TA.out _ (by exact B3.out))).mono ?_;rintro e w' ⟨rfl,rfl⟩;clear h2)|(go_at_call 94;refine(kT h3 (TA.out _ (by exact B3.out))).mono ?_;rintro e w' ⟨rfl,rfl⟩;clear h3)|(go_at_call 99;refine(SC.out _).mono ?_;rintro e w' ⟨rfl,rfl⟩));go_ret;exact qY RQ.out (by decide) (by exact B3.out)
      | true =>
        cases h4:Pc.isW L 5 Pc.wIn with
        | false =>
          have RQ:Hid (R=(c,1)):=(by unfold Hid;rw[REST.out];unfold restT;simp[HW.out,HL.out,h1,h2,h3,h4,yd]);go_wp2_with (first|(go_at_call 96;refine(zM HS.out h1 (TA.out _ (by exact B2.out))).mono ?_;rintro e w2 ⟨rfl,hb2⟩;have B3:=hid (B2.out.trans (hb2.mono B2.out.size));have tc3:=T0.out _ B3.out;clear hb2 tc2 h1)|(go_at_call 97;refine(yU h2 (TA.out _ (by exact B3.out))).mono ?_;rintro e w' ⟨rfl,rfl⟩;clear h2)|(go_at_call 94;refine(kT h3 (TA.out _ (by exact B3.out))).mono ?_;rintro e w' ⟨rfl,rfl⟩;clear h3)|(go_at_call 97;refine(yU h4 (TA.out _ (by exact B3.out))).mono ?_;rintro e w' ⟨rfl,rfl⟩;clear h4)|(go_at_call 99;refine(SC.out _).mono ?_;rintro e w' ⟨rfl,rfl⟩));go_ret;exact qY RQ.out (by decide) (by exact B3.out)
        | true =>
          cases h5:Pc.kd L 6 2 with
          | false =>
            have RQ:Hid (R=(c,1)):=(by unfold Hid;rw[REST.out];unfold restT;simp[HW.out,HL.out,h1,h2,h3,h4,h5,yd]);go_wp2_with (first|(go_at_call 96;refine(zM HS.out h1 (TA.out _ (by exact B2.out))).mono ?_;rintro e w2 ⟨rfl,hb2⟩;have B3:=hid (B2.out.trans (hb2.mono B2.out.size));have tc3:=T0.out _ B3.out;clear hb2 tc2 h1)|(go_at_call 97;refine(yU h2 (TA.out _ (by exact B3.out))).mono ?_;rintro e w' ⟨rfl,rfl⟩;clear h2)|(go_at_call 94;refine(kT h3 (TA.out _ (by exact B3.out))).mono ?_;rintro e w' ⟨rfl,rfl⟩;clear h3)|(go_at_call 97;refine(yU h4 (TA.out _ (by exact B3.out))).mono ?_;rintro e w' ⟨rfl,rfl⟩;clear h4)|(go_at_call 94;refine(kT h5 (TA.out _ (by exact B3.out))).mono ?_;rintro e w' ⟨rfl,rfl⟩;clear h5)|(go_at_call 99;refine(SC.out _).mono ?_;rintro e w' ⟨rfl,rfl⟩));go_ret;exact qY RQ.out (by decide) (by exact B3.out)
          | true =>
            cases h6:Pc.isW L 7 Pc.wDays with
            | false =>
              have RQ:Hid (R=(c,1)):=(by unfold Hid;rw[REST.out];unfold restT;simp[HW.out,HL.out,h1,h2,h3,h4,h5,h6,yd]);go_wp2_with (first|(go_at_call 96;refine(zM HS.out h1 (TA.out _ (by exact B2.out))).mono ?_;rintro e w2 ⟨rfl,hb2⟩;have B3:=hid (B2.out.trans (hb2.mono B2.out.size));have tc3:=T0.out _ B3.out;clear hb2 tc2 h1)|(go_at_call 97;refine(yU h2 (TA.out _ (by exact B3.out))).mono ?_;rintro e w' ⟨rfl,rfl⟩;clear h2)|(go_at_call 94;refine(kT h3 (TA.out _ (by exact B3.out))).mono ?_;rintro e w' ⟨rfl,rfl⟩;clear h3)|(go_at_call 97;refine(yU h4 (TA.out _ (by exact B3.out))).mono ?_;rintro e w' ⟨rfl,rfl⟩;clear h4)|(go_at_call 94;refine(kT h5 (TA.out _ (by exact B3.out))).mono ?_;rintro e w' ⟨rfl,rfl⟩;clear h5)|(go_at_call 97;refine(yU h6 (TA.out _ (by exact B3.out))).mono ?_;rintro e w' ⟨rfl,rfl⟩;clear h6)|(go_at_call 99;refine(SC.out _).mono ?_;rintro e w' ⟨rfl,rfl⟩));go_ret;exact qY RQ.out (by decide) (by exact B3.out)
            | true =>
              obtain m|⟨q,r,hq,m⟩:yn (Pc.tok L 3).text=0∨∃(q r:Int),((q=2∧r=1)∨(q=3∧r=2))∧yn (Pc.tok L 3).text=r:=by
               rcases vV (Pc.tok L 3).text with m|m|m
               ·exact .inl m
               ·exact .inr ⟨2,1,.inl ⟨rfl,rfl⟩,m⟩
               ·exact .inr ⟨3,2,.inr ⟨rfl,rfl⟩,m⟩
              ·
               have RQ:Hid (R=(c,1)):=(by unfold Hid;rw[REST.out];unfold restT;simp[HW.out,HL.out,h1,h2,h3,h4,h5,h6,m,yd]);have ix3:(3:Int) < (L.length:Int):=(by have:=HL.out;omega);have TK31:=hid (fun wq hb=>(Qh (TA.out wq hb) (show 3 < L.length by have:=HL.out;omega)).1);go_upto_region 31 with (first|(go_at_call 96;refine(zM HS.out h1 (TA.out _ (by exact B2.out))).mono ?_;rintro e w2 ⟨rfl,hb2⟩;have B3:=hid (B2.out.trans (hb2.mono B2.out.size));have tc3:=T0.out _ B3.out;clear hb2 tc2 h1)|(go_at_call 97;refine(yU h2 (TA.out _ (by exact B3.out))).mono ?_;rintro e w' ⟨rfl,rfl⟩;clear h2)|(go_at_call 94;refine(kT h3 (TA.out _ (by exact B3.out))).mono ?_;rintro e w' ⟨rfl,rfl⟩;clear h3)|(go_at_call 97;refine(yU h4 (TA.out _ (by exact B3.out))).mono ?_;rintro e w' ⟨rfl,rfl⟩;clear h4)|(go_at_call 94;refine(kT h5 (TA.out _ (by exact B3.out))).mono ?_;rintro e w' ⟨rfl,rfl⟩;clear h5)|(go_at_call 97;refine(yU h6 (TA.out _ (by exact B3.out))).mono ?_;rintro e w' ⟨rfl,rfl⟩;clear h6)|(go_at_call 99;refine(SC.out _).mono ?_;rintro e w' ⟨rfl,rfl⟩));have k31:=TK31.out _ B3.out;go_wp2_with (go_at_call 55;refine(msC m _).mono ?_;rintro e w' ⟨rfl,rfl⟩;clear m);go_ret;exact qY RQ.out (by decide) B3.out
              ·
               cases k:Pc.kd L 4 q with
               | false =>
                 rcases hq with ⟨rfl,rfl⟩|⟨rfl,rfl⟩
                 all_goals
                  have RQ:Hid (R=(c,1)):=(by unfold Hid;rw[REST.out];unfold restT;simp[HW.out,HL.out,h1,h2,h3,h4,h5,h6,m,k,yd]);have ix3:(3:Int) < (L.length:Int):=(by have:=HL.out;omega);have TK31:=hid (fun wq hb=>(Qh (TA.out wq hb) (show 3 < L.length by have:=HL.out;omega)).1);go_upto_region 31 with (first|(go_at_call 96;refine(zM HS.out h1 (TA.out _ (by exact B2.out))).mono ?_;rintro e w2 ⟨rfl,hb2⟩;have B3:=hid (B2.out.trans (hb2.mono B2.out.size));have tc3:=T0.out _ B3.out;clear hb2 tc2 h1)|(go_at_call 97;refine(yU h2 (TA.out _ (by exact B3.out))).mono ?_;rintro e w' ⟨rfl,rfl⟩;clear h2)|(go_at_call 94;refine(kT h3 (TA.out _ (by exact B3.out))).mono ?_;rintro e w' ⟨rfl,rfl⟩;clear h3)|(go_at_call 97;refine(yU h4 (TA.out _ (by exact B3.out))).mono ?_;rintro e w' ⟨rfl,rfl⟩;clear h4)|(go_at_call 94;refine(kT h5 (TA.out _ (by exact B3.out))).mono ?_;rintro e w' ⟨rfl,rfl⟩;clear h5)|(go_at_call 97;refine(yU h6 (TA.out _ (by exact B3.out))).mono ?_;rintro e w' ⟨rfl,rfl⟩;clear h6)|(go_at_call 99;refine(SC.out _).mono ?_;rintro e w' ⟨rfl,rfl⟩));have k31:=TK31.out _ B3.out;go_wp2_with (first|(go_at_call 55;refine(msC m _).mono ?_;rintro e w' ⟨rfl,rfl⟩;clear m)|(go_at_call 94;refine(kT k (TA.out _ (by exact B3.out))).mono ?_;rintro e w' ⟨rfl,rfl⟩;clear k));go_ret;exact qY RQ.out (by decide) B3.out
               | true =>
                 rcases hq with ⟨rfl,rfl⟩|⟨rfl,rfl⟩
                 all_goals
                  have RQ:Hid (R=({ c with ls:=c.ls++[⟨(Pc.tok L 1).text,(Pc.tok L 3).text,(Pc.tok L 4).num,(Pc.tok L 6).num⟩] },0)):=(by unfold Hid;rw[REST.out];unfold restT;simp[HW.out,HL.out,h1,h2,h3,h4,h5,h6,m,k,yd]);have ix1:(1:Int) < (L.length:Int):=(by have:=HL.out;omega);have IX1:Hid (1 < L.length):=(by have:=HL.out;unfold Hid;omega);have ix3:(3:Int) < (L.length:Int):=(by have:=HL.out;omega);have IX3:Hid (3 < L.length):=(by have:=HL.out;unfold Hid;omega);have ix4:(4:Int) < (L.length:Int):=(by have:=HL.out;omega);have IX4:Hid (4 < L.length):=(by have:=HL.out;unfold Hid;omega);have ix6:(6:Int) < (L.length:Int):=(by have:=HL.out;omega);have IX6:Hid (6 < L.length):=(by have:=HL.out;unfold Hid;omega);have TK11:Hid (∀wq,Below w.heap.size w wq→wq.cell? ⟨g,O+1 * 4+1,none⟩=some (.string (Pc.tok L 1).text)):=fun wq hb=>(Qh (TA.out wq hb) IX1.out).1;have NS11:Hid ((Pc.tok L 1).text.size≤9223372036854775807):=xF HS.out 1;obtain⟨t11,ht11⟩:∃z,(Pc.tok L 1).text=z:=⟨_,rfl⟩;rw[ht11] at TK11 NS11 RQ;have TK31:Hid (∀wq,Below w.heap.size w wq→wq.cell? ⟨g,O+3 * 4+1,none⟩=some (.string (Pc.tok L 3).text)):=fun wq hb=>(Qh (TA.out wq hb) IX3.out).1;have NS31:Hid ((Pc.tok L 3).text.size≤9223372036854775807):=xF HS.out 3;obtain⟨t31,ht31⟩:∃z,(Pc.tok L 3).text=z:=⟨_,rfl⟩;rw[ht31] at TK31 NS31 RQ;have TK42:Hid (∀wq,Below w.heap.size w wq→wq.cell? ⟨g,O+4 * 4+2,none⟩=some (.int .i64 (Pc.tok L 4).num)):=fun wq hb=>(Qh (TA.out wq hb) IX4.out).2;have NS42:Hid (Bd (Pc.tok L 4).num):=tok_bd HVV.out 4;obtain⟨t42,ht42⟩:∃z,(Pc.tok L 4).num=z:=⟨_,rfl⟩;rw[ht42] at TK42 NS42 RQ;have TK62:Hid (∀wq,Below w.heap.size w wq→wq.cell? ⟨g,O+6 * 4+2,none⟩=some (.int .i64 (Pc.tok L 6).num)):=fun wq hb=>(Qh (TA.out wq hb) IX6.out).2;have NS62:Hid (Bd (Pc.tok L 6).num):=tok_bd HVV.out 6;obtain⟨t62,ht62⟩:∃z,(Pc.tok L 6).num=z:=⟨_,rfl⟩;rw[ht62] at TK62 NS62 RQ;have LD:Hid (D.ls.length≤1000):=(by have q:=PV.out.len;have:=LC.out;unfold Hid;omega);rw[ht31] at m;go_upto_region 31 with (first|(go_at_call 96;refine(zM HS.out h1 (TA.out _ (by exact B2.out))).mono ?_;rintro e w2 ⟨rfl,hb2⟩;have B3:=hid (B2.out.trans (hb2.mono B2.out.size));have tc3:=T0.out _ B3.out;clear hb2 tc2 h1)|(go_at_call 97;refine(yU h2 (TA.out _ (by exact B3.out))).mono ?_;rintro e w' ⟨rfl,rfl⟩;clear h2)|(go_at_call 94;refine(kT h3 (TA.out _ (by exact B3.out))).mono ?_;rintro e w' ⟨rfl,rfl⟩;clear h3)|(go_at_call 97;refine(yU h4 (TA.out _ (by exact B3.out))).mono ?_;rintro e w' ⟨rfl,rfl⟩;clear h4)|(go_at_call 94;refine(kT h5 (TA.out _ (by exact B3.out))).mono ?_;rintro e w' ⟨rfl,rfl⟩;clear h5)|(go_at_call 97;refine(yU h6 (TA.out _ (by exact B3.out))).mono ?_;rintro e w' ⟨rfl,rfl⟩;clear h6)|(go_at_call 99;refine(SC.out _).mono ?_;rintro e w' ⟨rfl,rfl⟩));have k31:=TK31.out _ B3.out;go_upto_region 34 with (first|(go_at_call 55;refine(msC m _).mono ?_;rintro e w' ⟨rfl,rfl⟩;clear m)|(go_at_call 94;refine(kT k (TA.out _ (by exact B3.out))).mono ?_;rintro e w' ⟨rfl,rfl⟩;clear k));clear k31;obtain⟨w6,hw6⟩:∃z,z=w2:=⟨_,rfl⟩;subst hw6;have B6:=B3;obtain⟨ir,hir,hir0,hir1,hir2⟩:=info_parts Tryz.infoLiP;have P6:=hid (PV.out.next B6.out);obtain⟨pv,cv,hv⟩:∃pv cv,vs 4=.slice pv D.ls.length cv:=qS (P6.out.rows.ow 4);have HV:=hid hv;clear hv;have EX:Hid (∀wq,Ext w6.drew wq→Below w.heap.size w wq):=fun wq hq=>(B6.out.drew).trans (Below.mono hq (by have:=B6.out.size;simpa using this));have PX:Hid (∀wq,Ext w6.drew wq→PcV wq bs cb sb c vs D):=fun wq hq=>PV.out.next (EX.out wq hq)
                  have EXN:Hid (∀wq,Ext w6.drew wq→Below w6.heap.size w6 wq):=fun wq hq=>((Below.refl _ _).drew).trans (Below.mono hq (by simp));have HB0:Hid (w6.heap.size≤w6.drew.heap.size):=(by unfold Hid;simp);have OB:Hid (bs≤w6.heap.size∧cb < bs):=⟨Nat.le_trans LB.out.2 B6.out.size,LB.out.1⟩;have CB:Hid (∀wq,Ext w6.drew wq→wq.cell? ⟨cb,11,none⟩=some (.slice pv D.ls.length cv)):=fun wq hq=>by rw[← HV.out];exact(PX.out wq hq).box.c11
                  have TC11:Hid (∀wq,Ext w6.drew wq→wq.cell? ⟨g,O+1 * 4+1,none⟩=some (.string t11)):=fun wq hq=>TK11.out wq (EX.out wq hq);have TC31:Hid (∀wq,Ext w6.drew wq→wq.cell? ⟨g,O+3 * 4+1,none⟩=some (.string t31)):=fun wq hq=>TK31.out wq (EX.out wq hq);have TC42:Hid (∀wq,Ext w6.drew wq→wq.cell? ⟨g,O+4 * 4+2,none⟩=some (.int .i64 t42)):=fun wq hq=>TK42.out wq (EX.out wq hq);have TC62:Hid (∀wq,Ext w6.drew wq→wq.cell? ⟨g,O+6 * 4+2,none⟩=some (.int .i64 t62)):=fun wq hq=>TK62.out wq (EX.out wq hq);refine yN lmT (lmG cb g O L.length cap D.ls.length cv w6.heap.size pv t11 t31 t42 t62) 23 26 (fun x w1 w'=>∃pn cn,x 275=.slice pn (D.ls.length+1) cn∧w'.ownsRow bs 91 4 (.slice pn (D.ls.length+1) cn) (D.ls.length+1) (D.ls.flatMap zU++zU ⟨t11,t31,t42,t62⟩)∧w1.grownBy w' (vs 4).ownBlock∧((Value.slice pn (D.ls.length+1) cn).ownBlock=(vs 4).ownBlock∨(Value.slice pn (D.ls.length+1) cn).ownBlock=some w1.heap.size)) (fun x w1 w'=>∃pn cn we,w'=we.setCell ⟨cb,11,none⟩ (.slice pn (D.ls.length+1) cn)∧we.ownsRow bs 91 4 (.slice pn (D.ls.length+1) cn) (D.ls.length+1) (D.ls.flatMap zU++zU ⟨t11,t31,t42,t62⟩)∧w1.grownBy we (vs 4).ownBlock∧((Value.slice pn (D.ls.length+1) cn).ownBlock=(vs 4).ownBlock∨(Value.slice pn (D.ls.length+1) cn).ownBlock=some w1.heap.size)) (by kernel_rfl) (by kernel_rfl) (fun i v w w' h he=>Wl.ext h he) (fun i=>decide (i≠0∧i≠24∧i≠25∧i < 23)) (by kernel_rfl) (by kernel_rfl) (by decide) ?hst ?hpu ?hla ?hyo ?hfin
                  case hst =>
                   intro i o ho hz hy
                   match i,ho with
                   | 0,ho=>exact qI ho fun a w3 hx qq qa=>⟨rfl,_,run_move (.tmp 0) (.pointer (some ⟨cb,0,none⟩)) (qq 0 rfl),rfl⟩
                   | 1,ho=>exact qI ho fun a w3 hx qq qa=>⟨rfl,_,run_move (.tmp 0) (.pointer (some ⟨cb,0,none⟩)) (qq 0 rfl),rfl⟩
                   | 2,ho=>exact qI ho fun a w3 hx qq qa=>⟨rfl,_,qL (.tmp 253) ⟨cb,0,none⟩ (qa 253 1 rfl rfl),rfl⟩
                   | 3,ho=>exact qI ho fun a w3 hx qq qa=>⟨rfl,_,yX (.tmp 254) cb 0 11 (by decide) (qa 254 2 rfl rfl),rfl⟩
                   | 4,ho=>exact qI ho fun a w3 hx qq qa=>⟨rfl,_,ye (.tmp 255) ⟨cb,11,none⟩ 40 (by decide) _ (qa 255 3 rfl rfl) (CB.out w3 hx),rfl⟩
                   | 5,ho=>exact qI ho fun a w3 hx qq qa=>⟨rfl,_,run_move (.tmp 2) (.slice (some ⟨g,O,none⟩) L.length cap) (qq 2 rfl),rfl⟩
                   | 6,ho=>exact qI ho fun a w3 hx qq qa=>⟨rfl,_,yI (.tmp 257) g O L.length cap 1 rfl IX1.out (qa 257 5 rfl rfl),rfl⟩
                   | 7,ho=>exact qI ho fun a w3 hx qq qa=>⟨rfl,_,yA (.tmp 258) g (O+1 * 4) 1 (by decide) (qa 258 6 rfl rfl),rfl⟩
                   | 8,ho=>exact qI ho fun a w3 hx qq qa=>⟨rfl,_,ye (.tmp 259) ⟨g,O+1 * 4+1,none⟩ 9 (by decide) (.string t11) (qa 259 7 rfl rfl) (TC11.out w3 hx),rfl⟩
                   | 9,ho=>exact qI ho fun a w3 hx qq qa=>⟨rfl,_,run_move (.tmp 2) (.slice (some ⟨g,O,none⟩) L.length cap) (qq 2 rfl),rfl⟩
                   | 10,ho=>exact qI ho fun a w3 hx qq qa=>⟨rfl,_,yI (.tmp 261) g O L.length cap 3 rfl IX3.out (qa 261 9 rfl rfl),rfl⟩
                   | 11,ho=>exact qI ho fun a w3 hx qq qa=>⟨rfl,_,yA (.tmp 262) g (O+3 * 4) 1 (by decide) (qa 262 10 rfl rfl),rfl⟩
                   | 12,ho=>exact qI ho fun a w3 hx qq qa=>⟨rfl,_,ye (.tmp 263) ⟨g,O+3 * 4+1,none⟩ 9 (by decide) (.string t31) (qa 263 11 rfl rfl) (TC31.out w3 hx),rfl⟩
                   | 13,ho=>exact qI ho fun a w3 hx qq qa=>⟨rfl,_,run_move (.tmp 2) (.slice (some ⟨g,O,none⟩) L.length cap) (qq 2 rfl),rfl⟩
                   | 14,ho=>exact qI ho fun a w3 hx qq qa=>⟨rfl,_,yI (.tmp 265) g O L.length cap 4 rfl IX4.out (qa 265 13 rfl rfl),rfl⟩
                   | 15,ho=>exact qI ho fun a w3 hx qq qa=>⟨rfl,_,yA (.tmp 266) g (O+4 * 4) 2 (by decide) (qa 266 14 rfl rfl),rfl⟩
                   | 16,ho=>exact qI ho fun a w3 hx qq qa=>⟨rfl,_,ye (.tmp 267) ⟨g,O+4 * 4+2,none⟩ 3 (by decide) (.int .i64 t42) (qa 267 15 rfl rfl) (TC42.out w3 hx),rfl⟩
                   | 17,ho=>exact qI ho fun a w3 hx qq qa=>⟨rfl,_,run_move (.tmp 2) (.slice (some ⟨g,O,none⟩) L.length cap) (qq 2 rfl),rfl⟩
                   | 18,ho=>exact qI ho fun a w3 hx qq qa=>⟨rfl,_,yI (.tmp 269) g O L.length cap 6 rfl IX6.out (qa 269 17 rfl rfl),rfl⟩
                   | 19,ho=>exact qI ho fun a w3 hx qq qa=>⟨rfl,_,yA (.tmp 270) g (O+6 * 4) 2 (by decide) (qa 270 18 rfl rfl),rfl⟩
                   | 20,ho=>exact qI ho fun a w3 hx qq qa=>⟨rfl,_,ye (.tmp 271) ⟨g,O+6 * 4+2,none⟩ 3 (by decide) (.int .i64 t62) (qa 271 19 rfl rfl) (TC62.out w3 hx),rfl⟩
                   | 21,ho=>exact qI ho fun a w3 hx qq qa=>⟨rfl,_,vF (.tmp 260) (.tmp 264) (.tmp 268) (.tmp 272) t11 t31 t42 t62 (qa 260 8 rfl rfl) (qa 264 12 rfl rfl) (qa 268 16 rfl rfl) (qa 272 20 rfl rfl),rfl⟩
                   | 22,ho=>obtain rfl:=inj ho;intro a w3 hx qq qa qM;have hz:=(hx.size:(w6.drew).heap.size≤w3.heap.size);exact⟨rfl,yL (QU (.tmp 273) (.string t11) (.string t31) (.int .i64 t42) (.int .i64 t62) (qa 273 21 rfl rfl)) (Ext.alloc _ _) (QM w3 w6.heap.size (Nat.le_trans HB0.out hz) (.string t11) (.string t31) (.int .i64 t42) (.int .i64 t62) _)⟩
                   | 23,ho=>exact absurd rfl hz
                   | 24,ho=>exact qI ho fun a w3 hx qq qa=>⟨rfl,_,qL (.tmp 252) ⟨cb,0,none⟩ (qa 252 0 rfl rfl),rfl⟩
                   | 25,ho=>exact qI ho fun a w3 hx qq qa=>⟨rfl,_,yX (.tmp 276) cb 0 11 (by decide) (qa 276 24 rfl rfl),rfl⟩
                   | 26,ho=>exact absurd rfl hy
                   | i+27,ho=>cases ho
                  case hpu =>
                   intro i o ho hz hy
                   match i,ho with
                   | 0,ho=>obtain rfl:=inj ho;refine .inr ?_;intro a w1 w3 hx yD qq qa qM hf;exact⟨rfl,qD (run_move (.tmp 0) (.pointer (some ⟨cb,0,none⟩)) (qq 0 rfl)) ⟨_,rfl,rfl,fun _=>rfl,jj (by decide) hf⟩⟩
                   | 1,ho=>exact .inl rfl
                   | 2,ho=>exact .inl rfl
                   | 3,ho=>exact .inl rfl
                   | 4,ho=>exact .inl rfl
                   | 5,ho=>exact .inl rfl
                   | 6,ho=>exact .inl rfl
                   | 7,ho=>exact .inl rfl
                   | 8,ho=>exact .inl rfl
                   | 9,ho=>exact .inl rfl
                   | 10,ho=>exact .inl rfl
                   | 11,ho=>exact .inl rfl
                   | 12,ho=>exact .inl rfl
                   | 13,ho=>exact .inl rfl
                   | 14,ho=>exact .inl rfl
                   | 15,ho=>exact .inl rfl
                   | 16,ho=>exact .inl rfl
                   | 17,ho=>exact .inl rfl
                   | 18,ho=>exact .inl rfl
                   | 19,ho=>exact .inl rfl
                   | 20,ho=>exact .inl rfl
                   | 21,ho=>exact .inl rfl
                   | 22,ho=>exact .inl rfl
                   | 23,ho=>exact absurd rfl hz
                   | 24,ho=>obtain rfl:=inj ho;refine .inr ?_;intro a w1 w3 hx yD qq qa qM hf;exact⟨rfl,qD (qL (.tmp 252) ⟨cb,0,none⟩ (qa 252 0 rfl rfl)) ⟨_,rfl,rfl,fun _=>rfl,jj (by decide) hf⟩⟩
                   | 25,ho=>obtain rfl:=inj ho;refine .inr ?_;intro a w1 w3 hx yD qq qa qM hf;exact⟨rfl,qD (yX (.tmp 276) cb 0 11 (by decide) (qa 276 24 rfl rfl)) ⟨_,rfl,rfl,fun _=>rfl,jj (by decide) hf⟩⟩
                   | 26,ho=>exact absurd rfl hy
                   | i+27,ho=>cases ho
                  case hla =>
                   intro o ho;obtain rfl:=inj ho;intro a w3 hx yD qq qa qM;obtain⟨b,h1,h2,h3,h4⟩:=(qa 274 22 rfl rfl:(Wl.row w6.heap.size (zU ⟨t11,t31,t42,t62⟩)).ok (a.tmps.getD 274 undef) w3);have h5:a.tmps.getD 256 undef=.slice pv D.ls.length cv:=qa 256 4 rfl rfl;have PQ:=PX.out w3 hx;have OW:w3.ownsRow bs 91 4 (.slice pv D.ls.length cv) D.ls.length (D.ls.flatMap zU):=(by have q:=PQ.rows.ow 4;rw[← HV.out];exact q);refine⟨rfl,?_⟩;refine yp w3 rfl (.tmp 256) (.tmp 274) 40 rfl bs 91 ir (.agg #[.string ⟨#[]⟩,.string ⟨#[]⟩,.int .i64 0,.int .i64 0]) 4 48 Tryz.underlying40 hir hir0 hir1 hir2 rfl (by decide) (.slice pv D.ls.length cv) D.ls.length (D.ls.flatMap zU) h5 OW ⟨b,0,none⟩ 1 1 (zU ⟨t11,t31,t42,t62⟩) h1 rfl (fun j u hj=>by have q:=h4 j u hj;by_cases e:j=0;(subst e;simpa [Addr.add] using q);simpa [Addr.add,e] using q) (Y8 _) (by have:=LD.out;unfold maxLen;omega) (by have:=LD.out;omega) (by have q1:=OB.out;have q2:w6.drew.heap.size≤w3.heap.size:=hx.size;have q3:=HB0.out;omega) ?_;intro v' w' qB qe hob;obtain⟨pn,cn,hvn⟩:=qS qB;subst hvn;refine⟨_,rfl,fun _=>trivial,pn,cn,?_,qB,by rw[HV.out];exact qe,by rw[HV.out];exact hob⟩
                   show(a.put (some 275) _).tmps.getD 275 undef=_
                   rw[yj,if_pos ⟨rfl,by rw[yD];exact(show(275:Nat) < 335 from by decide)⟩]
                  case hyo =>
                   intro o ho;obtain rfl:=inj ho;intro a w1 w3 hx yD qq qa qM hf;obtain⟨pn,cn,h1,qB,qe,hob⟩:=hf;have h2:a.tmps.getD 277 undef=.pointer (some ⟨cb,11,none⟩):=qa 277 25 rfl rfl;have PQ:=PX.out w1 hx;have GB:=PQ.box.grown qe (by rw[HV.out];exact fun e'=>by have q:=((PQ.rows.ow 4).lt cb (by show(vs 4).ownBlock=_;rw[HV.out];exact e'.symm)).1;have:=OB.out;omega);exact⟨rfl,yV (zJ (.tmp 277) (.tmp 275) ⟨cb,11,none⟩ 40 (by decide) pn _ cn _ h2 h1 GB.c11 GB.f11) ⟨undef,rfl,fun h=>absurd h (by decide),pn,cn,w3,rfl,qB,qe,hob⟩⟩
                  case hfin =>
                   rintro x w1 w9 h1 h2 ⟨pn,cn,we,rfl,qB,qe,hob⟩;have APP:=hid (PcV.app4 (PX.out w1 h1) ⟨t11,t31,t42,t62⟩ (⟨NS42.out,NS62.out,NS11.out,NS31.out⟩) qB qe hob);have BEL:Hid (∀m,m≤cb→m≤bs→m≤w.heap.size→Below m w (we.setCell ⟨cb,11,none⟩ (.slice pn (D.ls.length+1) cn))):=(fun m q1 q2 q3=>yE (qP (EX.out w1 h1) q3) q3 qe (fun g' e'=>Nat.le_trans q2 (((PX.out w1 h1).rows.ow 4).lt g' e').1) q1 _ _);clear h1 h2 qB qe hob;generalize we.setCell ⟨cb,11,none⟩ (.slice pn (D.ls.length+1) cn)=w9 at *;dsimp only[frameT,lmT,List.foldl];generalize x 252=q252;generalize x 253=q253;generalize x 254=q254;generalize x 255=q255;generalize x 256=q256;generalize x 257=q257;generalize x 258=q258;generalize x 259=q259;generalize x 260=q260;generalize x 261=q261;generalize x 262=q262;generalize x 263=q263;generalize x 264=q264;generalize x 265=q265;generalize x 266=q266;generalize x 267=q267;generalize x 268=q268;generalize x 269=q269;generalize x 270=q270;generalize x 271=q271;generalize x 272=q272;generalize x 273=q273;generalize x 274=q274;generalize x 275=q275;generalize x 276=q276;generalize x 277=q277;clear x;go_simp;go_wp2_with fail;go_ret;exact kV RQ.out (by exact APP.out) (fun m q1 q2 q3 q4=>BEL.out m q1 q3 q4)
end Go.Proofs.YtcejjdmnlejbaaaGreatDoor
