import Derived.Test.YtcejjdmnlejbaaaGreatDoorVDa
namespace Go.Proofs.YtcejjdmnlejbaaaGreatDoor
open Option.some(inj)
open Lib(hid)
set_option linter.unusedVariables false
set_option linter.unusedSimpArgs false
open Go.ChangeShapes Go.WideShapes Go.ChangeAt Go.RowKit
open Go.Deep (BT)
set_option maxHeartbeats 16000000
set_option maxRecDepth 100000
def UJ:List (Nat× Nat):=[(104,0),(105,1),(106,2),(107,3),(108,4),(109,5),(110,6),(111,7),(112,8),(113,9),(114,10),(115,11),(116,12),(117,13),(118,14),(119,15),(120,16),(121,17),(122,18),(123,19)]
def ruxW(cb g O Ll cap nn cv B0:Nat)(pv:Option Addr)(t21:ByteArray)(tb:Nat)(x5:Ch)(tx:ByteArray)(sc:Int)(i:Nat):Wl :=
 match i with
 | 0=>.eq (.pointer (some ⟨cb,0,none⟩))
 | 1=>.eq (.pointer (some ⟨cb,0,none⟩))
 | 2=>.eq (.pointer (some ⟨cb,0,none⟩))
 | 3=>.eq (.pointer (some ⟨cb,8,none⟩))
 | 4=>.eq (.slice pv nn cv)
 | 5=>.eq (.slice (some ⟨g,O,none⟩) Ll cap)
 | 6=>.eq (.pointer (some ⟨g,O+0 * 4,none⟩))
 | 7=>.eq (.pointer (some ⟨g,O+0 * 4+1,none⟩))
 | 8=>.eq (.string tx)
 | 9=>.eq (.int .i64 sc)
 | 10=>.eq (.slice (some ⟨g,O,none⟩) Ll cap)
 | 11=>.eq (.pointer (some ⟨g,O+2 * 4,none⟩))
 | 12=>.eq (.pointer (some ⟨g,O+2 * 4+1,none⟩))
 | 13=>.eq (.string t21)
 | 14=>.eq (.agg #[.int .i64 x5.a.op,.int .i64 x5.a.num,.string x5.a.name,.slice x5.a.ptr (len x5.k) x5.a.cap])
 | 15=>.eq (.agg #[.int .i64 sc,.string t21,.int .i64 x5.a.op,.int .i64 x5.a.num,.string x5.a.name,.slice x5.a.ptr (len x5.k) x5.a.cap])
 | 16=>.row B0 [.int .i64 sc,.string t21,.int .i64 x5.a.op,.int .i64 x5.a.num,.string x5.a.name,.slice x5.a.ptr (len x5.k) x5.a.cap]
 | 17=>.any
 | 18=>.eq (.pointer (some ⟨cb,0,none⟩))
 | 19=>.eq (.pointer (some ⟨cb,8,none⟩))
 | _=>.any
def ruxG(cb g O Ll cap nn cv B0:Nat)(pv:Option Addr)(t21:ByteArray)(tb:Nat)(x5:Ch)(tx:ByteArray)(sc:Int)(i:Nat)(v:Value)(w:World):Prop:=(ruxW cb g O Ll cap nn cv B0 pv t21 tb x5 tx sc i).ok v w
def UZ:List (Nat× Nat):=[(147,0),(148,1),(149,2),(150,3),(151,4),(152,5),(153,6),(154,7),(155,8),(156,9),(157,10),(158,11),(159,12),(160,13),(161,14),(162,15)]
def coxW(cb g O Ll cap nn cv B0:Nat)(pv:Option Addr)(tb:Nat)(x5:Ch)(tx:ByteArray)(sc:Int)(i:Nat):Wl :=
 match i with
 | 0=>.eq (.pointer (some ⟨cb,0,none⟩))
 | 1=>.eq (.pointer (some ⟨cb,0,none⟩))
 | 2=>.eq (.pointer (some ⟨cb,0,none⟩))
 | 3=>.eq (.pointer (some ⟨cb,9,none⟩))
 | 4=>.eq (.slice pv nn cv)
 | 5=>.eq (.slice (some ⟨g,O,none⟩) Ll cap)
 | 6=>.eq (.pointer (some ⟨g,O+0 * 4,none⟩))
 | 7=>.eq (.pointer (some ⟨g,O+0 * 4+1,none⟩))
 | 8=>.eq (.string tx)
 | 9=>.eq (.int .i64 sc)
 | 10=>.eq (.agg #[.int .i64 x5.a.op,.int .i64 x5.a.num,.string x5.a.name,.slice x5.a.ptr (len x5.k) x5.a.cap])
 | 11=>.eq (.agg #[.int .i64 sc,.int .i64 x5.a.op,.int .i64 x5.a.num,.string x5.a.name,.slice x5.a.ptr (len x5.k) x5.a.cap])
 | 12=>.row B0 [.int .i64 sc,.int .i64 x5.a.op,.int .i64 x5.a.num,.string x5.a.name,.slice x5.a.ptr (len x5.k) x5.a.cap]
 | 13=>.any
 | 14=>.eq (.pointer (some ⟨cb,0,none⟩))
 | 15=>.eq (.pointer (some ⟨cb,9,none⟩))
 | _=>.any
def coxG(cb g O Ll cap nn cv B0:Nat)(pv:Option Addr)(tb:Nat)(x5:Ch)(tx:ByteArray)(sc:Int)(i:Nat)(v:Value)(w:World):Prop:=(coxW cb g O Ll cap nn cv B0 pv tb x5 tx sc i).ok v w
theorem YB(bs cb sb:Nat)(c:Pc.PC)(vs:Fin 6→Value)(D:Six)(L:List Tk.T4)(v:Value)(w:World)(hp:PcV w bs cb sb c vs D)(ht:TkAt w L v)(hV:∀t∈ L,VT t.t)(hs:∀t∈ L,t.t.text.size≤9223372036854775807)(hk:Pc.kd L 0 1=true)(hF:Pc.fieldsL.findIdx? (fun s=>decide (s=(Pc.tok L 0).text))=none)
 (hs0:Pc.scopeT (Pc.tok L 0).text≠0) (h40:L.length≤400) (hbs:bs≤w.heap.size) (hct:Pc.cnt c≤1000) :
 Calls Tryz.prog 40 #[.pointer (some ⟨cb,0,none⟩),.pointer (some ⟨sb,0,none⟩),v] w (K5 w bs cb sb (Pc.declT c L)):=by
 have REST:=hid (jf (c:=c) hk hF);generalize Pc.declT c L=R at *;have TA:Hid (∀wq,Below w.heap.size w wq→TkAt wq L v):=fun wq hb=>ht.next hb
 have PV:=hid hp;have HVV:=hid hV;have HS:=hid hs;have KA:Hid (Calls Tryz.prog 94 #[v,.int .i64 0,.int .i64 1] w fun e w'=>e=.returned (.bool true)∧w=w'):=kT hk ht;have hi:0 < L.length:=uD hk;have LL:=hid hi;have hlc:(0:Int) < (L.length:Int):=by omega
 obtain⟨t0,hq0⟩:∃t,L[0]?=some t:=⟨_,List.getElem?_eq_getElem hi⟩;have LB:Hid (cb < bs∧bs≤w.heap.size):=⟨hp.rows.lt cb (Or.inl rfl),hbs⟩;have LC:=hid hct;have H40:=hid h40;obtain⟨p,cap,hv,g1,g2,g3⟩:=ht;subst hv;have HCP:=hid g1;clear g1 g2 g3;obtain⟨g,O,rfl,ng1,ng2⟩:=zG (TA.out w (Below.refl _ _)) hq0 hp.box hp.vs hp.sn
 have T0:Hid (∀wq,Below w.heap.size w wq→wq.cell? ⟨g,O+1,none⟩=some (.string (Pc.tok L 0).text)):=fun wq hb=>by
  have q:=(Qh (TA.out wq hb) hi).1;rw[show O+0 * 4+1=O+1 by omega] at q;exact q
 have HFN:Hid (∀(j:Nat) (s:ByteArray),Pc.fieldsL[j]?=some s→((Pc.tok L 0).text.toList==s.toList)=false):=by
  intro j s hj;have q:=List.findIdx?_eq_none_iff.1 hF s (List.mem_of_getElem? hj);rw[beq_eq_false_iff_ne];intro e;refine(of_decide_eq_false q) ?_;rw[Lib.toList_data,Lib.toList_data] at e;exact ByteArray.ext (Array.toList_inj.1 e.symm)
 obtain⟨tx,htx⟩:∃z,(Pc.tok L 0).text=z:=⟨_,rfl⟩;rw[htx] at T0 HFN REST hs0;obtain⟨sc,hsc⟩:∃z,Pc.scopeT tx=z:=⟨_,rfl⟩;have SC:Hid (∀wq,Calls Tryz.prog 99 #[.string tx] wq fun e w'=>e=.returned (.int .i64 sc)∧wq=w'):=fun wq=>(by have q:=jc tx wq;rw[hsc] at q;exact q);clear hq0 hF hk hi hp hs hV htx;have hz:¬sc=0:=(by rw[← hsc];exact hs0);have hz3:1≤sc∧sc≤3:=by rcases uq tx with q|q|q|q<;>omega
 have hnc:tx≠Pc.wConst:=(by rintro rfl;exact hs0 (by decide));have hnl:tx≠Pc.wLimit:=(by rintro rfl;exact hs0 (by decide));have hno:tx≠Pc.wOff:=(by rintro rfl;exact hs0 (by decide));have nc:¬tx.toList=[99,111,110,115,116]:=j7 hnc;have nl:¬tx.toList=[108,105,109,105,116]:=j7 hnl;have no:¬tx.toList=[111,102,102]:=j7 hno;clear h40 hbs hct;go_enter Tryz.func40,Tryz.ntmps40;go_upto_region 4 with (go_at_call 94;refine KA.out.mono ?_;rintro e w' ⟨rfl,rfl⟩);have B1:Hid (Below w.heap.size w (w.alloc (.cells #[.string Pc.wReport,.string Pc.wRelease,.string Pc.wConnect,.string Pc.wSit,.string Pc.wLayover,.string Pc.wGuarantee,.string Pc.wNight] 9))):=ya _ _
 have FC:Hid (∀(j:Nat) (s:ByteArray),Pc.fieldsL[j]?=some s→(w.alloc (.cells #[.string Pc.wReport,.string Pc.wRelease,.string Pc.wConnect,.string Pc.wSit,.string Pc.wLayover,.string Pc.wGuarantee,.string Pc.wNight] 9)).cell? ⟨w.heap.size,j,none⟩=some (.string s)):=by
  intro j s hj
  match j,hj with
  | 0,hj=>(cases hj;simp[go_sem])
  | 1,hj=>(cases hj;simp[go_sem])
  | 2,hj=>(cases hj;simp[go_sem])
  | 3,hj=>(cases hj;simp[go_sem])
  | 4,hj=>(cases hj;simp[go_sem])
  | 5,hj=>(cases hj;simp[go_sem])
  | 6,hj=>(cases hj;simp[go_sem])
  | n+7,hj=>simp[Pc.fieldsL] at hj
 unfold Pc.wReport Pc.wRelease Pc.wConnect Pc.wSit Pc.wLayover Pc.wGuarantee Pc.wNight at B1 FC;generalize w.alloc _=w1 at *;have tc1:=T0.out _ B1.out;go_wp2_with fail
 go_loopw [8] (fun i wr=>∃j:Nat,j≤7∧i=.int .i64 j∧Hid (Below w1.heap.size w1 wr)) (fun i _=>7 - (intOf i).toNat)
 case atStart=>exact⟨0,by omega,rfl,Below.refl _ _⟩
 case round =>
  obtain⟨wp,hwp⟩:∃z,z=wr:=⟨_,rfl⟩;subst hwp;obtain⟨j,hj,rfl,HB⟩:=hrel;have hi0:=LL.out
  by_cases qN:j < 7
  ·have hj1:(j:Int) < 7:=by omega
   obtain⟨s,hs⟩:∃s,Pc.fieldsL[j]?=some s:=⟨_,List.getElem?_eq_getElem (show j < 7 from qN)⟩;have fc:=qb (FC.out j s hs) HB.out;have tc2:=qb tc1 HB.out;have nq:=HFN.out j s hs;clear hs;go_upto_region 7 with (fail)
   go_quiet (fail)
   go_wp2
   go_roundw
   case rel=>exact⟨j+1,by omega,by go_num,below_drewN HB.out _⟩
   case measure=>simp[intOf];omega
  have hj1:¬(j:Int) < 7:=by omega
  clear FC HFN qN hj;have B2:Hid (Below w.heap.size w wp):=B1.out.trans (HB.out.mono B1.out.size);have tc2:=T0.out _ B2.out;clear tc1 B1 HB;cases a:Pc.isW L 1 Pc.wRule with
  | false =>
    cases b:Pc.isW L 1 Pc.wCost with
    | false =>
      by_cases hd:tx=Pc.wDuty
      ·
       have nd:tx.toList=[100,117,116,121]:=xG hd;have HD:=hid hd;clear hd;cases f:Pc.isW L 1 Pc.wCredit with
       | false =>
         have RQ:Hid (R=(c,1)):=(by unfold Hid;rw[REST.out];unfold restT;simp[hsc,hz,hnc,hnl,hno,HD.out,a,b,f,yd]);go_upto_region 20 with (first|(go_at_call 97;refine(yU a (TA.out _ (by exact B2.out))).mono ?_;rintro e w' ⟨rfl,rfl⟩;clear a)|(go_at_call 99;refine(SC.out _).mono ?_;rintro e w' ⟨rfl,rfl⟩));go_upto_region 25 with (first|(go_at_call 97;refine(yU b (TA.out _ (by exact B2.out))).mono ?_;rintro e w' ⟨rfl,rfl⟩;clear b)|(go_at_call 99;refine(SC.out _).mono ?_;rintro e w' ⟨rfl,rfl⟩));go_wp2_with (go_at_call 97;refine(yU f (TA.out _ (by exact B2.out))).mono ?_;rintro e w' ⟨rfl,rfl⟩;clear f);go_ret;exact qY RQ.out (by decide) (by exact B2.out)
       | true =>
         cases e:Pc.isW L 2 Pc.wIs with
         | false =>
           have RQ:Hid (R=(c,1)):=(by unfold Hid;rw[REST.out];unfold restT;simp[hsc,hz,hnc,hnl,hno,HD.out,a,b,f,e,yd]);go_upto_region 20 with (first|(go_at_call 97;refine(yU a (TA.out _ (by exact B2.out))).mono ?_;rintro e w' ⟨rfl,rfl⟩;clear a)|(go_at_call 99;refine(SC.out _).mono ?_;rintro e w' ⟨rfl,rfl⟩));go_upto_region 25 with (first|(go_at_call 97;refine(yU b (TA.out _ (by exact B2.out))).mono ?_;rintro e w' ⟨rfl,rfl⟩;clear b)|(go_at_call 99;refine(SC.out _).mono ?_;rintro e w' ⟨rfl,rfl⟩));go_wp2_with (first|(go_at_call 97;refine(yU f (TA.out _ (by exact B2.out))).mono ?_;rintro e w' ⟨rfl,rfl⟩;clear f)|(go_at_call 97;refine(yU e (TA.out _ (by exact B2.out))).mono ?_;rintro e w' ⟨rfl,rfl⟩;clear e));go_ret;exact qY RQ.out (by decide) (by exact B2.out)
         | true =>
           by_cases hbd:0≤yM (L.drop 3)
           ·
            have RQ:Hid (R=(c,1)):=(by unfold Hid;rw[REST.out];unfold restT;simp[hsc,hz,hnc,hnl,hno,HD.out,a,b,f,e,Pc.ifEx,hbd,yd]);have HL3:Hid (3≤L.length):=isw_lt e;have TE:=hid (KR 3 HVV.out H40.out TA.out);have DV:Hid ((∀t∈ L.drop 3,VT t.t)∧(L.drop 3).length≤400):=⟨fun t ht=>HVV.out t (List.mem_of_mem_drop ht),by have:=H40.out;rw[List.length_drop];omega⟩;have HBD:=hid hbd;have hl3:=HL3.out;go_upto_region 20 with (first|(go_at_call 97;refine(yU a (TA.out _ (by exact B2.out))).mono ?_;rintro e w' ⟨rfl,rfl⟩;clear a)|(go_at_call 99;refine(SC.out _).mono ?_;rintro e w' ⟨rfl,rfl⟩));go_upto_region 25 with (first|(go_at_call 97;refine(yU b (TA.out _ (by exact B2.out))).mono ?_;rintro e w' ⟨rfl,rfl⟩;clear b)|(go_at_call 99;refine(SC.out _).mono ?_;rintro e w' ⟨rfl,rfl⟩));go_upto_region 26 with (first|(go_at_call 97;refine(yU f (TA.out _ (by exact B2.out))).mono ?_;rintro e w' ⟨rfl,rfl⟩;clear f)|(go_at_call 97;refine(yU e (TA.out _ (by exact B2.out))).mono ?_;rintro e w' ⟨rfl,rfl⟩;clear e));go_wp2_with ((go_at_call 98;refine(TE.out _ _ _ (by exact B2.out) (by have q1:=HL3.out;have q2:=HCP.out;first|exact .inl rfl|exact .inr (by omega)|(split;exact .inr (by omega);exact .inl rfl))).mono ?_;rintro e w5 h5;obtain⟨x5,rfl,hb5,hx5⟩:=zr DV.out.1 DV.out.2 h5;clear h5 TE;have B5:=hid (Below.trans (by exact B2.out) (hb5.mono (by exact B2.out.size)));clear hx5 hb5;generalize yM _=bd at *;have hbd0:=HBD.out))
            all_goals
             go_ret;exact qY RQ.out (by decide) (B5.out.trans ((ya _ _).mono B5.out.size))
           ·
            replace hbd:yM (L.drop 3) < 0:=by omega
            have RQ:Hid (R=({ c with cr:=c.cr++[Pc.tree (L.drop 3)] },0)):=(by unfold Hid;rw[REST.out];unfold restT;simp[hsc,hz,hnc,hnl,hno,HD.out,a,b,f,e,Pc.ifEx,show ¬ 0≤yM (L.drop 3) from by omega,yd]);have HL3:Hid (3≤L.length):=isw_lt e;have TE:=hid (KR 3 HVV.out H40.out TA.out);have DV:Hid ((∀t∈ L.drop 3,VT t.t)∧(L.drop 3).length≤400):=⟨fun t ht=>HVV.out t (List.mem_of_mem_drop ht),by have:=H40.out;rw[List.length_drop];omega⟩;have HBD:=hid hbd;have hl3:=HL3.out
            have hcp:¬cap=3:=by
             have q1:=HCP.out;intro q;have q2:L.drop 3=[]:=List.drop_eq_nil_of_le (by omega);rw[q2,kO] at hbd;omega
            have LD:Hid (D.cr.length≤1000):=(by have q:=PV.out.len;have:=LC.out;unfold Hid;omega);go_upto_region 20 with (first|(go_at_call 97;refine(yU a (TA.out _ (by exact B2.out))).mono ?_;rintro e w' ⟨rfl,rfl⟩;clear a)|(go_at_call 99;refine(SC.out _).mono ?_;rintro e w' ⟨rfl,rfl⟩));go_upto_region 25 with (first|(go_at_call 97;refine(yU b (TA.out _ (by exact B2.out))).mono ?_;rintro e w' ⟨rfl,rfl⟩;clear b)|(go_at_call 99;refine(SC.out _).mono ?_;rintro e w' ⟨rfl,rfl⟩));go_upto_region 26 with (first|(go_at_call 97;refine(yU f (TA.out _ (by exact B2.out))).mono ?_;rintro e w' ⟨rfl,rfl⟩;clear f)|(go_at_call 97;refine(yU e (TA.out _ (by exact B2.out))).mono ?_;rintro e w' ⟨rfl,rfl⟩;clear e));go_upto_region 29 with ((go_at_call 98;refine(TE.out _ _ _ (by exact B2.out) (by have q1:=HL3.out;have q2:=HCP.out;first|exact .inl rfl|exact .inr (by omega)|(split;exact .inr (by omega);exact .inl rfl))).mono ?_;rintro e w5 h5;obtain⟨x5,rfl,hb5,hx5⟩:=zr DV.out.1 DV.out.2 h5;clear h5 TE;have B5:=hid (Below.trans (by exact B2.out) (hb5.mono (by exact B2.out.size)));have X5:=hid (hx5 HBD.out);have A5:=hid ((PV.out.next (by exact B2.out)).av X5.out.2.2.1);clear hx5 hb5;have hbd0:=HBD.out;generalize yM _=bd at *));obtain⟨w6,hw6,hbx,e0,e1,e2,e3⟩:=jn w5 x5;rw[hw6];clear hw6;have B6:=hid (B5.out.trans (hbx.mono B5.out.size));have X6:Hid (Pz.nr x5=Pc.tree (L.drop 3)∧ExAt w6 x5.b x5.o x5.a x5.k∧yS x5.a x5.k):=⟨X5.out.1,X5.out.2.1.next hbx,X5.out.2.2.2⟩;have TBG:Hid (w.heap.size≤w5.heap.size):=B5.out.size;have htb:=block_lt_of_cell e0;generalize w5.heap.size=tb at *;have htb2:tb < w6.heap.size:=htb;clear htb X5 hbx hbd0 DV;obtain⟨ir,hir,hir0,hir1,hir2⟩:=info_parts Tryz.infoXpP;have P6:=hid (PV.out.next B6.out);obtain⟨pv,cv,hv⟩:∃pv cv,vs 3=.slice pv D.cr.length cv:=qS (P6.out.rows.ow 3);have HV:=hid hv;have oc:=P6.out.box.c10;have hcb:cb < w6.heap.size:=P6.out.box.lt;rw[hv] at oc;clear hv;have HNB:=hid ((ya w6 (.cells #[.int .i64 0,.int .i64 0,.string ⟨#[]⟩,.slice none 0 0] 24)).drew);have P7:=hid (P6.out.next HNB.out)
            have OW4:Hid ((w6.alloc (.cells #[.int .i64 0,.int .i64 0,.string ⟨#[]⟩,.slice none 0 0] 24)).drew.ownsRow bs 24 4 (.slice pv D.cr.length cv) D.cr.length (D.cr.flatMap jI)):=by
             unfold Hid;have q:=P7.out.rows.ow 3;rw[← HV.out];exact q
            have OB:Hid (bs≤w6.heap.size∧cb < bs):=⟨Nat.le_trans LB.out.2 B6.out.size,LB.out.1⟩;have hnn:(D.cr.length:Int) < (D.cr.length:Int)+1:=by omega
            go_region_law (first|(refine zQ _ (by rfl) _ _ 22 (by rfl) bs 24 ir (.agg #[.int .i64 0,.int .i64 0,.string ⟨#[]⟩,.slice none 0 0]) 4 56 Tryz.underlying22 hir hir0 hir1 hir2 rfl (by decide) (.slice pv D.cr.length cv) D.cr.length (D.cr.flatMap jI) (by rfl) OW4.out ⟨w6.heap.size,0,none⟩ 1 1 [.int .i64 0,.int .i64 0,.string ⟨#[]⟩,.slice none 0 0] (by rfl) (by rfl) (by intro q u hu;match q,hu with|0,hu=>(simp at hu;subst hu;simp[Addr.add,go_sem])|1,hu=>(simp at hu;subst hu;simp[Addr.add,go_sem])|2,hu=>(simp at hu;subst hu;simp[Addr.add,go_sem])|3,hu=>(simp at hu;subst hu;simp[Addr.add,go_sem])|q+4,hu=>simp at hu) vR (by have:=LD.out;unfold maxLen;omega) (by have:=LD.out;omega) (by have:=OB.out;simp;omega) ?_;intro v' we qB qe hob;obtain⟨g2,cn,hvn⟩:=uv qB;subst hvn;have GB:=P7.out.box.grown qe (fun e'=>by have q:=(OW4.out.lt cb e'.symm).1;have:=OB.out;omega);have fz:=GB.f10;have cz:=GB.c10;have HOWN:=hid qB;have HGR:=hid qe;have HOB:=hid hob;obtain⟨q0,q1,q2,q3⟩:=xx OW4.out.1 qB;have r0:=qB.frozenAt (D.cr.length * 4);have r1:=qB.frozenAt (D.cr.length * 4+1);have r2:=qB.frozenAt (D.cr.length * 4+2);have r3:=qB.frozenAt (D.cr.length * 4+3);have ng1:¬g2=cb:=(by have q:=(qB.lt g2 rfl).1;have:=OB.out;omega);have ng2:¬cb=g2:=(fun e=>ng1 e.symm);have tq:∀(j:Nat) (u:Value),w6.cell? ⟨tb,j,none⟩=some u→we.cell? ⟨tb,j,none⟩=some u:=(fun j u hj=>by rw[World.cell?_of_block (a:=⟨tb,j,none⟩) (qe.block tb (by simp;omega) (fun e'=>by have q:=((PV.out.rows.ow 3).lt tb (by show(vs 3).ownBlock=_;rw[HV.out];exact e'.symm)).2;have:=TBG.out;omega))];exact qb hj HNB.out);have x0:=tq 0 _ e0;have x1:=tq 1 _ e1;have x2:=tq 2 _ e2;have x3:=tq 3 _ e3;clear tq GB qB qe hob))
            all_goals
             go_wp2_with fail;go_ret;have SW:∀(wq:World) (kq:Nat) (u v:Value),(wq.setCell ⟨cb,10,none⟩ u).setCell ⟨g2,kq,none⟩ v=(wq.setCell ⟨g2,kq,none⟩ v).setCell ⟨cb,10,none⟩ u:=fun wq kq u v=>kB wq (fun e=>ng1 e.symm) u v
             have hgo:some g2=(Value.slice pv D.cr.length cv).ownBlock∨(w6.alloc (.cells #[.int .i64 0,.int .i64 0,.string ⟨#[]⟩,.slice none 0 0] 24)).drew.heap.size≤g2:=(by
              rcases HOB.out with q|q
              ·exact .inl q
              ·exact .inr (Nat.le_of_eq (inj q).symm))
             have OO:=uw OW4.out.1 HOWN.out (.int .i64 x5.a.op) (.int .i64 x5.a.num) (.string x5.a.name) (.slice x5.a.ptr (len x5.k) x5.a.cap);have GG:=fun k0 k1 k2 k3 u0 u1 u2 u3=>zN (zN (zN (zN HGR.out hgo k0 u0) hgo k1 u1) hgo k2 u2) hgo k3 u3;have APP:=PcV.app3 P7.out x5 (X6.out.2.1.next HNB.out) A5.out X6.out.2.2 OO (by rw[HV.out];exact GG _ _ _ _ _ _ _ _) (by rw[HV.out];exact HOB.out);rw[X6.out.1] at APP;have q:K5 w bs cb sb R (.returned (.int .i64 0)) _:=kV RQ.out APP (fun m q1 q2 q3 q4=>yE (qP (B6.out.trans (HNB.out.mono B6.out.size)) q4) q4 (GG _ _ _ _ _ _ _ _) (fun g' e'=>Nat.le_trans q3 (OW4.out.lt g' e').1) q1 _ _)
             first
              | exact q
              | (rw[SW,SW,SW,SW];exact q)
      ·
       have nd:¬tx.toList=[100,117,116,121]:=j7 hd;have HD:=hid hd;clear hd;have RQ:Hid (R=(c,1)):=(by unfold Hid;rw[REST.out];unfold restT;simp[hsc,hz,hnc,hnl,hno,HD.out,a,b,yd]);go_upto_region 20 with (first|(go_at_call 97;refine(yU a (TA.out _ (by exact B2.out))).mono ?_;rintro e w' ⟨rfl,rfl⟩;clear a)|(go_at_call 99;refine(SC.out _).mono ?_;rintro e w' ⟨rfl,rfl⟩));go_upto_region 25 with (first|(go_at_call 97;refine(yU b (TA.out _ (by exact B2.out))).mono ?_;rintro e w' ⟨rfl,rfl⟩;clear b)|(go_at_call 99;refine(SC.out _).mono ?_;rintro e w' ⟨rfl,rfl⟩));go_wp2_with (first|(go_at_call 99;refine(SC.out _).mono ?_;rintro e w' ⟨rfl,rfl⟩));go_ret;exact qY RQ.out (by decide) (by exact B2.out)
    | true =>
      have cr:=vd b (b:=Pc.wCredit) (by decide);cases e:Pc.isW L 2 Pc.wIs with
      | false =>
        by_cases hd:tx=Pc.wDuty
        ·
         have nd:tx.toList=[100,117,116,121]:=xG hd;have HD:=hid hd;clear hd;have RQ:Hid (R=(c,1)):=(by unfold Hid;rw[REST.out];unfold restT;simp[hsc,hz,hnc,hnl,hno,HD.out,a,b,cr,e,yd]);go_upto_region 20 with (first|(go_at_call 97;refine(yU a (TA.out _ (by exact B2.out))).mono ?_;rintro e w' ⟨rfl,rfl⟩;clear a)|(go_at_call 99;refine(SC.out _).mono ?_;rintro e w' ⟨rfl,rfl⟩));go_upto_region 25 with (first|(go_at_call 97;refine(yU b (TA.out _ (by exact B2.out))).mono ?_;rintro e w' ⟨rfl,rfl⟩;clear b)|(go_at_call 97;refine(yU e (TA.out _ (by exact B2.out))).mono ?_;rintro e w' ⟨rfl,rfl⟩;clear e)|(go_at_call 99;refine(SC.out _).mono ?_;rintro e w' ⟨rfl,rfl⟩));go_wp2_with (go_at_call 97;refine(yU cr (TA.out _ (by exact B2.out))).mono ?_;rintro e w' ⟨rfl,rfl⟩;clear cr);go_ret;exact qY RQ.out (by decide) (by exact B2.out)
        ·
         have nd:¬tx.toList=[100,117,116,121]:=j7 hd;have HD:=hid hd;clear hd;have RQ:Hid (R=(c,1)):=(by unfold Hid;rw[REST.out];unfold restT;simp[hsc,hz,hnc,hnl,hno,HD.out,a,b,cr,e,yd]);go_upto_region 20 with (first|(go_at_call 97;refine(yU a (TA.out _ (by exact B2.out))).mono ?_;rintro e w' ⟨rfl,rfl⟩;clear a)|(go_at_call 99;refine(SC.out _).mono ?_;rintro e w' ⟨rfl,rfl⟩));go_upto_region 25 with (first|(go_at_call 97;refine(yU b (TA.out _ (by exact B2.out))).mono ?_;rintro e w' ⟨rfl,rfl⟩;clear b)|(go_at_call 97;refine(yU e (TA.out _ (by exact B2.out))).mono ?_;rintro e w' ⟨rfl,rfl⟩;clear e)|(go_at_call 99;refine(SC.out _).mono ?_;rintro e w' ⟨rfl,rfl⟩));go_wp2_with (first|(go_at_call 99;refine(SC.out _).mono ?_;rintro e w' ⟨rfl,rfl⟩));go_ret;exact qY RQ.out (by decide) (by exact B2.out)
      | true =>
        by_cases hbd:0≤yM (L.drop 3)
        ·
         have RQ:Hid (R=(c,1)):=(by unfold Hid;rw[REST.out];unfold restT;simp[hsc,hz,hnc,hnl,hno,a,b,e,Pc.ifEx,hbd,yd]);have HL3:Hid (3≤L.length):=isw_lt e;have TE:=hid (KR 3 HVV.out H40.out TA.out);have DV:Hid ((∀t∈ L.drop 3,VT t.t)∧(L.drop 3).length≤400):=⟨fun t ht=>HVV.out t (List.mem_of_mem_drop ht),by have:=H40.out;rw[List.length_drop];omega⟩;have HBD:=hid hbd;have hl3:=HL3.out;go_upto_region 20 with (first|(go_at_call 97;refine(yU a (TA.out _ (by exact B2.out))).mono ?_;rintro e w' ⟨rfl,rfl⟩;clear a)|(go_at_call 99;refine(SC.out _).mono ?_;rintro e w' ⟨rfl,rfl⟩));go_upto_region 21 with (first|(go_at_call 97;refine(yU b (TA.out _ (by exact B2.out))).mono ?_;rintro e w' ⟨rfl,rfl⟩;clear b)|(go_at_call 97;refine(yU e (TA.out _ (by exact B2.out))).mono ?_;rintro e w' ⟨rfl,rfl⟩;clear e)|(go_at_call 99;refine(SC.out _).mono ?_;rintro e w' ⟨rfl,rfl⟩));go_wp2_with ((go_at_call 98;refine(TE.out _ _ _ (by exact B2.out) (by have q1:=HL3.out;have q2:=HCP.out;first|exact .inl rfl|exact .inr (by omega)|(split;exact .inr (by omega);exact .inl rfl))).mono ?_;rintro e w5 h5;obtain⟨x5,rfl,hb5,hx5⟩:=zr DV.out.1 DV.out.2 h5;clear h5 TE;have B5:=hid (Below.trans (by exact B2.out) (hb5.mono (by exact B2.out.size)));clear hx5 hb5;generalize yM _=bd at *;have hbd0:=HBD.out))
         all_goals
          go_ret;exact qY RQ.out (by decide) (B5.out.trans ((ya _ _).mono B5.out.size))
        ·
         replace hbd:yM (L.drop 3) < 0:=by omega
         have RQ:Hid (R=({ c with os:=c.os++[(sc,Pc.tree (L.drop 3))] },0)):=(by unfold Hid;rw[REST.out];unfold restT;simp[hsc,hz,hnc,hnl,hno,a,b,e,Pc.ifEx,show ¬ 0≤yM (L.drop 3) from by omega,yd]);have HL3:Hid (3≤L.length):=isw_lt e;have TE:=hid (KR 3 HVV.out H40.out TA.out);have DV:Hid ((∀t∈ L.drop 3,VT t.t)∧(L.drop 3).length≤400):=⟨fun t ht=>HVV.out t (List.mem_of_mem_drop ht),by have:=H40.out;rw[List.length_drop];omega⟩;have HBD:=hid hbd;have hl3:=HL3.out
         have hcp:¬cap=3:=by
          have q1:=HCP.out;intro q;have q2:L.drop 3=[]:=List.drop_eq_nil_of_le (by omega);rw[q2,kO] at hbd;omega
         have LD:Hid (D.os.length≤1000):=(by have q:=PV.out.len;have:=LC.out;unfold Hid;omega);go_upto_region 20 with (first|(go_at_call 97;refine(yU a (TA.out _ (by exact B2.out))).mono ?_;rintro e w' ⟨rfl,rfl⟩;clear a)|(go_at_call 99;refine(SC.out _).mono ?_;rintro e w' ⟨rfl,rfl⟩));go_upto_region 21 with (first|(go_at_call 97;refine(yU b (TA.out _ (by exact B2.out))).mono ?_;rintro e w' ⟨rfl,rfl⟩;clear b)|(go_at_call 97;refine(yU e (TA.out _ (by exact B2.out))).mono ?_;rintro e w' ⟨rfl,rfl⟩;clear e)|(go_at_call 99;refine(SC.out _).mono ?_;rintro e w' ⟨rfl,rfl⟩));go_upto_region 24 with ((go_at_call 98;refine(TE.out _ _ _ (by exact B2.out) (by have q1:=HL3.out;have q2:=HCP.out;first|exact .inl rfl|exact .inr (by omega)|(split;exact .inr (by omega);exact .inl rfl))).mono ?_;rintro e w5 h5;obtain⟨x5,rfl,hb5,hx5⟩:=zr DV.out.1 DV.out.2 h5;clear h5 TE;have B5:=hid (Below.trans (by exact B2.out) (hb5.mono (by exact B2.out.size)));have X5:=hid (hx5 HBD.out);have A5:=hid ((PV.out.next (by exact B2.out)).av X5.out.2.2.1);clear hx5 hb5;have hbd0:=HBD.out;generalize yM _=bd at *));obtain⟨w6,hw6,hbx,e0,e1,e2,e3⟩:=jn w5 x5;rw[hw6];clear hw6;have B6:=hid (B5.out.trans (hbx.mono B5.out.size));have X6:Hid (Pz.nr x5=Pc.tree (L.drop 3)∧ExAt w6 x5.b x5.o x5.a x5.k∧yS x5.a x5.k):=⟨X5.out.1,X5.out.2.1.next hbx,X5.out.2.2.2⟩;have TBG:Hid (w.heap.size≤w5.heap.size):=B5.out.size;have htb:=block_lt_of_cell e0;generalize w5.heap.size=tb at *;have htb2:tb < w6.heap.size:=htb;clear htb X5 hbx hbd0 DV
         have XE:Hid (∀wq,Ext w6.drew wq→wq.cell? ⟨tb,0,none⟩=some (.int .i64 x5.a.op)∧wq.cell? ⟨tb,1,none⟩=some (.int .i64 x5.a.num)∧wq.cell? ⟨tb,2,none⟩=some (.string x5.a.name)∧wq.cell? ⟨tb,3,none⟩=some (.slice x5.a.ptr (len x5.k) x5.a.cap)):=fun wq hq=>(by
          have hb:Below w6.heap.size w6 wq:=((Below.refl _ _).drew).trans (Below.mono hq (by simp));exact⟨qb e0 hb,qb e1 hb,qb e2 hb,qb e3 hb⟩)
         have TC0:Hid (∀wq,Ext w6.drew wq→wq.cell? ⟨g,O+0 * 4+1,none⟩=some (.string tx)):=fun wq hq=>(by
          have hb:Below w6.heap.size w6 wq:=((Below.refl _ _).drew).trans (Below.mono hq (by simp));have q:=T0.out wq (B6.out.trans (hb.mono B6.out.size));rw[show O+0 * 4+1=O+1 by omega];exact q)
         obtain⟨ir,hir,hir0,hir1,hir2⟩:=info_parts Tryz.infoCoP;have P6:=hid (PV.out.next B6.out);obtain⟨pv,cv,hv⟩:∃pv cv,vs 2=.slice pv D.os.length cv:=qS (P6.out.rows.ow 2);have HV:=hid hv;clear hv;have EX:Hid (∀wq,Ext w6.drew wq→Below w.heap.size w wq):=fun wq hq=>(B6.out.drew).trans (Below.mono hq (by have:=B6.out.size;simpa using this));have PX:Hid (∀wq,Ext w6.drew wq→PcV wq bs cb sb c vs D):=fun wq hq=>PV.out.next (EX.out wq hq)
         have EXN:Hid (∀wq,Ext w6.drew wq→Below w6.heap.size w6 wq):=fun wq hq=>((Below.refl _ _).drew).trans (Below.mono hq (by simp));have HB0:Hid (w6.heap.size≤w6.drew.heap.size):=(by unfold Hid;simp);have OB:Hid (bs≤w6.heap.size∧cb < bs):=⟨Nat.le_trans LB.out.2 B6.out.size,LB.out.1⟩;have CB:Hid (∀wq,Ext w6.drew wq→wq.cell? ⟨cb,9,none⟩=some (.slice pv D.os.length cv)):=fun wq hq=>by rw[← HV.out];exact(PX.out wq hq).box.c9
         refine yN UZ (coxG cb g O L.length cap D.os.length cv w6.heap.size pv tb x5 tx sc) 13 16 (fun x w1 w'=>∃pn cn,x 160=.slice pn (D.os.length+1) cn∧w'.ownsRow bs 89 5 (.slice pn (D.os.length+1) cn) (D.os.length+1) (D.os.flatMap zj++zj ⟨sc,x5.b,x5.o,x5.a,x5.k⟩)∧w1.grownBy w' (vs 2).ownBlock∧((Value.slice pn (D.os.length+1) cn).ownBlock=(vs 2).ownBlock∨(Value.slice pn (D.os.length+1) cn).ownBlock=some w1.heap.size)) (fun x w1 w'=>∃pn cn we,w'=we.setCell ⟨cb,9,none⟩ (.slice pn (D.os.length+1) cn)∧we.ownsRow bs 89 5 (.slice pn (D.os.length+1) cn) (D.os.length+1) (D.os.flatMap zj++zj ⟨sc,x5.b,x5.o,x5.a,x5.k⟩)∧w1.grownBy we (vs 2).ownBlock∧((Value.slice pn (D.os.length+1) cn).ownBlock=(vs 2).ownBlock∨(Value.slice pn (D.os.length+1) cn).ownBlock=some w1.heap.size)) (by kernel_rfl) (by kernel_rfl) (fun i v w w' h he=>Wl.ext h he) (fun i=>decide (i≠0∧i≠14∧i≠15∧i < 13)) (by kernel_rfl) (by kernel_rfl) (by decide) ?hst ?hpu ?hla ?hyo ?hfin
         case hst =>
          intro i o ho hz hy
          match i,ho with
          | 0,ho=>exact qI ho fun a w3 hx qq qa=>⟨rfl,_,run_move (.tmp 0) (.pointer (some ⟨cb,0,none⟩)) (qq 0 rfl),rfl⟩
          | 1,ho=>exact qI ho fun a w3 hx qq qa=>⟨rfl,_,run_move (.tmp 0) (.pointer (some ⟨cb,0,none⟩)) (qq 0 rfl),rfl⟩
          | 2,ho=>exact qI ho fun a w3 hx qq qa=>⟨rfl,_,qL (.tmp 148) ⟨cb,0,none⟩ (qa 148 1 rfl rfl),rfl⟩
          | 3,ho=>exact qI ho fun a w3 hx qq qa=>⟨rfl,_,yX (.tmp 149) cb 0 9 (by decide) (qa 149 2 rfl rfl),rfl⟩
          | 4,ho=>exact qI ho fun a w3 hx qq qa=>⟨rfl,_,ye (.tmp 150) ⟨cb,9,none⟩ 39 (by decide) _ (qa 150 3 rfl rfl) (CB.out w3 hx),rfl⟩
          | 5,ho=>exact qI ho fun a w3 hx qq qa=>⟨rfl,_,run_move (.tmp 2) (.slice (some ⟨g,O,none⟩) L.length cap) (qq 2 rfl),rfl⟩
          | 6,ho=>exact qI ho fun a w3 hx qq qa=>⟨rfl,_,yI (.tmp 152) g O L.length cap 0 rfl LL.out (qa 152 5 rfl rfl),rfl⟩
          | 7,ho=>exact qI ho fun a w3 hx qq qa=>⟨rfl,_,yA (.tmp 153) g (O+0 * 4) 1 (by decide) (qa 153 6 rfl rfl),rfl⟩
          | 8,ho=>exact qI ho fun a w3 hx qq qa=>⟨rfl,_,ye (.tmp 154) ⟨g,O+0 * 4+1,none⟩ 9 (by decide) (.string tx) (qa 154 7 rfl rfl) (TC0.out w3 hx),rfl⟩
          | 9,ho=>obtain rfl:=inj ho;intro a w3 hx qq qa qM;have h9:a.tmps.getD 155 undef=.string tx:=qa 155 8 rfl rfl;exact⟨rfl,zx (zy _ #[.string tx] _ Tryz.func99 (by kernel_rfl) rfl rfl (by rw[KI];exact congrArg (fun z=>#[z]) h9)) ((SC.out w3).mono (by rintro e w9 ⟨rfl,rfl⟩;exact⟨_,rfl,Ext.refl _,rfl⟩))⟩
          | 10,ho=>exact qI ho fun a w3 hx qq qa=>⟨rfl,_,jv (.tmp 13) tb _ _ _ _ (qq 13 rfl) (XE.out w3 hx).1 (XE.out w3 hx).2.1 (XE.out w3 hx).2.2.1 (XE.out w3 hx).2.2.2,rfl⟩
          | 11,ho=>exact qI ho fun a w3 hx qq qa=>⟨rfl,_,xI (.tmp 156) (.tmp 157) sc _ _ _ _ (qa 156 9 rfl rfl) (qa 157 10 rfl rfl),rfl⟩
          | 12,ho=>obtain rfl:=inj ho;intro a w3 hx qq qa qM;have hz:=(hx.size:(w6.drew).heap.size≤w3.heap.size);exact⟨rfl,yL (uT (.tmp 158) (.int .i64 sc) (.int .i64 x5.a.op) (.int .i64 x5.a.num) (.string x5.a.name) (.slice x5.a.ptr (len x5.k) x5.a.cap) (qa 158 11 rfl rfl)) (Ext.alloc _ _) (kv w3 w6.heap.size (Nat.le_trans HB0.out hz) (.int .i64 sc) (.int .i64 x5.a.op) (.int .i64 x5.a.num) (.string x5.a.name) (.slice x5.a.ptr (len x5.k) x5.a.cap) _)⟩
          | 13,ho=>exact absurd rfl hz
          | 14,ho=>exact qI ho fun a w3 hx qq qa=>⟨rfl,_,qL (.tmp 147) ⟨cb,0,none⟩ (qa 147 0 rfl rfl),rfl⟩
          | 15,ho=>exact qI ho fun a w3 hx qq qa=>⟨rfl,_,yX (.tmp 161) cb 0 9 (by decide) (qa 161 14 rfl rfl),rfl⟩
          | 16,ho=>exact absurd rfl hy
          | i+17,ho=>cases ho
         case hpu =>
          intro i o ho hz hy
          match i,ho with
          | 0,ho=>obtain rfl:=inj ho;refine .inr ?_;intro a w1 w3 hx yD qq qa qM hf;exact⟨rfl,qD (run_move (.tmp 0) (.pointer (some ⟨cb,0,none⟩)) (qq 0 rfl)) ⟨_,rfl,rfl,fun _=>rfl,jj (by decide) hf⟩⟩
          | 1,ho=>exact .inl rfl
          | 2,ho=>exact .inl rfl
          | 3,ho=>exact .inl rfl
          | 4,ho=>exact .inl rfl
          | 5,ho=>exact .inl rfl
          | 6,ho=>exact .inl rfl
          | 7,ho=>exact .inl rfl
          | 8,ho=>exact .inl rfl
          | 9,ho=>exact .inl rfl
          | 10,ho=>exact .inl rfl
          | 11,ho=>exact .inl rfl
          | 12,ho=>exact .inl rfl
          | 13,ho=>exact absurd rfl hz
          | 14,ho=>obtain rfl:=inj ho;refine .inr ?_;intro a w1 w3 hx yD qq qa qM hf;exact⟨rfl,qD (qL (.tmp 147) ⟨cb,0,none⟩ (qa 147 0 rfl rfl)) ⟨_,rfl,rfl,fun _=>rfl,jj (by decide) hf⟩⟩
          | 15,ho=>obtain rfl:=inj ho;refine .inr ?_;intro a w1 w3 hx yD qq qa qM hf;exact⟨rfl,qD (yX (.tmp 161) cb 0 9 (by decide) (qa 161 14 rfl rfl)) ⟨_,rfl,rfl,fun _=>rfl,jj (by decide) hf⟩⟩
          | 16,ho=>exact absurd rfl hy
          | i+17,ho=>cases ho
         case hla =>
          intro o ho;obtain rfl:=inj ho;intro a w3 hx yD qq qa qM;obtain⟨b,h1,h2,h3,h4⟩:=(qa 159 12 rfl rfl:(Wl.row w6.heap.size (zj ⟨sc,x5.b,x5.o,x5.a,x5.k⟩)).ok (a.tmps.getD 159 undef) w3);have h5:a.tmps.getD 151 undef=.slice pv D.os.length cv:=qa 151 4 rfl rfl;have PQ:=PX.out w3 hx;have OW:w3.ownsRow bs 89 5 (.slice pv D.os.length cv) D.os.length (D.os.flatMap zj):=(by have q:=PQ.rows.ow 2;rw[← HV.out];exact q);refine⟨rfl,?_⟩;refine yp w3 rfl (.tmp 151) (.tmp 159) 39 rfl bs 89 ir (.agg #[.int .i64 0,.int .i64 0,.int .i64 0,.string ⟨#[]⟩,.slice none 0 0]) 5 64 Tryz.underlying39 hir hir0 hir1 hir2 rfl (by decide) (.slice pv D.os.length cv) D.os.length (D.os.flatMap zj) h5 OW ⟨b,0,none⟩ 1 1 (zj ⟨sc,x5.b,x5.o,x5.a,x5.k⟩) h1 rfl (fun j u hj=>by have q:=h4 j u hj;by_cases e:j=0;(subst e;simpa [Addr.add] using q);simpa [Addr.add,e] using q) (v8 _) (by have:=LD.out;unfold maxLen;omega) (by have:=LD.out;omega) (by have q1:=OB.out;have q2:w6.drew.heap.size≤w3.heap.size:=hx.size;have q3:=HB0.out;omega) ?_;intro v' w' qB qe hob;obtain⟨pn,cn,hvn⟩:=qS qB;subst hvn;refine⟨_,rfl,fun _=>trivial,pn,cn,?_,qB,by rw[HV.out];exact qe,by rw[HV.out];exact hob⟩
          show(a.put (some 160) _).tmps.getD 160 undef=_
          rw[yj,if_pos ⟨rfl,by rw[yD];exact(show(160:Nat) < 335 from by decide)⟩]
         case hyo =>
          intro o ho;obtain rfl:=inj ho;intro a w1 w3 hx yD qq qa qM hf;obtain⟨pn,cn,h1,qB,qe,hob⟩:=hf;have h2:a.tmps.getD 162 undef=.pointer (some ⟨cb,9,none⟩):=qa 162 15 rfl rfl;have PQ:=PX.out w1 hx;have GB:=PQ.box.grown qe (by rw[HV.out];exact fun e'=>by have q:=((PQ.rows.ow 2).lt cb (by show(vs 2).ownBlock=_;rw[HV.out];exact e'.symm)).1;have:=OB.out;omega);exact⟨rfl,yV (zJ (.tmp 162) (.tmp 160) ⟨cb,9,none⟩ 39 (by decide) pn _ cn _ h2 h1 GB.c9 GB.f9) ⟨undef,rfl,fun h=>absurd h (by decide),pn,cn,w3,rfl,qB,qe,hob⟩⟩
         case hfin =>
          rintro x w1 w9 h1 h2 ⟨pn,cn,we,rfl,qB,qe,hob⟩;have APP:=hid (PcV.app2 (PX.out w1 h1) ⟨sc,x5.b,x5.o,x5.a,x5.k⟩ (X6.out.2.1.next (EXN.out w1 h1)) (A5.out) (⟨X6.out.2.2,show Bd sc by unfold Bd;omega⟩) qB qe hob);have BEL:Hid (∀m,m≤cb→m≤bs→m≤w.heap.size→Below m w (we.setCell ⟨cb,9,none⟩ (.slice pn (D.os.length+1) cn))):=(fun m q1 q2 q3=>yE (qP (EX.out w1 h1) q3) q3 qe (fun g' e'=>Nat.le_trans q2 (((PX.out w1 h1).rows.ow 2).lt g' e').1) q1 _ _);clear h1 h2 qB qe hob;generalize we.setCell ⟨cb,9,none⟩ (.slice pn (D.os.length+1) cn)=w9 at *;dsimp only[frameT,UZ,List.foldl];generalize x 147=q147;generalize x 148=q148;generalize x 149=q149;generalize x 150=q150;generalize x 151=q151;generalize x 152=q152;generalize x 153=q153;generalize x 154=q154;generalize x 155=q155;generalize x 156=q156;generalize x 157=q157;generalize x 158=q158;generalize x 159=q159;generalize x 160=q160;generalize x 161=q161;generalize x 162=q162;clear x;go_simp;go_wp2_with fail;go_ret;exact kV RQ.out (by have q:=APP.out;rw[show Pz.nr (kj ⟨sc,x5.b,x5.o,x5.a,x5.k⟩)=Pc.tree _ from X6.out.1] at q;exact q) (fun m q1 q2 q3 q4=>BEL.out m q1 q3 q4)
  | true =>
    have ct:=vd a (b:=Pc.wCost) (by decide);have cr:=vd a (b:=Pc.wCredit) (by decide);cases b:Pc.nmd L 2 with
    | false =>
      by_cases hd:tx=Pc.wDuty
      ·
       have nd:tx.toList=[100,117,116,121]:=xG hd;have HD:=hid hd;clear hd;have RQ:Hid (R=(c,1)):=(by unfold Hid;rw[REST.out];unfold restT;simp[hsc,hz,hnc,hnl,hno,HD.out,a,ct,cr,b,yd]);go_upto_region 20 with (first|(go_at_call 97;refine(yU a (TA.out _ (by exact B2.out))).mono ?_;rintro e w' ⟨rfl,rfl⟩;clear a)|(go_at_call 96;refine(zM HS.out b (TA.out _ (by exact B2.out))).mono ?_;rintro e w2 ⟨rfl,hb2⟩;have B3:=hid (B2.out.trans (hb2.mono B2.out.size));have tc3:=T0.out _ B3.out;clear hb2 tc2 b)|(go_at_call 99;refine(SC.out _).mono ?_;rintro e w' ⟨rfl,rfl⟩));go_upto_region 25 with (first|(go_at_call 97;refine(yU ct (TA.out _ (by exact B3.out))).mono ?_;rintro e w' ⟨rfl,rfl⟩;clear ct)|(go_at_call 99;refine(SC.out _).mono ?_;rintro e w' ⟨rfl,rfl⟩));go_wp2_with (go_at_call 97;refine(yU cr (TA.out _ (by exact B3.out))).mono ?_;rintro e w' ⟨rfl,rfl⟩;clear cr);go_ret;exact qY RQ.out (by decide) (by exact B3.out)
      ·
       have nd:¬tx.toList=[100,117,116,121]:=j7 hd;have HD:=hid hd;clear hd;have RQ:Hid (R=(c,1)):=(by unfold Hid;rw[REST.out];unfold restT;simp[hsc,hz,hnc,hnl,hno,HD.out,a,ct,cr,b,yd]);go_upto_region 20 with (first|(go_at_call 97;refine(yU a (TA.out _ (by exact B2.out))).mono ?_;rintro e w' ⟨rfl,rfl⟩;clear a)|(go_at_call 96;refine(zM HS.out b (TA.out _ (by exact B2.out))).mono ?_;rintro e w2 ⟨rfl,hb2⟩;have B3:=hid (B2.out.trans (hb2.mono B2.out.size));have tc3:=T0.out _ B3.out;clear hb2 tc2 b)|(go_at_call 99;refine(SC.out _).mono ?_;rintro e w' ⟨rfl,rfl⟩));go_upto_region 25 with (first|(go_at_call 97;refine(yU ct (TA.out _ (by exact B3.out))).mono ?_;rintro e w' ⟨rfl,rfl⟩;clear ct)|(go_at_call 99;refine(SC.out _).mono ?_;rintro e w' ⟨rfl,rfl⟩));go_wp2_with (first|(go_at_call 99;refine(SC.out _).mono ?_;rintro e w' ⟨rfl,rfl⟩));go_ret;exact qY RQ.out (by decide) (by exact B3.out)
    | true =>
      cases e:Pc.isW L 3 Pc.wIs with
      | false =>
        by_cases hd:tx=Pc.wDuty
        ·
         have nd:tx.toList=[100,117,116,121]:=xG hd;have HD:=hid hd;clear hd;have RQ:Hid (R=(c,1)):=(by unfold Hid;rw[REST.out];unfold restT;simp[hsc,hz,hnc,hnl,hno,HD.out,a,ct,cr,b,e,yd]);go_upto_region 20 with (first|(go_at_call 97;refine(yU a (TA.out _ (by exact B2.out))).mono ?_;rintro e w' ⟨rfl,rfl⟩;clear a)|(go_at_call 96;refine(zM HS.out b (TA.out _ (by exact B2.out))).mono ?_;rintro e w2 ⟨rfl,hb2⟩;have B3:=hid (B2.out.trans (hb2.mono B2.out.size));have tc3:=T0.out _ B3.out;clear hb2 tc2 b)|(go_at_call 97;refine(yU e (TA.out _ (by exact B3.out))).mono ?_;rintro e w' ⟨rfl,rfl⟩;clear e)|(go_at_call 99;refine(SC.out _).mono ?_;rintro e w' ⟨rfl,rfl⟩));go_upto_region 25 with (first|(go_at_call 97;refine(yU ct (TA.out _ (by exact B3.out))).mono ?_;rintro e w' ⟨rfl,rfl⟩;clear ct)|(go_at_call 99;refine(SC.out _).mono ?_;rintro e w' ⟨rfl,rfl⟩));go_wp2_with (go_at_call 97;refine(yU cr (TA.out _ (by exact B3.out))).mono ?_;rintro e w' ⟨rfl,rfl⟩;clear cr);go_ret;exact qY RQ.out (by decide) (by exact B3.out)
        ·
         have nd:¬tx.toList=[100,117,116,121]:=j7 hd;have HD:=hid hd;clear hd;have RQ:Hid (R=(c,1)):=(by unfold Hid;rw[REST.out];unfold restT;simp[hsc,hz,hnc,hnl,hno,HD.out,a,ct,cr,b,e,yd]);go_upto_region 20 with (first|(go_at_call 97;refine(yU a (TA.out _ (by exact B2.out))).mono ?_;rintro e w' ⟨rfl,rfl⟩;clear a)|(go_at_call 96;refine(zM HS.out b (TA.out _ (by exact B2.out))).mono ?_;rintro e w2 ⟨rfl,hb2⟩;have B3:=hid (B2.out.trans (hb2.mono B2.out.size));have tc3:=T0.out _ B3.out;clear hb2 tc2 b)|(go_at_call 97;refine(yU e (TA.out _ (by exact B3.out))).mono ?_;rintro e w' ⟨rfl,rfl⟩;clear e)|(go_at_call 99;refine(SC.out _).mono ?_;rintro e w' ⟨rfl,rfl⟩));go_upto_region 25 with (first|(go_at_call 97;refine(yU ct (TA.out _ (by exact B3.out))).mono ?_;rintro e w' ⟨rfl,rfl⟩;clear ct)|(go_at_call 99;refine(SC.out _).mono ?_;rintro e w' ⟨rfl,rfl⟩));go_wp2_with (first|(go_at_call 99;refine(SC.out _).mono ?_;rintro e w' ⟨rfl,rfl⟩));go_ret;exact qY RQ.out (by decide) (by exact B3.out)
      | true =>
        by_cases hbd:0≤yM (L.drop 4)
        ·
         have RQ:Hid (R=(c,1)):=(by unfold Hid;rw[REST.out];unfold restT;simp[hsc,hz,hnc,hnl,hno,a,b,e,Pc.ifEx,hbd,yd]);have HL3:Hid (4≤L.length):=isw_lt e;have TE:=hid (KR 4 HVV.out H40.out TA.out);have DV:Hid ((∀t∈ L.drop 4,VT t.t)∧(L.drop 4).length≤400):=⟨fun t ht=>HVV.out t (List.mem_of_mem_drop ht),by have:=H40.out;rw[List.length_drop];omega⟩;have HBD:=hid hbd;have hl3:=HL3.out;go_upto_region 16 with (first|(go_at_call 97;refine(yU a (TA.out _ (by exact B2.out))).mono ?_;rintro e w' ⟨rfl,rfl⟩;clear a)|(go_at_call 96;refine(zM HS.out b (TA.out _ (by exact B2.out))).mono ?_;rintro e w2 ⟨rfl,hb2⟩;have B3:=hid (B2.out.trans (hb2.mono B2.out.size));have tc3:=T0.out _ B3.out;clear hb2 tc2 b)|(go_at_call 97;refine(yU e (TA.out _ (by exact B3.out))).mono ?_;rintro e w' ⟨rfl,rfl⟩;clear e)|(go_at_call 99;refine(SC.out _).mono ?_;rintro e w' ⟨rfl,rfl⟩));go_wp2_with ((go_at_call 98;refine(TE.out _ _ _ (by exact B3.out) (by have q1:=HL3.out;have q2:=HCP.out;first|exact .inl rfl|exact .inr (by omega)|(split;exact .inr (by omega);exact .inl rfl))).mono ?_;rintro e w5 h5;obtain⟨x5,rfl,hb5,hx5⟩:=zr DV.out.1 DV.out.2 h5;clear h5 TE;have B5:=hid (Below.trans (by exact B3.out) (hb5.mono (by exact B3.out.size)));clear hx5 hb5;generalize yM _=bd at *;have hbd0:=HBD.out))
         all_goals
          go_ret;exact qY RQ.out (by decide) (B5.out.trans ((ya _ _).mono B5.out.size))
        ·
         replace hbd:yM (L.drop 4) < 0:=by omega
         have RQ:Hid (R=({ c with rs:=c.rs++[(sc,(Pc.tok L 2).text,Pc.tree (L.drop 4))] },0)):=(by unfold Hid;rw[REST.out];unfold restT;simp[hsc,hz,hnc,hnl,hno,a,b,e,Pc.ifEx,show ¬ 0≤yM (L.drop 4) from by omega,yd]);have HL3:Hid (4≤L.length):=isw_lt e;have TE:=hid (KR 4 HVV.out H40.out TA.out);have DV:Hid ((∀t∈ L.drop 4,VT t.t)∧(L.drop 4).length≤400):=⟨fun t ht=>HVV.out t (List.mem_of_mem_drop ht),by have:=H40.out;rw[List.length_drop];omega⟩;have HBD:=hid hbd;have hl3:=HL3.out
         have hcp:¬cap=4:=by
          have q1:=HCP.out;intro q;have q2:L.drop 4=[]:=List.drop_eq_nil_of_le (by omega);rw[q2,kO] at hbd;omega
         have ix2:(2:Int) < (L.length:Int):=(by omega);have IX2:Hid (2 < L.length):=(by unfold Hid;omega);have TK21:Hid (∀wq,Below w.heap.size w wq→wq.cell? ⟨g,O+2 * 4+1,none⟩=some (.string (Pc.tok L 2).text)):=fun wq hb=>(Qh (TA.out wq hb) IX2.out).1;have NS21:Hid ((Pc.tok L 2).text.size≤9223372036854775807):=xF HS.out 2;obtain⟨t21,ht21⟩:∃z,(Pc.tok L 2).text=z:=⟨_,rfl⟩;rw[ht21] at TK21 NS21 RQ;have LD:Hid (D.rs.length≤1000):=(by have q:=PV.out.len;have:=LC.out;unfold Hid;omega);go_upto_region 16 with (first|(go_at_call 97;refine(yU a (TA.out _ (by exact B2.out))).mono ?_;rintro e w' ⟨rfl,rfl⟩;clear a)|(go_at_call 96;refine(zM HS.out b (TA.out _ (by exact B2.out))).mono ?_;rintro e w2 ⟨rfl,hb2⟩;have B3:=hid (B2.out.trans (hb2.mono B2.out.size));have tc3:=T0.out _ B3.out;clear hb2 tc2 b)|(go_at_call 97;refine(yU e (TA.out _ (by exact B3.out))).mono ?_;rintro e w' ⟨rfl,rfl⟩;clear e)|(go_at_call 99;refine(SC.out _).mono ?_;rintro e w' ⟨rfl,rfl⟩));go_upto_region 19 with ((go_at_call 98;refine(TE.out _ _ _ (by exact B3.out) (by have q1:=HL3.out;have q2:=HCP.out;first|exact .inl rfl|exact .inr (by omega)|(split;exact .inr (by omega);exact .inl rfl))).mono ?_;rintro e w5 h5;obtain⟨x5,rfl,hb5,hx5⟩:=zr DV.out.1 DV.out.2 h5;clear h5 TE;have B5:=hid (Below.trans (by exact B3.out) (hb5.mono (by exact B3.out.size)));have X5:=hid (hx5 HBD.out);have A5:=hid ((PV.out.next (by exact B3.out)).av X5.out.2.2.1);clear hx5 hb5;have hbd0:=HBD.out;generalize yM _=bd at *));obtain⟨w6,hw6,hbx,e0,e1,e2,e3⟩:=jn w5 x5;rw[hw6];clear hw6;have B6:=hid (B5.out.trans (hbx.mono B5.out.size));have X6:Hid (Pz.nr x5=Pc.tree (L.drop 4)∧ExAt w6 x5.b x5.o x5.a x5.k∧yS x5.a x5.k):=⟨X5.out.1,X5.out.2.1.next hbx,X5.out.2.2.2⟩;have TBG:Hid (w.heap.size≤w5.heap.size):=B5.out.size;have htb:=block_lt_of_cell e0;generalize w5.heap.size=tb at *;have htb2:tb < w6.heap.size:=htb;clear htb X5 hbx hbd0 DV
         have XE:Hid (∀wq,Ext w6.drew wq→wq.cell? ⟨tb,0,none⟩=some (.int .i64 x5.a.op)∧wq.cell? ⟨tb,1,none⟩=some (.int .i64 x5.a.num)∧wq.cell? ⟨tb,2,none⟩=some (.string x5.a.name)∧wq.cell? ⟨tb,3,none⟩=some (.slice x5.a.ptr (len x5.k) x5.a.cap)):=fun wq hq=>(by
          have hb:Below w6.heap.size w6 wq:=((Below.refl _ _).drew).trans (Below.mono hq (by simp));exact⟨qb e0 hb,qb e1 hb,qb e2 hb,qb e3 hb⟩)
         have TC0:Hid (∀wq,Ext w6.drew wq→wq.cell? ⟨g,O+0 * 4+1,none⟩=some (.string tx)):=fun wq hq=>(by
          have hb:Below w6.heap.size w6 wq:=((Below.refl _ _).drew).trans (Below.mono hq (by simp));have q:=T0.out wq (B6.out.trans (hb.mono B6.out.size));rw[show O+0 * 4+1=O+1 by omega];exact q)
         obtain⟨ir,hir,hir0,hir1,hir2⟩:=info_parts Tryz.infoRuP;have P6:=hid (PV.out.next B6.out);obtain⟨pv,cv,hv⟩:∃pv cv,vs 1=.slice pv D.rs.length cv:=qS (P6.out.rows.ow 1);have HV:=hid hv;clear hv;have EX:Hid (∀wq,Ext w6.drew wq→Below w.heap.size w wq):=fun wq hq=>(B6.out.drew).trans (Below.mono hq (by have:=B6.out.size;simpa using this));have PX:Hid (∀wq,Ext w6.drew wq→PcV wq bs cb sb c vs D):=fun wq hq=>PV.out.next (EX.out wq hq)
         have EXN:Hid (∀wq,Ext w6.drew wq→Below w6.heap.size w6 wq):=fun wq hq=>((Below.refl _ _).drew).trans (Below.mono hq (by simp));have HB0:Hid (w6.heap.size≤w6.drew.heap.size):=(by unfold Hid;simp);have OB:Hid (bs≤w6.heap.size∧cb < bs):=⟨Nat.le_trans LB.out.2 B6.out.size,LB.out.1⟩;have CB:Hid (∀wq,Ext w6.drew wq→wq.cell? ⟨cb,8,none⟩=some (.slice pv D.rs.length cv)):=fun wq hq=>by rw[← HV.out];exact(PX.out wq hq).box.c8
         have TC21:Hid (∀wq,Ext w6.drew wq→wq.cell? ⟨g,O+2 * 4+1,none⟩=some (.string t21)):=fun wq hq=>TK21.out wq (EX.out wq hq);refine yN UJ (ruxG cb g O L.length cap D.rs.length cv w6.heap.size pv t21 tb x5 tx sc) 17 20 (fun x w1 w'=>∃pn cn,x 121=.slice pn (D.rs.length+1) cn∧w'.ownsRow bs 87 6 (.slice pn (D.rs.length+1) cn) (D.rs.length+1) (D.rs.flatMap zh++zh ⟨sc,t21,x5.b,x5.o,x5.a,x5.k⟩)∧w1.grownBy w' (vs 1).ownBlock∧((Value.slice pn (D.rs.length+1) cn).ownBlock=(vs 1).ownBlock∨(Value.slice pn (D.rs.length+1) cn).ownBlock=some w1.heap.size)) (fun x w1 w'=>∃pn cn we,w'=we.setCell ⟨cb,8,none⟩ (.slice pn (D.rs.length+1) cn)∧we.ownsRow bs 87 6 (.slice pn (D.rs.length+1) cn) (D.rs.length+1) (D.rs.flatMap zh++zh ⟨sc,t21,x5.b,x5.o,x5.a,x5.k⟩)∧w1.grownBy we (vs 1).ownBlock∧((Value.slice pn (D.rs.length+1) cn).ownBlock=(vs 1).ownBlock∨(Value.slice pn (D.rs.length+1) cn).ownBlock=some w1.heap.size)) (by kernel_rfl) (by kernel_rfl) (fun i v w w' h he=>Wl.ext h he) (fun i=>decide (i≠0∧i≠18∧i≠19∧i < 17)) (by kernel_rfl) (by kernel_rfl) (by decide) ?hst ?hpu ?hla ?hyo ?hfin
         case hst =>
          intro i o ho hz hy
          match i,ho with
          | 0,ho=>exact qI ho fun a w3 hx qq qa=>⟨rfl,_,run_move (.tmp 0) (.pointer (some ⟨cb,0,none⟩)) (qq 0 rfl),rfl⟩
          | 1,ho=>exact qI ho fun a w3 hx qq qa=>⟨rfl,_,run_move (.tmp 0) (.pointer (some ⟨cb,0,none⟩)) (qq 0 rfl),rfl⟩
          | 2,ho=>exact qI ho fun a w3 hx qq qa=>⟨rfl,_,qL (.tmp 105) ⟨cb,0,none⟩ (qa 105 1 rfl rfl),rfl⟩
          | 3,ho=>exact qI ho fun a w3 hx qq qa=>⟨rfl,_,yX (.tmp 106) cb 0 8 (by decide) (qa 106 2 rfl rfl),rfl⟩
          | 4,ho=>exact qI ho fun a w3 hx qq qa=>⟨rfl,_,ye (.tmp 107) ⟨cb,8,none⟩ 38 (by decide) _ (qa 107 3 rfl rfl) (CB.out w3 hx),rfl⟩
          | 5,ho=>exact qI ho fun a w3 hx qq qa=>⟨rfl,_,run_move (.tmp 2) (.slice (some ⟨g,O,none⟩) L.length cap) (qq 2 rfl),rfl⟩
          | 6,ho=>exact qI ho fun a w3 hx qq qa=>⟨rfl,_,yI (.tmp 109) g O L.length cap 0 rfl LL.out (qa 109 5 rfl rfl),rfl⟩
          | 7,ho=>exact qI ho fun a w3 hx qq qa=>⟨rfl,_,yA (.tmp 110) g (O+0 * 4) 1 (by decide) (qa 110 6 rfl rfl),rfl⟩
          | 8,ho=>exact qI ho fun a w3 hx qq qa=>⟨rfl,_,ye (.tmp 111) ⟨g,O+0 * 4+1,none⟩ 9 (by decide) (.string tx) (qa 111 7 rfl rfl) (TC0.out w3 hx),rfl⟩
          | 9,ho=>obtain rfl:=inj ho;intro a w3 hx qq qa qM;have h9:a.tmps.getD 112 undef=.string tx:=qa 112 8 rfl rfl;exact⟨rfl,zx (zy _ #[.string tx] _ Tryz.func99 (by kernel_rfl) rfl rfl (by rw[KI];exact congrArg (fun z=>#[z]) h9)) ((SC.out w3).mono (by rintro e w9 ⟨rfl,rfl⟩;exact⟨_,rfl,Ext.refl _,rfl⟩))⟩
          | 10,ho=>exact qI ho fun a w3 hx qq qa=>⟨rfl,_,run_move (.tmp 2) (.slice (some ⟨g,O,none⟩) L.length cap) (qq 2 rfl),rfl⟩
          | 11,ho=>exact qI ho fun a w3 hx qq qa=>⟨rfl,_,yI (.tmp 114) g O L.length cap 2 rfl IX2.out (qa 114 10 rfl rfl),rfl⟩
          | 12,ho=>exact qI ho fun a w3 hx qq qa=>⟨rfl,_,yA (.tmp 115) g (O+2 * 4) 1 (by decide) (qa 115 11 rfl rfl),rfl⟩
          | 13,ho=>exact qI ho fun a w3 hx qq qa=>⟨rfl,_,ye (.tmp 116) ⟨g,O+2 * 4+1,none⟩ 9 (by decide) (.string t21) (qa 116 12 rfl rfl) (TC21.out w3 hx),rfl⟩
          | 14,ho=>exact qI ho fun a w3 hx qq qa=>⟨rfl,_,jv (.tmp 11) tb _ _ _ _ (qq 11 rfl) (XE.out w3 hx).1 (XE.out w3 hx).2.1 (XE.out w3 hx).2.2.1 (XE.out w3 hx).2.2.2,rfl⟩
          | 15,ho=>exact qI ho fun a w3 hx qq qa=>⟨rfl,_,xH (.tmp 113) (.tmp 117) (.tmp 118) sc t21 _ _ _ _ (qa 113 9 rfl rfl) (qa 117 13 rfl rfl) (qa 118 14 rfl rfl),rfl⟩
          | 16,ho=>obtain rfl:=inj ho;intro a w3 hx qq qa qM;have hz:=(hx.size:(w6.drew).heap.size≤w3.heap.size);exact⟨rfl,yL (uS (.tmp 119) (.int .i64 sc) (.string t21) (.int .i64 x5.a.op) (.int .i64 x5.a.num) (.string x5.a.name) (.slice x5.a.ptr (len x5.k) x5.a.cap) (qa 119 15 rfl rfl)) (Ext.alloc _ _) (uK w3 w6.heap.size (Nat.le_trans HB0.out hz) (.int .i64 sc) (.string t21) (.int .i64 x5.a.op) (.int .i64 x5.a.num) (.string x5.a.name) (.slice x5.a.ptr (len x5.k) x5.a.cap) _)⟩
          | 17,ho=>exact absurd rfl hz
          | 18,ho=>exact qI ho fun a w3 hx qq qa=>⟨rfl,_,qL (.tmp 104) ⟨cb,0,none⟩ (qa 104 0 rfl rfl),rfl⟩
          | 19,ho=>exact qI ho fun a w3 hx qq qa=>⟨rfl,_,yX (.tmp 122) cb 0 8 (by decide) (qa 122 18 rfl rfl),rfl⟩
          | 20,ho=>exact absurd rfl hy
          | i+21,ho=>cases ho
         case hpu =>
          intro i o ho hz hy
          match i,ho with
          | 0,ho=>obtain rfl:=inj ho;refine .inr ?_;intro a w1 w3 hx yD qq qa qM hf;exact⟨rfl,qD (run_move (.tmp 0) (.pointer (some ⟨cb,0,none⟩)) (qq 0 rfl)) ⟨_,rfl,rfl,fun _=>rfl,jj (by decide) hf⟩⟩
          | 1,ho=>exact .inl rfl
          | 2,ho=>exact .inl rfl
          | 3,ho=>exact .inl rfl
          | 4,ho=>exact .inl rfl
          | 5,ho=>exact .inl rfl
          | 6,ho=>exact .inl rfl
          | 7,ho=>exact .inl rfl
          | 8,ho=>exact .inl rfl
          | 9,ho=>exact .inl rfl
          | 10,ho=>exact .inl rfl
          | 11,ho=>exact .inl rfl
          | 12,ho=>exact .inl rfl
          | 13,ho=>exact .inl rfl
          | 14,ho=>exact .inl rfl
          | 15,ho=>exact .inl rfl
          | 16,ho=>exact .inl rfl
          | 17,ho=>exact absurd rfl hz
          | 18,ho=>obtain rfl:=inj ho;refine .inr ?_;intro a w1 w3 hx yD qq qa qM hf;exact⟨rfl,qD (qL (.tmp 104) ⟨cb,0,none⟩ (qa 104 0 rfl rfl)) ⟨_,rfl,rfl,fun _=>rfl,jj (by decide) hf⟩⟩
          | 19,ho=>obtain rfl:=inj ho;refine .inr ?_;intro a w1 w3 hx yD qq qa qM hf;exact⟨rfl,qD (yX (.tmp 122) cb 0 8 (by decide) (qa 122 18 rfl rfl)) ⟨_,rfl,rfl,fun _=>rfl,jj (by decide) hf⟩⟩
          | 20,ho=>exact absurd rfl hy
          | i+21,ho=>cases ho
         case hla =>
          intro o ho;obtain rfl:=inj ho;intro a w3 hx yD qq qa qM;obtain⟨b,h1,h2,h3,h4⟩:=(qa 120 16 rfl rfl:(Wl.row w6.heap.size (zh ⟨sc,t21,x5.b,x5.o,x5.a,x5.k⟩)).ok (a.tmps.getD 120 undef) w3);have h5:a.tmps.getD 108 undef=.slice pv D.rs.length cv:=qa 108 4 rfl rfl;have PQ:=PX.out w3 hx;have OW:w3.ownsRow bs 87 6 (.slice pv D.rs.length cv) D.rs.length (D.rs.flatMap zh):=(by have q:=PQ.rows.ow 1;rw[← HV.out];exact q);refine⟨rfl,?_⟩;refine yp w3 rfl (.tmp 108) (.tmp 120) 38 rfl bs 87 ir (.agg #[.int .i64 0,.string ⟨#[]⟩,.int .i64 0,.int .i64 0,.string ⟨#[]⟩,.slice none 0 0]) 6 80 Tryz.underlying38 hir hir0 hir1 hir2 rfl (by decide) (.slice pv D.rs.length cv) D.rs.length (D.rs.flatMap zh) h5 OW ⟨b,0,none⟩ 1 1 (zh ⟨sc,t21,x5.b,x5.o,x5.a,x5.k⟩) h1 rfl (fun j u hj=>by have q:=h4 j u hj;by_cases e:j=0;(subst e;simpa [Addr.add] using q);simpa [Addr.add,e] using q) (v6 _) (by have:=LD.out;unfold maxLen;omega) (by have:=LD.out;omega) (by have q1:=OB.out;have q2:w6.drew.heap.size≤w3.heap.size:=hx.size;have q3:=HB0.out;omega) ?_;intro v' w' qB qe hob;obtain⟨pn,cn,hvn⟩:=qS qB;subst hvn;refine⟨_,rfl,fun _=>trivial,pn,cn,?_,qB,by rw[HV.out];exact qe,by rw[HV.out];exact hob⟩
          show(a.put (some 121) _).tmps.getD 121 undef=_
          rw[yj,if_pos ⟨rfl,by rw[yD];exact(show(121:Nat) < 335 from by decide)⟩]
         case hyo =>
          intro o ho;obtain rfl:=inj ho;intro a w1 w3 hx yD qq qa qM hf;obtain⟨pn,cn,h1,qB,qe,hob⟩:=hf;have h2:a.tmps.getD 123 undef=.pointer (some ⟨cb,8,none⟩):=qa 123 19 rfl rfl;have PQ:=PX.out w1 hx;have GB:=PQ.box.grown qe (by rw[HV.out];exact fun e'=>by have q:=((PQ.rows.ow 1).lt cb (by show(vs 1).ownBlock=_;rw[HV.out];exact e'.symm)).1;have:=OB.out;omega);exact⟨rfl,yV (zJ (.tmp 123) (.tmp 121) ⟨cb,8,none⟩ 38 (by decide) pn _ cn _ h2 h1 GB.c8 GB.f8) ⟨undef,rfl,fun h=>absurd h (by decide),pn,cn,w3,rfl,qB,qe,hob⟩⟩
         case hfin =>
          rintro x w1 w9 h1 h2 ⟨pn,cn,we,rfl,qB,qe,hob⟩;have APP:=hid (PcV.app1 (PX.out w1 h1) ⟨sc,t21,x5.b,x5.o,x5.a,x5.k⟩ (X6.out.2.1.next (EXN.out w1 h1)) (A5.out) (⟨X6.out.2.2,show Bd sc by unfold Bd;omega,NS21.out⟩) qB qe hob);have BEL:Hid (∀m,m≤cb→m≤bs→m≤w.heap.size→Below m w (we.setCell ⟨cb,8,none⟩ (.slice pn (D.rs.length+1) cn))):=(fun m q1 q2 q3=>yE (qP (EX.out w1 h1) q3) q3 qe (fun g' e'=>Nat.le_trans q2 (((PX.out w1 h1).rows.ow 1).lt g' e').1) q1 _ _);clear h1 h2 qB qe hob;generalize we.setCell ⟨cb,8,none⟩ (.slice pn (D.rs.length+1) cn)=w9 at *;dsimp only[frameT,UJ,List.foldl];generalize x 104=q104;generalize x 105=q105;generalize x 106=q106;generalize x 107=q107;generalize x 108=q108;generalize x 109=q109;generalize x 110=q110;generalize x 111=q111;generalize x 112=q112;generalize x 113=q113;generalize x 114=q114;generalize x 115=q115;generalize x 116=q116;generalize x 117=q117;generalize x 118=q118;generalize x 119=q119;generalize x 120=q120;generalize x 121=q121;generalize x 122=q122;generalize x 123=q123;clear x;go_simp;go_wp2_with fail;go_ret;exact kV RQ.out (by have q:=APP.out;rw[show Pz.nr (k7 ⟨sc,t21,x5.b,x5.o,x5.a,x5.k⟩)=Pc.tree _ from X6.out.1] at q;exact q) (fun m q1 q2 q3 q4=>BEL.out m q1 q3 q4)
end Go.Proofs.YtcejjdmnlejbaaaGreatDoor
