import Derived.Test.YtcejjdmnlejbaaaGreatDoorVCrW
namespace Go.Proofs.YtcejjdmnlejbaaaGreatDoor
open Lib(hid)
set_option linter.unusedVariables false
set_option linter.unusedSimpArgs false
open Go.ChangeShapes Go.WideShapes Go.ChangeAt Go.RowKit
open Go.Deep (BT)
set_option maxHeartbeats 8000000
set_option maxRecDepth 100000
theorem Yy(c:Ct)(p:Cp)(w:World)(hv:CtV w c p) :
 Calls Tryz.prog 25 #[.agg #[.int .i64 c.rep,.int .i64 c.rel,.int .i64 c.con,.int .i64 c.sit,.int .i64 c.lay,.int .i64 c.nf,.int .i64 c.nt,.slice p.cs c.cs.length p.ccs,.slice p.rs c.rs.length p.crs,.slice p.os c.os.length p.cos,.slice p.cr (len c.cr) p.ccr,.slice p.ls c.ls.length p.cls,.slice p.fs c.fs.length p.cfs,.int .i64 c.gua]] w fun e w'=>e=.returned (.int .i64 (yP c))∧Below w.heap.size w w':=by
 have HV:=hid hv;clear hv;obtain⟨R,hR⟩:∃R,yP c=R:=⟨_,rfl⟩;rw[hR];have GR:=hid (fun h=>(hR.symm.trans (Q7 c h)));have GB:=hid (fun h h2=>(hR.symm.trans (Q9 c h h2)));have GL:=hid (fun h h2=>(hR.symm.trans (Q8 c h h2)));have RE:=hid (QY c);clear hR;go_enter Tryz.func25,Tryz.ntmps25;go_upto_region 1 with (fail);have X0:=hid (CtBox.start w c p);have B0:Hid (Below w.heap.size w (w.alloc (.cells #[.int .i64 c.rep,.int .i64 c.rel,.int .i64 c.con,.int .i64 c.sit,.int .i64 c.lay,.int .i64 c.nf,.int .i64 c.nt,.slice p.cs c.cs.length p.ccs,.slice p.rs c.rs.length p.crs,.slice p.os c.os.length p.cos,.slice p.cr (len c.cr) p.ccr,.slice p.ls c.ls.length p.cls,.slice p.fs c.fs.length p.cfs,.int .i64 c.gua] 43))):=(Below.refl _ _).alloc (Nat.le_refl _) _;generalize w.alloc (.cells #[.int .i64 c.rep,.int .i64 c.rel,.int .i64 c.con,.int .i64 c.sit,.int .i64 c.lay,.int .i64 c.nf,.int .i64 c.nt,.slice p.cs c.cs.length p.ccs,.slice p.rs c.rs.length p.crs,.slice p.os c.os.length p.cos,.slice p.cr (len c.cr) p.ccr,.slice p.ls c.ls.length p.cls,.slice p.fs c.fs.length p.cfs,.int .i64 c.gua] 43)=w0 at *;obtain⟨c0,c1,c2,c3,c4,c5,c6,c7,c8,c9,c10,c11,c12,c13,qN⟩:=X0.out;cases h0:zD c.rep 0 1440
 case false =>
  have H0:=hid h0;have RQ:Hid (R=5):=GR.out (by rw[RE.out];simp[h0]);clear h0;go_wp2_with (go_at_call 61;refine(qR _ _ _ _).mono ?_;(first|rw[H0.out]);rintro e w2 ⟨rfl,rfl⟩);go_ret;exact⟨qh RQ.out.symm,B0.out⟩
 have H0:=hid h0;clear h0;cases h1:zD c.rel 0 1440
 case false =>
  have H1:=hid h1;have RQ:Hid (R=5):=GR.out (by rw[RE.out];simp[h1]);clear h1;go_wp2_with (go_at_call 61;refine(qR _ _ _ _).mono ?_;(first|rw[H0.out]|rw[H1.out]);rintro e w2 ⟨rfl,rfl⟩);go_ret;exact⟨qh RQ.out.symm,B0.out⟩
 have H1:=hid h1;clear h1;cases h2:zD c.con 0 1440
 case false =>
  have H2:=hid h2;have RQ:Hid (R=5):=GR.out (by rw[RE.out];simp[h2]);clear h2;go_wp2_with (go_at_call 61;refine(qR _ _ _ _).mono ?_;(first|rw[H0.out]|rw[H1.out]|rw[H2.out]);rintro e w2 ⟨rfl,rfl⟩);go_ret;exact⟨qh RQ.out.symm,B0.out⟩
 have H2:=hid h2;clear h2;cases h3:zD c.sit c.con 1440
 case false =>
  have H3:=hid h3;have RQ:Hid (R=5):=GR.out (by rw[RE.out];simp[h3]);clear h3;go_wp2_with (go_at_call 61;refine(qR _ _ _ _).mono ?_;(first|rw[H0.out]|rw[H1.out]|rw[H2.out]|rw[H3.out]);rintro e w2 ⟨rfl,rfl⟩);go_ret;exact⟨qh RQ.out.symm,B0.out⟩
 have H3:=hid h3;clear h3;cases h4:zD c.lay 0 10080
 case false =>
  have H4:=hid h4;have RQ:Hid (R=5):=GR.out (by rw[RE.out];simp[h4]);clear h4;go_wp2_with (go_at_call 61;refine(qR _ _ _ _).mono ?_;(first|rw[H0.out]|rw[H1.out]|rw[H2.out]|rw[H3.out]|rw[H4.out]);rintro e w2 ⟨rfl,rfl⟩);go_ret;exact⟨qh RQ.out.symm,B0.out⟩
 have H4:=hid h4;clear h4;cases h5:zD c.nf 0 1439
 case false =>
  have H5:=hid h5;have RQ:Hid (R=5):=GR.out (by rw[RE.out];simp[h5]);clear h5;go_wp2_with (go_at_call 61;refine(qR _ _ _ _).mono ?_;(first|rw[H0.out]|rw[H1.out]|rw[H2.out]|rw[H3.out]|rw[H4.out]|rw[H5.out]);rintro e w2 ⟨rfl,rfl⟩);go_ret;exact⟨qh RQ.out.symm,B0.out⟩
 have H5:=hid h5;clear h5;cases h6:zD c.nt 0 1439
 case false =>
  have H6:=hid h6;have RQ:Hid (R=5):=GR.out (by rw[RE.out];simp[h6]);clear h6;go_wp2_with (go_at_call 61;refine(qR _ _ _ _).mono ?_;(first|rw[H0.out]|rw[H1.out]|rw[H2.out]|rw[H3.out]|rw[H4.out]|rw[H5.out]|rw[H6.out]);rintro e w2 ⟨rfl,rfl⟩);go_ret;exact⟨qh RQ.out.symm,B0.out⟩
 have H6:=hid h6;clear h6;cases h7:zD c.gua 0 599999
 case false =>
  have H7:=hid h7;have RQ:Hid (R=5):=GR.out (by rw[RE.out];simp[h7]);clear h7;go_wp2_with (go_at_call 61;refine(qR _ _ _ _).mono ?_;(first|rw[H0.out]|rw[H1.out]|rw[H2.out]|rw[H3.out]|rw[H4.out]|rw[H5.out]|rw[H6.out]|rw[H7.out]);rintro e w2 ⟨rfl,rfl⟩);go_ret;exact⟨qh RQ.out.symm,B0.out⟩
 have H7:=hid h7;clear h7;have HR:Hid (uW c=true):=by unfold Hid;rw[RE.out,H0.out,H1.out,H2.out,H3.out,H4.out,H5.out,H6.out,H7.out];rfl
 go_upto_region 3 with (go_at_call 61;refine(qR _ _ _ _).mono ?_;(first|rw[H0.out]|rw[H1.out]|rw[H2.out]|rw[H3.out]|rw[H4.out]|rw[H5.out]|rw[H6.out]|rw[H7.out]);rintro e w2 ⟨rfl,rfl⟩);clear H0 H1 H2 H3 H4 H5 H6 H7
 by_cases l0:c.cs.length≤32
 case neg =>
  have q1:32 < c.cs.length:=by omega
  have q2:(32:Int) < (c.cs.length:Int):=by omega
  have RQ:Hid (R=10):=GB.out HR.out (by unfold jJ;exact decide_eq_false (fun q=>by omega));go_wp2;go_ret;exact⟨qh RQ.out.symm,B0.out⟩
 have i0:¬(32:Int) < (c.cs.length:Int):=by omega
 by_cases l1:c.rs.length≤40
 case neg =>
  have q1:40 < c.rs.length:=by omega
  have q2:(40:Int) < (c.rs.length:Int):=by omega
  have RQ:Hid (R=10):=GB.out HR.out (by unfold jJ;exact decide_eq_false (fun q=>by omega));go_wp2;go_ret;exact⟨qh RQ.out.symm,B0.out⟩
 have i1:¬(40:Int) < (c.rs.length:Int):=by omega
 by_cases l2:c.os.length≤16
 case neg =>
  have q1:16 < c.os.length:=by omega
  have q2:(16:Int) < (c.os.length:Int):=by omega
  have RQ:Hid (R=10):=GB.out HR.out (by unfold jJ;exact decide_eq_false (fun q=>by omega));go_wp2;go_ret;exact⟨qh RQ.out.symm,B0.out⟩
 have i2:¬(16:Int) < (c.os.length:Int):=by omega
 by_cases l3:len c.cr≤1
 case neg =>
  have q1:1 < len c.cr:=by omega
  have q2:(1:Int) < (len c.cr:Int):=by omega
  have RQ:Hid (R=10):=GB.out HR.out (by unfold jJ;exact decide_eq_false (fun q=>by omega));go_wp2;go_ret;exact⟨qh RQ.out.symm,B0.out⟩
 have i3:¬(1:Int) < (len c.cr:Int):=by omega
 by_cases l4:c.ls.length≤16
 case neg =>
  have q1:16 < c.ls.length:=by omega
  have q2:(16:Int) < (c.ls.length:Int):=by omega
  have RQ:Hid (R=10):=GB.out HR.out (by unfold jJ;exact decide_eq_false (fun q=>by omega));go_wp2;go_ret;exact⟨qh RQ.out.symm,B0.out⟩
 have i4:¬(16:Int) < (c.ls.length:Int):=by omega
 by_cases l5:c.fs.length≤16
 case neg =>
  have q1:16 < c.fs.length:=by omega
  have q2:(16:Int) < (c.fs.length:Int):=by omega
  have RQ:Hid (R=10):=GB.out HR.out (by unfold jJ;exact decide_eq_false (fun q=>by omega));go_wp2;go_ret;exact⟨qh RQ.out.symm,B0.out⟩
 have i5:¬(16:Int) < (c.fs.length:Int):=by omega
 have G:=hid (GL.out HR.out (by unfold jJ;exact decide_eq_true ⟨l0,l1,l2,l3,l4,l5⟩));go_upto_region 5 with (fail);clear i0 i1 i2 i3 i4 i5 RE GR GB GL HR;obtain⟨E1,hE1⟩:∃E,JO c=E:=⟨_,rfl⟩;obtain⟨E2,hE2⟩:∃E,Jm c=E:=⟨_,rfl⟩;obtain⟨E3,hE3⟩:∃E,JN c=E:=⟨_,rfl⟩;obtain⟨E4,hE4⟩:∃E,kL c.cr=E:=⟨_,rfl⟩;obtain⟨E5,hE5⟩:∃E,uL c=E:=⟨_,rfl⟩;rw[hE1,hE2,hE3,hE4,hE5] at G;have G1:=G;have HE1:Hid (fe (zm c.cs) 0 c.cs.length=E1):=hE1;have HE2:Hid (fe (zb c.rs) 0 c.rs.length=E2):=hE2;have HE3:Hid (fe (zX c.os) 0 c.os.length=E3):=hE3;have HE4:=hid hE4;have HE5:=hid hE5;clear hE1 hE2 hE3 hE4 hE5 G c0 c1 c2 c3 c4 c5 c6 c7 c8 c9 c10 c11 c12 c13;go_wp2_with fail
 go_loopw [3] (fun i wr=>∃j:Nat,j≤c.cs.length∧i=.int .i64 j∧Hid (Below w.heap.size w wr∧CtBox wr w.heap.size c p∧fe (zm c.cs) j (c.cs.length - j)=E1)) (fun i _=>c.cs.length - (intOf i).toNat)
 case atStart=>exact⟨0,Nat.zero_le _,rfl,B0.out,X0.out,HE1.out⟩
 case round =>
  obtain⟨j,hj,rfl,HR⟩:=hrel
  by_cases qN:j < c.cs.length
  ·obtain ⟨x,hc⟩:∃x,c.cs[j]?=some x:=⟨_,List.getElem?_eq_getElem (by omega)⟩;obtain⟨-,BC,OC,hpp,hrow⟩:=HV.out.cs;have ROW:=hid hrow;have HPcs:=hid (hpp (by intro q;rw[q] at hc;simp at hc));have PX:=hid (hrow j x hc);have QX:=hid PX.out.1;have d0:=qb QX.out HR.out.1;have hs:x.name.size≤9223372036854775807:=PX.out.2.2;have hj1:(j:Int) < (c.cs.length:Int):=(by omega);have hj0:(0:Int)≤(j:Int):=(by omega);have FA:=hid ((k6 (f:=zm c.cs) qN).symm.trans HR.out.2.2);have CA:Hid (zm c.cs j=if yJ x.name=false then 1 else if yG ((c.cs.take j).map (·.name)) x.name=true then 7 else yF x.a x.k):=(by unfold Hid zm;rw[hc]);have c7:wr.cell? ⟨w.heap.size,7,none⟩=some (.slice (some ⟨BC,OC,none⟩) c.cs.length p.ccs):=(by rw[← HPcs.out];exact(HR.out.2.1).c7);clear hc hpp hrow;go_wp2_with fail;refine(zI x.name wr hs).mono ?_;rintro e w2 ⟨he,hb⟩;have B2:=hid (HR.out.1.trans (hb.mono HR.out.1.size));have X2:=hid (HR.out.2.1.next hb);clear hb HR d0 c7;cases hD:yJ x.name
   ·rw [hD] at he;subst he;have RQ:Hid (R=1):=(by unfold Hid;rw[G1.out,← FA.out,CA.out,hD];rfl);clear hD;go_wp2;go_ret;exact⟨qh RQ.out.symm,B2.out⟩
   rw[hD] at he;subst he;have HD:=hid hD;clear hD;have RH:Hid (yG ((c.cs.take j).map (·.name)) x.name=true→R=7):=fun hU=>by rw[G1.out,← FA.out,CA.out,HD.out,hU];rfl
   go_wp2_with fail
   go_loopw [4] (fun kk wq=>∃i:Nat,i≤j∧kk=.int .i64 i∧Hid (Below w2.heap.size w2 wq∧yG ((c.cs.take i).map (·.name)) x.name=false)) (fun kk _=>j - (intOf kk).toNat)
   case atStart=>exact⟨0,Nat.zero_le _,rfl,Below.refl _ _,rfl⟩
   case round =>
    obtain⟨i,hi,rfl,HI⟩:=hrel
    by_cases hij:i < j
    ·obtain ⟨y,hy⟩:∃y,c.cs[i]?=some y:=⟨_,List.getElem?_eq_getElem (by omega)⟩;have hij':(i:Int) < (j:Int):=(by omega);have hil:(i:Int) < (c.cs.length:Int):=(by omega);have hi0:(0:Int)≤(i:Int):=(by omega);have q0:=qb (ROW.out i y hy).1 (B2.out.trans (HI.out.1.mono B2.out.size));have c7:wr.cell? ⟨w.heap.size,7,none⟩=some (.slice (some ⟨BC,OC,none⟩) c.cs.length p.ccs):=(by rw[← HPcs.out];exact(X2.out.next HI.out.1).c7);have g0:=qb QX.out (B2.out.trans (HI.out.1.mono B2.out.size));have HY:=hid hy;clear hy
     by_cases hq:y.name=x.name
     ·have hb:=toList_eq hq;have RQ:=hid (RH.out (kJ (·.name) HY.out hij hq));clear hq;go_wp2_with fail
      go_quiet (fail)
      go_wp2;go_ret;exact⟨qh RQ.out.symm,below_drewN (B2.out.trans (HI.out.1.mono B2.out.size)) _⟩
     ·have hb:=js hq;have HQ:=hid hq;clear hq;go_wp2_with fail
      go_quiet (fail)
      go_wp2
      go_roundw
      case rel=>exact⟨i+1,by omega,by go_num,below_drewN HI.out.1 _,jB (·.name) HY.out HI.out.2 HQ.out⟩
      case measure=>simp[intOf];omega
    have hij':¬(i:Int) < (j:Int):=(by omega);have NB:=hid HI.out.1;have ND:Hid (yG ((c.cs.take j).map (·.name)) x.name=false):=(by unfold Hid;rw[show j=i by omega];exact HI.out.2);have B3:=hid (B2.out.trans (NB.out.mono B2.out.size));have X3:=hid (X2.out.next NB.out);have CQ:Hid (zm c.cs j=yF ⟨x.a.op,x.a.num,x.a.name,x.a.ptr,x.a.cap⟩ x.k):=(by unfold Hid;rw[CA.out,HD.out,ND.out];rfl);clear HI NB ND;obtain⟨m1,m2,m3,m4⟩:=(PX.out.2.1.next B3.out).1;have c7:wr.cell? ⟨w.heap.size,7,none⟩=some (.slice (some ⟨BC,OC,none⟩) c.cs.length p.ccs):=(by rw[← HPcs.out];exact(X3.out).c7);go_wp2_with fail;refine(jE x.b x.o _ _ _ _ _ x.k wr (PX.out.2.1.2.1.next B3.out) PX.out.2.1.2.2).mono ?_;rintro e w4 ⟨rfl,hb⟩;have B4:=hid (B3.out.trans (hb.mono B3.out.size));have X4:=hid (X3.out.next hb);generalize yF ⟨x.a.op,x.a.num,x.a.name,x.a.ptr,x.a.cap⟩ x.k=ve at *;clear hb m1 m2 m3 m4 c7
    by_cases h0:ve=0
    ·have b0:(ve != 0)=false:=by simp[h0]
     have RQ:Hid (fe (zm c.cs) (j+1) (c.cs.length - (j+1))=E1):=(by unfold Hid;rw[← FA.out,CQ.out,h0,yk]);clear h0;go_wp2
     go_roundw
     case rel=>exact⟨j+1,by omega,by go_num,B4.out,X4.out,RQ.out⟩
     case measure=>simp[intOf];omega
    ·have b0:(ve != 0)=true:=by simp[h0]
     have RQ:Hid (E1=ve):=(by unfold Hid;rw[← FA.out,CQ.out,zi h0]);have RQ2:Hid (R=ve):=(by unfold Hid;rw[G1.out,RQ.out,zi h0]);clear h0;go_wp2;go_ret;exact⟨qh RQ2.out.symm,B4.out⟩
  have hj1:¬(j:Int) < (c.cs.length:Int):=by omega
  have RQ:Hid (E1=0):=by unfold Hid;rw[← HR.out.2.2,jp (by omega)]
  have G2:Hid (R=ku E2 (ku E3 (ku E4 E5))):=by unfold Hid;rw[G1.out,RQ.out,yk]
  have BW:=hid HR.out.1;have XW:=hid HR.out.2.1;clear HR RQ qN hj;have c7:=XW.out.c7;go_wp2_with fail;clear c7
  go_loopw [6] (fun i wr=>∃j:Nat,j≤c.rs.length∧i=.int .i64 j∧Hid (Below w.heap.size w wr∧CtBox wr w.heap.size c p∧fe (zb c.rs) j (c.rs.length - j)=E2)) (fun i _=>c.rs.length - (intOf i).toNat)
  case atStart=>exact⟨0,Nat.zero_le _,rfl,BW.out,XW.out,HE2.out⟩
  case round =>
   obtain⟨j,hj,rfl,HR⟩:=hrel
   by_cases qN:j < c.rs.length
   ·obtain ⟨x,hc⟩:∃x,c.rs[j]?=some x:=⟨_,List.getElem?_eq_getElem (by omega)⟩;obtain⟨-,BR,OR,hpp,hrow⟩:=HV.out.rs;have ROW:=hid hrow;have HPrs:=hid (hpp (by intro q;rw[q] at hc;simp at hc));have PX:=hid (hrow j x hc);obtain⟨d0,d1,⟨⟨d2,d3,d4,d5⟩,-,-⟩,-,hs⟩:=PX.out.next HR.out.1
    have hj1:(j:Int) < (c.rs.length:Int):=(by omega);have hj0:(0:Int)≤(j:Int):=(by omega);have FA:=hid ((k6 (f:=zb c.rs) qN).symm.trans HR.out.2.2);have CA:Hid (zb c.rs j=if Jk x.sc=false∨yJ x.name=false then 1 else if yG ((c.rs.take j).map (fun r=>(r.sc,r.name))) (x.sc,x.name)=true then 7 else yF x.a x.k):=(by unfold Hid zb;rw[hc]);have c8:wr.cell? ⟨w.heap.size,8,none⟩=some (.slice (some ⟨BR,OR,none⟩) c.rs.length p.crs):=(by rw[← HPrs.out];exact(HR.out.2.1).c8);clear hc hpp hrow;go_upto_region 22 with (fail);have B1:Hid (Below w.heap.size w (wr.alloc (.cells #[.int .i64 x.sc,.string x.name,.int .i64 x.a.op,.int .i64 x.a.num,.string x.a.name,.slice x.a.ptr (len x.k) x.a.cap] 87))):=HR.out.1.alloc HR.out.1.size _;have X1:Hid (CtBox (wr.alloc (.cells #[.int .i64 x.sc,.string x.name,.int .i64 x.a.op,.int .i64 x.a.num,.string x.a.name,.slice x.a.ptr (len x.k) x.a.cap] 87)) w.heap.size c p):=HR.out.2.1.next ((Below.refl _ _).alloc (Nat.le_refl _) _)
    have e0:(wr.alloc (.cells #[.int .i64 x.sc,.string x.name,.int .i64 x.a.op,.int .i64 x.a.num,.string x.a.name,.slice x.a.ptr (len x.k) x.a.cap] 87)).cell? ⟨wr.heap.size,0,none⟩=some (.int .i64 x.sc):=(by simp[go_sem]);have e1:(wr.alloc (.cells #[.int .i64 x.sc,.string x.name,.int .i64 x.a.op,.int .i64 x.a.num,.string x.a.name,.slice x.a.ptr (len x.k) x.a.cap] 87)).cell? ⟨wr.heap.size,1,none⟩=some (.string x.name):=(by simp[go_sem]);have e2:(wr.alloc (.cells #[.int .i64 x.sc,.string x.name,.int .i64 x.a.op,.int .i64 x.a.num,.string x.a.name,.slice x.a.ptr (len x.k) x.a.cap] 87)).cell? ⟨wr.heap.size,2,none⟩=some (.int .i64 x.a.op):=(by simp[go_sem]);have e3:(wr.alloc (.cells #[.int .i64 x.sc,.string x.name,.int .i64 x.a.op,.int .i64 x.a.num,.string x.a.name,.slice x.a.ptr (len x.k) x.a.cap] 87)).cell? ⟨wr.heap.size,3,none⟩=some (.int .i64 x.a.num):=(by simp[go_sem]);have e4:(wr.alloc (.cells #[.int .i64 x.sc,.string x.name,.int .i64 x.a.op,.int .i64 x.a.num,.string x.a.name,.slice x.a.ptr (len x.k) x.a.cap] 87)).cell? ⟨wr.heap.size,4,none⟩=some (.string x.a.name):=(by simp[go_sem]);have e5:(wr.alloc (.cells #[.int .i64 x.sc,.string x.name,.int .i64 x.a.op,.int .i64 x.a.num,.string x.a.name,.slice x.a.ptr (len x.k) x.a.cap] 87)).cell? ⟨wr.heap.size,5,none⟩=some (.slice x.a.ptr (len x.k) x.a.cap):=(by simp[go_sem]);generalize wr.alloc (.cells #[.int .i64 x.sc,.string x.name,.int .i64 x.a.op,.int .i64 x.a.num,.string x.a.name,.slice x.a.ptr (len x.k) x.a.cap] 87)=w1 at *;clear d0 d1 d2 d3 d4 d5 HR c8;generalize wr.heap.size=g at *;cases hC:Jk x.sc
    ·have HC:Hid (zD x.sc 1 3=false):=hC;have RQ:Hid (R=1):=(by unfold Hid;rw[G2.out,← FA.out,CA.out,hC];simp[ku]);clear hC;go_wp2_with (go_at_call 61;refine(qR _ _ _ _).mono ?_;rw[HC.out];rintro e w9 ⟨rfl,rfl⟩);go_ret;exact⟨qh RQ.out.symm,B1.out⟩
    have HC:Hid (zD x.sc 1 3=true):=hC;cases hD:yJ x.name
    ·have HD:=hid hD;have RQ:Hid (R=1):=(by unfold Hid;rw[G2.out,← FA.out,CA.out,hD];simp[ku]);clear hC hD;go_wp2_with (first|(go_at_call 61;refine(qR _ _ _ _).mono ?_;rw[HC.out];rintro e w9 ⟨rfl,rfl⟩)|(go_at_call 62;refine(zI x.name w1 hs).mono ?_;rw[HD.out];rintro e w2 ⟨rfl,hb⟩));go_ret;exact⟨qh RQ.out.symm,B1.out.trans (hb.mono B1.out.size)⟩
    have HD:=hid hD;have CB:Hid (zb c.rs j=if yG ((c.rs.take j).map (fun r=>(r.sc,r.name))) (x.sc,x.name)=true then 7 else yF x.a x.k):=(by unfold Hid;rw[CA.out,hC,hD];rfl);clear hC hD;go_upto_region 24 with (first|(go_at_call 61;refine(qR _ _ _ _).mono ?_;rw[HC.out];rintro e w9 ⟨rfl,rfl⟩)|(go_at_call 62;refine(zI x.name w1 hs).mono ?_;rw[HD.out];rintro e w2 ⟨rfl,hb⟩));have B2:=hid (B1.out.trans (hb.mono B1.out.size));have X2:=hid (X1.out.next hb);have k0:=qb e0 hb;have k1:=qb e1 hb;have k2:=qb e2 hb;have k3:=qb e3 hb;have k4:=qb e4 hb;have k5:=qb e5 hb;clear hb e0 e1 e2 e3 e4 e5;have RH:Hid (yG ((c.rs.take j).map (fun r=>(r.sc,r.name))) (x.sc,x.name)=true→R=7):=fun hU=>by rw[G2.out,← FA.out,CB.out,hU];rfl
    go_wp2_with fail
    go_loopw [8] (fun kk wq=>∃i:Nat,i≤j∧kk=.int .i64 i∧Hid (Below w2.heap.size w2 wq∧yG ((c.rs.take i).map (fun r=>(r.sc,r.name))) (x.sc,x.name)=false)) (fun kk _=>j - (intOf kk).toNat)
    case atStart=>exact⟨0,Nat.zero_le _,rfl,Below.refl _ _,rfl⟩
    case round =>
     obtain⟨i,hi,rfl,HI⟩:=hrel
     by_cases hij:i < j
     ·obtain ⟨y,hy⟩:∃y,c.rs[i]?=some y:=⟨_,List.getElem?_eq_getElem (by omega)⟩;have hij':(i:Int) < (j:Int):=(by omega);have hil:(i:Int) < (c.rs.length:Int):=(by omega);have hi0:(0:Int)≤(i:Int):=(by omega);have q0:=qb (ROW.out i y hy).1 (B2.out.trans (HI.out.1.mono B2.out.size));have q1:=qb (ROW.out i y hy).2.1 (B2.out.trans (HI.out.1.mono B2.out.size));have c8:wr.cell? ⟨w.heap.size,8,none⟩=some (.slice (some ⟨BR,OR,none⟩) c.rs.length p.crs):=(by rw[← HPrs.out];exact(X2.out.next HI.out.1).c8);have f0:=qb k0 HI.out.1;have f1:=qb k1 HI.out.1;have HY:=hid hy;clear hy
      by_cases hsc:y.sc=x.sc
      ·have hbs:(y.sc==x.sc)=true:=by simp[hsc]
       by_cases hq:y.name=x.name
       ·have hb:=toList_eq hq;have RQ:=hid (RH.out (kJ (fun r=>(r.sc,r.name)) HY.out hij (by rw[hsc,hq])));clear hq hsc;go_wp2_with fail
        go_quiet (fail)
        go_wp2;go_ret;exact⟨qh RQ.out.symm,below_drewN (B2.out.trans (HI.out.1.mono B2.out.size)) _⟩
       ·have hb:=js hq;have HQ:Hid ((y.sc,y.name)≠(x.sc,x.name)):=(by intro z;injection z;contradiction);clear hq hsc;go_wp2_with fail
        go_quiet (fail)
        go_wp2
        go_roundw
        case rel=>exact⟨i+1,by omega,by go_num,below_drewN HI.out.1 _,jB (fun r=>(r.sc,r.name)) HY.out HI.out.2 HQ.out⟩
        case measure=>simp[intOf];omega
      ·have hbs:(y.sc==x.sc)=false:=by simp[hsc]
       have HQ:Hid ((y.sc,y.name)≠(x.sc,x.name)):=(by intro z;injection z;contradiction);clear hsc;go_wp2_with fail
       go_quiet (fail)
       go_wp2
       go_roundw
       case rel=>exact⟨i+1,by omega,by go_num,below_drewN HI.out.1 _,jB (fun r=>(r.sc,r.name)) HY.out HI.out.2 HQ.out⟩
       case measure=>simp[intOf];omega
     have hij':¬(i:Int) < (j:Int):=(by omega);have NB:=hid HI.out.1;have ND:Hid (yG ((c.rs.take j).map (fun r=>(r.sc,r.name))) (x.sc,x.name)=false):=(by unfold Hid;rw[show j=i by omega];exact HI.out.2);have B3:=hid (B2.out.trans (NB.out.mono B2.out.size));have X3:=hid (X2.out.next NB.out);have CQ:Hid (zb c.rs j=yF ⟨x.a.op,x.a.num,x.a.name,x.a.ptr,x.a.cap⟩ x.k):=(by unfold Hid;rw[CB.out,ND.out];rfl);have m2:=qb k2 NB.out;have m3:=qb k3 NB.out;have m4:=qb k4 NB.out;have m5:=qb k5 NB.out;clear HI NB ND k0 k1 k2 k3 k4 k5;go_wp2_with fail;refine(jE x.b x.o _ _ _ _ _ x.k wr (PX.out.2.2.1.2.1.next B3.out) PX.out.2.2.1.2.2).mono ?_;rintro e w4 ⟨rfl,hb⟩;have B4:=hid (B3.out.trans (hb.mono B3.out.size));have X4:=hid (X3.out.next hb);generalize yF ⟨x.a.op,x.a.num,x.a.name,x.a.ptr,x.a.cap⟩ x.k=ve at *;clear hb m2 m3 m4 m5
     by_cases h0:ve=0
     ·have b0:(ve != 0)=false:=by simp[h0]
      have RQ:Hid (fe (zb c.rs) (j+1) (c.rs.length - (j+1))=E2):=(by unfold Hid;rw[← FA.out,CQ.out,h0,yk]);clear h0;go_wp2
      go_roundw
      case rel=>exact⟨j+1,by omega,by go_num,B4.out,X4.out,RQ.out⟩
      case measure=>simp[intOf];omega
     ·have b0:(ve != 0)=true:=by simp[h0]
      have RQ:Hid (E2=ve):=(by unfold Hid;rw[← FA.out,CQ.out,zi h0]);have RQ2:Hid (R=ve):=(by unfold Hid;rw[G2.out,RQ.out,zi h0]);clear h0;go_wp2;go_ret;exact⟨qh RQ2.out.symm,B4.out⟩
   have hj1:¬(j:Int) < (c.rs.length:Int):=(by omega);have RQ:Hid (E2=0):=(by unfold Hid;rw[← HR.out.2.2,jp (by omega)]);have G3:Hid (R=ku E3 (ku E4 E5)):=(by unfold Hid;rw[G2.out,RQ.out,yk]);have BW:=hid HR.out.1;have XW:=hid HR.out.2.1;clear HR RQ qN hj;have c8:=XW.out.c8;go_wp2_with fail;clear c8
   go_loopw [10] (fun i wr=>∃j:Nat,j≤c.os.length∧i=.int .i64 j∧Hid (Below w.heap.size w wr∧CtBox wr w.heap.size c p∧fe (zX c.os) j (c.os.length - j)=E3)) (fun i _=>c.os.length - (intOf i).toNat)
   case atStart=>exact⟨0,Nat.zero_le _,rfl,BW.out,XW.out,HE3.out⟩
   case round =>
    obtain⟨j,hj,rfl,HR⟩:=hrel
    by_cases qN:j < c.os.length
    ·obtain ⟨x,hc⟩:∃x,c.os[j]?=some x:=⟨_,List.getElem?_eq_getElem (by omega)⟩;obtain⟨-,BO,OO,hpp,hrow⟩:=HV.out.os;have HPos:=hid (hpp (by intro q;rw[q] at hc;simp at hc));have PX:=hid (hrow j x hc);obtain⟨d0,⟨⟨d1,d2,d3,d4⟩,-,-⟩,-⟩:=PX.out.next HR.out.1
     have hj1:(j:Int) < (c.os.length:Int):=(by omega);have hj0:(0:Int)≤(j:Int):=(by omega);have FA:=hid ((k6 (f:=zX c.os) qN).symm.trans HR.out.2.2);have CA:=hid (Qe c.os j x hc);have c9:wr.cell? ⟨w.heap.size,9,none⟩=some (.slice (some ⟨BO,OO,none⟩) c.os.length p.cos):=(by rw[← HPos.out];exact HR.out.2.1.c9);clear hc hpp hrow;have B3:=hid HR.out.1;have X3:=hid HR.out.2.1;cases hC:Jk x.sc
     ·have HC:Hid (zD x.sc 1 3=false):=hC;have RQ:Hid (R=1):=(by unfold Hid;rw[G3.out,← FA.out,CA.out,hC];rfl);clear hC;go_wp2_with (go_at_call 61;refine(qR _ _ _ _).mono ?_;rw[HC.out];rintro e w9 ⟨rfl,rfl⟩);go_ret;exact⟨qh RQ.out.symm,HR.out.1⟩
     have HC:Hid (zD x.sc 1 3=true):=hC;have CQ:Hid (zX c.os j=yF ⟨x.a.op,x.a.num,x.a.name,x.a.ptr,x.a.cap⟩ x.k):=(by unfold Hid;rw[CA.out,hC];rfl);clear hC;go_wp2_with (go_at_call 61;refine(qR _ _ _ _).mono ?_;rw[HC.out];rintro e w9 ⟨rfl,rfl⟩);refine(jE x.b x.o _ _ _ _ _ x.k wr (PX.out.2.1.2.1.next B3.out) PX.out.2.1.2.2).mono ?_;rintro e w4 ⟨rfl,hb⟩;have B4:=hid (B3.out.trans (hb.mono B3.out.size));have X4:=hid (X3.out.next hb);generalize yF ⟨x.a.op,x.a.num,x.a.name,x.a.ptr,x.a.cap⟩ x.k=ve at *;clear hb d0 d1 d2 d3 d4 c9
     by_cases h0:ve=0
     ·have b0:(ve != 0)=false:=by simp[h0]
      have RQ:Hid (fe (zX c.os) (j+1) (c.os.length - (j+1))=E3):=(by unfold Hid;rw[← FA.out,CQ.out,h0,yk]);clear h0;go_wp2
      go_roundw
      case rel=>exact⟨j+1,by omega,by go_num,B4.out,X4.out,RQ.out⟩
      case measure=>simp[intOf];omega
     ·have b0:(ve != 0)=true:=by simp[h0]
      have RQ:Hid (E3=ve):=(by unfold Hid;rw[← FA.out,CQ.out,zi h0]);have RQ2:Hid (R=ve):=(by unfold Hid;rw[G3.out,RQ.out,zi h0]);clear h0;go_wp2;go_ret;exact⟨qh RQ2.out.symm,B4.out⟩
    have hj1:¬(j:Int) < (c.os.length:Int):=(by omega);have RQ:Hid (E3=0):=(by unfold Hid;rw[← HR.out.2.2,jp (by omega)]);have G4:Hid (R=ku E4 E5):=(by unfold Hid;rw[G3.out,RQ.out,yk]);have BW:=hid HR.out.1;have XW:=hid HR.out.2.1;clear HR RQ qN hj;have c9:=XW.out.c9;go_wp2_with fail;clear c9
    go_loopw [12] (fun i wr=>∃(j:Nat) (r:Fo),i=.int .i64 j∧Hid (j+len r=len c.cr∧(∃b o,(r≠.nil→p.cr=some ⟨b,o,none⟩)∧FoAt wr r b (o+j * 4))∧jV r∧kL r=E4∧Below w.heap.size w wr∧CtBox wr w.heap.size c p)) (fun i _=>len c.cr - (intOf i).toNat)
    case atStart =>
     obtain⟨-,q1,b,o,q2,q3⟩:=(HV.out.next BW.out).cr;exact⟨0,c.cr,rfl,by omega,⟨b,o,q2,by rw[Nat.zero_mul,Nat.add_zero];exact q3⟩,q1,HE4.out,BW.out,XW.out⟩
    case round =>
     obtain⟨j,r,rfl,HR⟩:=hrel;cases r with
     | nil =>
       have hj:¬(j:Int) < (len c.cr:Int):=(by have:=HR.out.1;simp[len] at this;omega);have RQ:Hid (R=E5):=(by unfold Hid;rw[G4.out,← HR.out.2.2.2.1];exact yk _);have B4:=hid HR.out.2.2.2.2.1;have X4:=hid HR.out.2.2.2.2.2;clear HR;obtain⟨c0,c1,c2,c3,c4,c5,c6,c7,c8,c9,c10,c11,c12,c13,qN⟩:=X4.out;go_wp2_with fail;refine(Jl c p wr (HV.out.next B4.out) l4 l5).mono ?_;rw[HE5.out];rintro e w9 ⟨rfl,hb⟩;have B9:=hid (B4.out.trans (hb.mono B4.out.size));clear hb c0 c1 c2 c3 c4 c5 c6 c7 c8 c9 c10 c11 c12 c13;go_wp2;go_ret;exact⟨qh RQ.out.symm,B9.out⟩
     | node b1 o1 a1 k1 r1 =>
       have hj:j < len c.cr:=(by have:=HR.out.1;simp[len] at this;omega);obtain⟨kb,ko,hkp,⟨d0,d1,d2,d3⟩,hp1,hk1,hr1⟩:=HR.out.2.1;have hpe:p.cr=some ⟨kb,ko,none⟩:=hkp (by simp);have HX:Hid (ExAt wr b1 o1 a1 k1):=⟨hp1,hk1⟩;have HN:=hid hr1;have HOK:=hid HR.out.2.2.1;have CQ:Hid (ku (yF ⟨a1.op,a1.num,a1.name,a1.ptr,a1.cap⟩ k1) (kL r1)=E4):=HR.out.2.2.2.1;have hj1:(j:Int) < (len c.cr:Int):=(by omega);have hj0:(0:Int)≤(j:Int):=(by omega);have c10:wr.cell? ⟨w.heap.size,10,none⟩=some (.slice (some ⟨kb,ko,none⟩) (len c.cr) p.ccr):=(by rw[← hpe];exact HR.out.2.2.2.2.2.c10);have HPE:=hid hpe;clear hp1 hk1 hr1 hkp hpe;go_wp2_with fail;refine(jE b1 o1 _ _ _ _ _ k1 wr HX.out ⟨HOK.out.1,HOK.out.2.1⟩).mono ?_;rintro e w3 ⟨rfl,hb⟩;have B6:=hid hb;have B3:=hid (HR.out.2.2.2.2.1.trans (B6.out.mono HR.out.2.2.2.2.1.size));have X3:=hid (HR.out.2.2.2.2.2.next B6.out);generalize yF ⟨a1.op,a1.num,a1.name,a1.ptr,a1.cap⟩ k1=ve at *;clear hb d0 d1 d2 d3 c10
       by_cases h0:ve=0
       ·have b0:(ve != 0)=false:=by simp[h0]
        have RQ:Hid (kL r1=E4):=(by unfold Hid;rw[← CQ.out,h0,yk]);clear h0;go_wp2
        go_roundw
        case rel =>
         have q1:=HR.out.1;simp[len] at q1;refine⟨j+1,r1,by go_num,by omega,⟨kb,ko,fun _=>HPE.out,?_⟩,HOK.out.2.2,RQ.out,B3.out,X3.out⟩;rw[Nat.add_mul,Nat.one_mul,← Nat.add_assoc];exact HN.out.next B6.out
        case measure=>simp[intOf];omega
       ·have b0:(ve != 0)=true:=by simp[h0]
        have RQ2:Hid (R=ve):=(by unfold Hid;rw[G4.out,← CQ.out,zi h0,zi h0]);clear h0;go_wp2;go_ret;exact⟨qh RQ2.out.symm,B3.out⟩
end Go.Proofs.YtcejjdmnlejbaaaGreatDoor
