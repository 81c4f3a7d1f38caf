import Derived.Test.YtcejjdmnlejbaaaGreatDoorWCtW
namespace Go.Proofs.YtcejjdmnlejbaaaGreatDoor
open Option.some(inj)
open Lib(hid)
set_option linter.unusedVariables false
set_option linter.unusedSimpArgs false
open Go.ChangeShapes Go.WideShapes Go.ChangeAt Go.RowKit
open Go.Deep (BT)
set_option maxHeartbeats 8000000
set_option maxRecDepth 100000
theorem vX(ls:List Li)(j:Nat)(c:Li)(h:ls[j]?=some c):jk ls j=if yh c.name=false then 1 else if yr ((ls.take j).map (·.name)) c.name=true then 7 else if qW c.meas=0 then 6 else if (zw c.most 0 599999 && zw c.days 1 31)=true then 0 else 5:=by
 unfold jk;rw[h];simp[zw]
theorem vP(ls:List Li)(fs:List Of)(j:Nat)(c:Of)(h:fs[j]?=some c):jh ls fs j=if yh c.name=false then 1 else if yr (ls.map (·.name)++(fs.take j).map (·.name)) c.name=true then 7 else if (zw c.days 1 31 && zw c.count 1 c.days)=true then 0 else 5:=by
 unfold jh;rw[h];simp[zw]
theorem Jr(c:Ct)(p:Cp)(w:World)(hv:CtV w c p)(hl1:c.ls.length≤16)(hl2:c.fs.length≤16) :
 Calls Tryz.prog 60 #[.agg #[.int .i64 c.rep,.int .i64 c.rel,.int .i64 c.con,.int .i64 c.sit,.int .i64 c.lay,.int .i64 c.nf,.int .i64 c.nt,.slice p.cs c.cs.length p.ccs,.slice p.rs c.rs.length p.crs,.slice p.os c.os.length p.cos,.slice p.cr (len c.cr) p.ccr,.slice p.ls c.ls.length p.cls,.slice p.fs c.fs.length p.cfs,.int .i64 c.gua]] w fun e w'=>e=.returned (.int .i64 (uT c))∧Below w.heap.size w w':=by
 have HV:=hid hv;clear hv;obtain⟨RV,hRT⟩:∃R,uT c=R:=⟨_,rfl⟩;rw[hRT];obtain⟨RL,hRL⟩:∃R,fe (jk c.ls) 0 c.ls.length=R:=⟨_,rfl⟩;obtain⟨RO,hRO⟩:∃R,fe (jh c.ls c.fs) 0 c.fs.length=R:=⟨_,rfl⟩;have HW:Hid (RV=kr RL RO):=by unfold Hid;rw[← hRT,← hRL,← hRO];rfl
 have HWW:=HW;have HL:=hid hRL;have HO:=hid hRO;clear hRT hRL hRO HW;have hmm:=@run_makeMap Tryz.prog;go_enter Tryz.func60,Tryz.ntmps60;go_upto_region 1 with (fail);have X0:=hid (CtBox.start w c p);have B0:Hid (Below w.heap.size w (w.alloc (.cells #[.int .i64 c.rep,.int .i64 c.rel,.int .i64 c.con,.int .i64 c.sit,.int .i64 c.lay,.int .i64 c.nf,.int .i64 c.nt,.slice p.cs c.cs.length p.ccs,.slice p.rs c.rs.length p.crs,.slice p.os c.os.length p.cos,.slice p.cr (len c.cr) p.ccr,.slice p.ls c.ls.length p.cls,.slice p.fs c.fs.length p.cfs,.int .i64 c.gua] 43))):=ba1;have Z0:Hid ((w.alloc (.cells #[.int .i64 c.rep,.int .i64 c.rel,.int .i64 c.con,.int .i64 c.sit,.int .i64 c.lay,.int .i64 c.nf,.int .i64 c.nt,.slice p.cs c.cs.length p.ccs,.slice p.rs c.rs.length p.crs,.slice p.os c.os.length p.cos,.slice p.cr (len c.cr) p.ccr,.slice p.ls c.ls.length p.cls,.slice p.fs c.fs.length p.cfs,.int .i64 c.gua] 43)).heap.size=w.heap.size+1):=by unfold Hid;simp
 generalize w.alloc (.cells #[.int .i64 c.rep,.int .i64 c.rel,.int .i64 c.con,.int .i64 c.sit,.int .i64 c.lay,.int .i64 c.nf,.int .i64 c.nt,.slice p.cs c.cs.length p.ccs,.slice p.rs c.rs.length p.crs,.slice p.os c.os.length p.cos,.slice p.cr (len c.cr) p.ccr,.slice p.ls c.ls.length p.cls,.slice p.fs c.fs.length p.cfs,.int .i64 c.gua] 43)=w0 at *;go_upto_region 2 with (fail);have c11:=(X0.out.next ((Below.refl _ _).alloc (Nat.le_refl _) (.map #[] 0))).c11;go_wp2_with fail
 go_loopw [12] (fun i wr=>∃j:Nat,j≤c.ls.length∧i=.int .i64 j∧Hid (SS wr w0.heap.size ((c.ls.take j).map (·.name))∧Below w.heap.size w wr∧CtBox wr w.heap.size c p∧fe (jk c.ls) j (c.ls.length - j)=RL)) (fun i _=>c.ls.length - (intOf i).toNat)
 case atStart=>exact⟨0,Nat.zero_le _,rfl,SetM.start _ _ _ _ _,B0.out.alloc B0.out.size _,X0.out.next ba1,HL.out⟩
 case round =>
  obtain⟨j,hj,rfl,HR⟩:=hrel
  by_cases qD:j < c.ls.length
  ·obtain ⟨x,hc⟩:∃x,c.ls[j]?=some x:=⟨_,List.getElem?_eq_getElem (by omega)⟩;obtain⟨B,O,hp,hP⟩:=(HV.out.ls).get hc;obtain⟨d0,d1,d2,d3,hb1,hb2,hs,hs2⟩:=hP.next HR.out.2.1
   have hs':x.name.size≤maxLen:=hs;have hj1:(j:Int) < (c.ls.length:Int):=(by omega);have FA:=hid ((kB (f:=jk c.ls) qD).symm.trans HR.out.2.2.2);have CA:=hid (vX c.ls j x hc);have TS:=hid (jw (·.name) hc);have hln:((c.ls.take j).map (·.name)).length < maxLen:=(by simp[maxLen];omega);clear hP hc hb1 hb2;rw[hp];go_upto_region 5 with (fail);have B1:Hid (Below w.heap.size w (wr.alloc (.cells #[.string x.name,.string x.meas,.int .i64 x.most,.int .i64 x.days] 91))):=HR.out.2.1.alloc HR.out.2.1.size _;have S1:Hid (SS (wr.alloc (.cells #[.string x.name,.string x.meas,.int .i64 x.most,.int .i64 x.days] 91)) w0.heap.size ((c.ls.take j).map (·.name))):=SetM.next HR.out.1 ba1
   have X1:Hid (CtBox (wr.alloc (.cells #[.string x.name,.string x.meas,.int .i64 x.most,.int .i64 x.days] 91)) w.heap.size c p):=HR.out.2.2.1.next ba1
   have hgw:w0.heap.size < wr.heap.size:=SetM.lt HR.out.1;have e0:(wr.alloc (.cells #[.string x.name,.string x.meas,.int .i64 x.most,.int .i64 x.days] 91)).cell? ⟨wr.heap.size,0,none⟩=some (.string x.name):=(by simp[go_sem]);have e1:(wr.alloc (.cells #[.string x.name,.string x.meas,.int .i64 x.most,.int .i64 x.days] 91)).cell? ⟨wr.heap.size,1,none⟩=some (.string x.meas):=(by simp[go_sem]);have e2:(wr.alloc (.cells #[.string x.name,.string x.meas,.int .i64 x.most,.int .i64 x.days] 91)).cell? ⟨wr.heap.size,2,none⟩=some (.int .i64 x.most):=(by simp[go_sem]);have e3:(wr.alloc (.cells #[.string x.name,.string x.meas,.int .i64 x.most,.int .i64 x.days] 91)).cell? ⟨wr.heap.size,3,none⟩=some (.int .i64 x.days):=(by simp[go_sem]);generalize wr.alloc (.cells #[.string x.name,.string x.meas,.int .i64 x.most,.int .i64 x.days] 91)=w1 at *;have hlook:=xQ S1.out x.name hs';clear d0 d1 d2 d3;cases hD:yh x.name
   ·have HD:=hid hD;have RQ:Hid (RL=1):=(by unfold Hid;rw[← FA.out,CA.out,hD];rfl);clear hD;go_wp2_with (go_at_call 108;refine(qX _ _ hs).mono ?_;rw[HD.out];rintro e w2 ⟨rfl,rfl⟩);go_ret;exact⟨qg (by rw[HWW.out,RQ.out];rfl),B1.out⟩
   ·have HD:=hid hD;cases hU:yr ((c.ls.take j).map (·.name)) x.name
    case true =>
     have RQ:Hid (RL=7):=(by unfold Hid;rw[← FA.out,CA.out,hD,hU];rfl);rw[hU] at hlook;clear hD hU;go_wp2_with (go_at_call 108;refine(qX _ _ hs).mono ?_;rw[HD.out];rintro e w2 ⟨rfl,rfl⟩);go_ret;exact⟨qg (by rw[HWW.out,RQ.out];rfl),B1.out⟩
    case false =>
     rw[hU] at hlook;have HKM:=hid (QA x.meas);obtain⟨mk,hmk⟩:∃mk,zZ x.meas=mk:=⟨_,rfl⟩;have HK:=hid hmk
     by_cases hm0:mk=0
     ·have RQ:Hid (RL=6):=by unfold Hid;rw[← FA.out,CA.out,hD,hU,if_pos (HKM.out.1 (hmk.trans hm0))];rfl
      have b0:(mk==0)=true:=(by simp[hm0]);clear hD hU hmk hm0;go_wp2_with (first|(go_at_call 108;refine(qX _ _ hs).mono ?_;rw[HD.out];rintro e w2 ⟨rfl,rfl⟩)|(go_at_call 48;refine(zE _ _).mono ?_;rw[HK.out];rintro e w2 ⟨rfl,rfl⟩));go_ret;exact⟨qg (by rw[HWW.out,RQ.out];rfl),B1.out⟩
     have b0:(mk==0)=false:=(by simp[hm0]);have CB:Hid (jk c.ls j=if (zw x.most 0 599999 && zw x.days 1 31)=true then 0 else 5):=(by unfold Hid;rw[CA.out,hD,hU,if_neg (c:=qW x.meas=0) (fun q=>hm0 (hmk.symm.trans (HKM.out.2 q)))];rfl);clear hmk hm0;clear hD hU;cases hM:zw x.most 0 599999
     ·have HM:=hid hM;have RQ:Hid (RL=5):=(by unfold Hid;rw[← FA.out,CB.out,hM];rfl);clear hM;go_wp2_with (first|(go_at_call 108;refine(qX _ _ hs).mono ?_;rw[HD.out];rintro e w2 ⟨rfl,rfl⟩)|(go_at_call 48;refine(zE _ _).mono ?_;rw[HK.out];rintro e w2 ⟨rfl,rfl⟩)|(go_at_call 56;refine(yi _ _ _ _).mono ?_;rw[HM.out];rintro e w2 ⟨rfl,rfl⟩));go_ret;exact⟨qg (by rw[HWW.out,RQ.out];rfl),B1.out⟩
     ·have HM:=hid hM;cases hY:zw x.days 1 31
      ·have HY:=hid hY;have RQ:Hid (RL=5):=(by unfold Hid;rw[← FA.out,CB.out,hM,hY];rfl);clear hM hY;go_wp2_with (first|(go_at_call 108;refine(qX _ _ hs).mono ?_;rw[HD.out];rintro e w2 ⟨rfl,rfl⟩)|(go_at_call 48;refine(zE _ _).mono ?_;rw[HK.out];rintro e w2 ⟨rfl,rfl⟩)|(go_at_call 56;refine(yi _ _ _ _).mono ?_;(first|rw[HM.out]|rw[HY.out]);rintro e w2 ⟨rfl,rfl⟩));go_ret;exact⟨qg (by rw[HWW.out,RQ.out];rfl),B1.out⟩
      ·have HY:=hid hY;have RQ:Hid (fe (jk c.ls) (j+1) (c.ls.length - (j+1))=RL):=(by unfold Hid;rw[← FA.out,CB.out,hM,hY];exact(yg _).symm);clear hM hY;obtain⟨w9,hput,hS9,hG9⟩:=uY S1.out x.name hs' hln;have B9:Hid (Below w.heap.size w w9):=B1.out.grown hG9 B1.out.size (fun m hm=>by cases hm;rw[Z0.out];exact Nat.le_succ _);have S9:Hid (SS w9 w0.heap.size ((c.ls.take (j+1)).map (·.name))):=(by unfold Hid;rw[TS.out];exact hS9);have X9:Hid (CtBox w9 w.heap.size c p):=X1.out.grown hG9 (by rw[Z0.out];omega);clear hS9 hG9;go_wp2_with (first|(go_at_call 108;refine(qX _ _ hs).mono ?_;rw[HD.out];rintro e w2 ⟨rfl,rfl⟩)|(go_at_call 48;refine(zE _ _).mono ?_;rw[HK.out];rintro e w2 ⟨rfl,rfl⟩)|(go_at_call 56;refine(yi _ _ _ _).mono ?_;(first|rw[HM.out]|rw[HY.out]);rintro e w2 ⟨rfl,rfl⟩))
       go_roundw
       case rel=>exact⟨j+1,by omega,by go_num,S9.out,B9.out,X9.out,RQ.out⟩
       case measure=>simp[intOf];omega
  ·have hj1 : ¬(j:Int) < (c.ls.length:Int):=by omega
   have RQ:Hid (RL=0):=(by unfold Hid;rw[← HR.out.2.2.2,jr (by omega)]);have hjE:j=c.ls.length:=(by omega);have c12:=HR.out.2.2.1.c12
   have SW:Hid (SS wr w0.heap.size (c.ls.map (·.name)++(c.fs.take 0).map (·.name))):=by
    have:=HR.out.1;rw[hjE,List.take_length] at this;unfold Hid
    simpa using this
   have BW:=hid HR.out.2.1;have XW:=hid HR.out.2.2.1;have HWO:Hid (RV=RO):=(by unfold Hid;rw[HWW.out,RQ.out,yg]);clear HR hjE;go_wp2_with fail
   go_loopw [49] (fun i wr=>∃j:Nat,j≤c.fs.length∧i=.int .i64 j∧Hid (SS wr w0.heap.size (c.ls.map (·.name)++(c.fs.take j).map (·.name))∧Below w.heap.size w wr∧CtBox wr w.heap.size c p∧fe (jh c.ls c.fs) j (c.fs.length - j)=RO)) (fun i _=>c.fs.length - (intOf i).toNat)
   case atStart=>exact⟨0,Nat.zero_le _,rfl,SW.out,BW.out,XW.out,HO.out⟩
   case round =>
    obtain⟨j,hj,rfl,HR⟩:=hrel
    by_cases qD:j < c.fs.length
    ·obtain ⟨x,hc⟩:∃x,c.fs[j]?=some x:=⟨_,List.getElem?_eq_getElem (by omega)⟩;obtain⟨B,O,hp,hP⟩:=(HV.out.fs).get hc;obtain⟨d0,d1,d2,hb1,hb2,hs⟩:=hP.next HR.out.2.1
     have hs':x.name.size≤maxLen:=hs;have hj1:(j:Int) < (c.fs.length:Int):=(by omega);have FA:=hid ((kB (f:=jh c.ls c.fs) qD).symm.trans HR.out.2.2.2);have CA:=hid (vP c.ls c.fs j x hc);have TS:=hid (jw (·.name) hc);have hln:(c.ls.map (·.name)++(c.fs.take j).map (·.name)).length < maxLen:=(by simp[maxLen];omega);clear hP hc hb1 hb2;rw[hp];go_upto_region 18 with (fail);have B1:Hid (Below w.heap.size w (wr.alloc (.cells #[.string x.name,.int .i64 x.count,.int .i64 x.days] 93))):=HR.out.2.1.alloc HR.out.2.1.size _;have S1:Hid (SS (wr.alloc (.cells #[.string x.name,.int .i64 x.count,.int .i64 x.days] 93)) w0.heap.size (c.ls.map (·.name)++(c.fs.take j).map (·.name))):=SetM.next HR.out.1 ba1
     have X1:Hid (CtBox (wr.alloc (.cells #[.string x.name,.int .i64 x.count,.int .i64 x.days] 93)) w.heap.size c p):=HR.out.2.2.1.next ba1
     have hgw:w0.heap.size < wr.heap.size:=SetM.lt HR.out.1;have e0:(wr.alloc (.cells #[.string x.name,.int .i64 x.count,.int .i64 x.days] 93)).cell? ⟨wr.heap.size,0,none⟩=some (.string x.name):=(by simp[go_sem]);have e1:(wr.alloc (.cells #[.string x.name,.int .i64 x.count,.int .i64 x.days] 93)).cell? ⟨wr.heap.size,1,none⟩=some (.int .i64 x.count):=(by simp[go_sem]);have e2:(wr.alloc (.cells #[.string x.name,.int .i64 x.count,.int .i64 x.days] 93)).cell? ⟨wr.heap.size,2,none⟩=some (.int .i64 x.days):=(by simp[go_sem]);generalize wr.alloc (.cells #[.string x.name,.int .i64 x.count,.int .i64 x.days] 93)=w1 at *;have hlook:=xQ S1.out x.name hs';clear d0 d1 d2;cases hD:yh x.name
     ·have HD:=hid hD;have RQ:Hid (RO=1):=(by unfold Hid;rw[← FA.out,CA.out,hD];rfl);clear hD;go_wp2_with (go_at_call 108;refine(qX _ _ hs).mono ?_;rw[HD.out];rintro e w2 ⟨rfl,rfl⟩);go_ret;exact⟨qg (by rw[HWO.out,RQ.out]),B1.out⟩
     ·have HD:=hid hD;cases hU:yr (c.ls.map (·.name)++(c.fs.take j).map (·.name)) x.name
      case true =>
       have RQ:Hid (RO=7):=(by unfold Hid;rw[← FA.out,CA.out,hD,hU];rfl);rw[hU] at hlook;clear hD hU;go_wp2_with (go_at_call 108;refine(qX _ _ hs).mono ?_;rw[HD.out];rintro e w2 ⟨rfl,rfl⟩);go_ret;exact⟨qg (by rw[HWO.out,RQ.out]),B1.out⟩
      case false =>
       rw[hU] at hlook;have CB:Hid (jh c.ls c.fs j=if (zw x.days 1 31 && zw x.count 1 x.days)=true then 0 else 5):=(by unfold Hid;rw[CA.out,hD,hU];rfl);clear hD hU;cases hM:zw x.days 1 31
       ·have HM:=hid hM;have RQ:Hid (RO=5):=(by unfold Hid;rw[← FA.out,CB.out,hM];rfl);clear hM;go_wp2_with (first|(go_at_call 108;refine(qX _ _ hs).mono ?_;rw[HD.out];rintro e w2 ⟨rfl,rfl⟩)|(go_at_call 56;refine(yi _ _ _ _).mono ?_;rw[HM.out];rintro e w2 ⟨rfl,rfl⟩));go_ret;exact⟨qg (by rw[HWO.out,RQ.out]),B1.out⟩
       ·have HM:=hid hM;cases hY:zw x.count 1 x.days
        ·have HY:=hid hY;have RQ:Hid (RO=5):=(by unfold Hid;rw[← FA.out,CB.out,hM,hY];rfl);clear hM hY;go_wp2_with (first|(go_at_call 108;refine(qX _ _ hs).mono ?_;rw[HD.out];rintro e w2 ⟨rfl,rfl⟩)|(go_at_call 56;refine(yi _ _ _ _).mono ?_;(first|rw[HM.out]|rw[HY.out]);rintro e w2 ⟨rfl,rfl⟩));go_ret;exact⟨qg (by rw[HWO.out,RQ.out]),B1.out⟩
        ·have HY:=hid hY;have RQ:Hid (fe (jh c.ls c.fs) (j+1) (c.fs.length - (j+1))=RO):=(by unfold Hid;rw[← FA.out,CB.out,hM,hY];exact(yg _).symm);clear hM hY;obtain⟨w9,hput,hS9,hG9⟩:=uY S1.out x.name hs' hln;have B9:Hid (Below w.heap.size w w9):=B1.out.grown hG9 B1.out.size (fun m hm=>by cases hm;rw[Z0.out];exact Nat.le_succ _);have S9:Hid (SS w9 w0.heap.size (c.ls.map (·.name)++(c.fs.take (j+1)).map (·.name))):=(by unfold Hid;rw[TS.out,← List.append_assoc];exact hS9);have X9:Hid (CtBox w9 w.heap.size c p):=X1.out.grown hG9 (by rw[Z0.out];omega);clear hS9 hG9;go_wp2_with (first|(go_at_call 108;refine(qX _ _ hs).mono ?_;rw[HD.out];rintro e w2 ⟨rfl,rfl⟩)|(go_at_call 56;refine(yi _ _ _ _).mono ?_;(first|rw[HM.out]|rw[HY.out]);rintro e w2 ⟨rfl,rfl⟩))
         go_roundw
         case rel=>exact⟨j+1,by omega,by go_num,S9.out,B9.out,X9.out,RQ.out⟩
         case measure=>simp[intOf];omega
    ·have hj1:¬(j:Int) < (c.fs.length:Int):=by omega
     have RQ:Hid (RO=0):=(by unfold Hid;rw[← HR.out.2.2.2,jr (by omega)]);go_wp2;go_ret;exact⟨qg (by rw[HWO.out,RQ.out]),HR.out.2.1⟩
theorem Ya(c:Ct):uc c=(zw c.rep 0 1440 && (zw c.rel 0 1440 && (zw c.con 0 1440 && (zw c.sit c.con 1440 && (zw c.lay 0 10080 && (zw c.nf 0 1439 && (zw c.nt 0 1439 && zw c.gua 0 599999))))))):=by
 unfold uc zw;simp only[Bool.decide_and]
theorem Q4(c:Ct)(h:uc c=true)(h2:jB c=true):yj c=kr (Kp c) (kr (JC c) (kr (Ko c) (kr (kx c.cr) (uT c)))):=by
 unfold yj;rw[h,h2];rfl
theorem Q3(c:Ct)(h:uc c=false):yj c=5:=by
 unfold yj;rw[h];rfl
theorem Q5(c:Ct)(h:uc c=true)(h2:jB c=false):yj c=10:=by
 unfold yj;rw[h,h2];rfl
theorem Qc(os:List Co)(j:Nat)(c:Co)(h:os[j]?=some c):zI os j=if YD c.sc=false then 1 else qQ c.a c.k:=by
 unfold zI;rw[h]
theorem uh(c:Ct)(p:Cp)(w:World)(hv:CtV w c p) :
 Calls Tryz.prog 24 #[.agg #[.int .i64 c.rep,.int .i64 c.rel,.int .i64 c.con,.int .i64 c.sit,.int .i64 c.lay,.int .i64 c.nf,.int .i64 c.nt,.slice p.cs c.cs.length p.ccs,.slice p.rs c.rs.length p.crs,.slice p.os c.os.length p.cos,.slice p.cr (len c.cr) p.ccr,.slice p.ls c.ls.length p.cls,.slice p.fs c.fs.length p.cfs,.int .i64 c.gua]] w fun e w'=>e=.returned (.int .i64 (yj c))∧Below w.heap.size w w':=by
 have HV:=hid hv;clear hv;obtain⟨R,hR⟩:∃R,yj c=R:=⟨_,rfl⟩;rw[hR];have GR:=hid (fun h=>(hR.symm.trans (Q3 c h)));have GB:=hid (fun h h2=>(hR.symm.trans (Q5 c h h2)));have GL:=hid (fun h h2=>(hR.symm.trans (Q4 c h h2)));have RE:=hid (Ya c);clear hR;go_enter Tryz.func24,Tryz.ntmps24;go_upto_region 1 with (fail);have X0:=hid (CtBox.start w c p);have B0:Hid (Below w.heap.size w (w.alloc (.cells #[.int .i64 c.rep,.int .i64 c.rel,.int .i64 c.con,.int .i64 c.sit,.int .i64 c.lay,.int .i64 c.nf,.int .i64 c.nt,.slice p.cs c.cs.length p.ccs,.slice p.rs c.rs.length p.crs,.slice p.os c.os.length p.cos,.slice p.cr (len c.cr) p.ccr,.slice p.ls c.ls.length p.cls,.slice p.fs c.fs.length p.cfs,.int .i64 c.gua] 43))):=ba1;generalize w.alloc (.cells #[.int .i64 c.rep,.int .i64 c.rel,.int .i64 c.con,.int .i64 c.sit,.int .i64 c.lay,.int .i64 c.nf,.int .i64 c.nt,.slice p.cs c.cs.length p.ccs,.slice p.rs c.rs.length p.crs,.slice p.os c.os.length p.cos,.slice p.cr (len c.cr) p.ccr,.slice p.ls c.ls.length p.cls,.slice p.fs c.fs.length p.cfs,.int .i64 c.gua] 43)=w0 at *;obtain⟨c0,c1,c2,c3,c4,c5,c6,c7,c8,c9,c10,c11,c12,c13,qD⟩:=X0.out;cases h0:zw c.rep 0 1440
 case false =>
  have H0:=hid h0;have RQ:Hid (R=5):=GR.out (by rw[RE.out];simp[h0]);clear h0;go_wp2_with (go_at_call 56;refine(yi _ _ _ _).mono ?_;(first|rw[H0.out]);rintro e w2 ⟨rfl,rfl⟩);go_ret;exact⟨qg RQ.out.symm,B0.out⟩
 have H0:=hid h0;clear h0;cases h1:zw c.rel 0 1440
 case false =>
  have H1:=hid h1;have RQ:Hid (R=5):=GR.out (by rw[RE.out];simp[h1]);clear h1;go_wp2_with (go_at_call 56;refine(yi _ _ _ _).mono ?_;(first|rw[H0.out]|rw[H1.out]);rintro e w2 ⟨rfl,rfl⟩);go_ret;exact⟨qg RQ.out.symm,B0.out⟩
 have H1:=hid h1;clear h1;cases h2:zw c.con 0 1440
 case false =>
  have H2:=hid h2;have RQ:Hid (R=5):=GR.out (by rw[RE.out];simp[h2]);clear h2;go_wp2_with (go_at_call 56;refine(yi _ _ _ _).mono ?_;(first|rw[H0.out]|rw[H1.out]|rw[H2.out]);rintro e w2 ⟨rfl,rfl⟩);go_ret;exact⟨qg RQ.out.symm,B0.out⟩
 have H2:=hid h2;clear h2;cases h3:zw c.sit c.con 1440
 case false =>
  have H3:=hid h3;have RQ:Hid (R=5):=GR.out (by rw[RE.out];simp[h3]);clear h3;go_wp2_with (go_at_call 56;refine(yi _ _ _ _).mono ?_;(first|rw[H0.out]|rw[H1.out]|rw[H2.out]|rw[H3.out]);rintro e w2 ⟨rfl,rfl⟩);go_ret;exact⟨qg RQ.out.symm,B0.out⟩
 have H3:=hid h3;clear h3;cases h4:zw c.lay 0 10080
 case false =>
  have H4:=hid h4;have RQ:Hid (R=5):=GR.out (by rw[RE.out];simp[h4]);clear h4;go_wp2_with (go_at_call 56;refine(yi _ _ _ _).mono ?_;(first|rw[H0.out]|rw[H1.out]|rw[H2.out]|rw[H3.out]|rw[H4.out]);rintro e w2 ⟨rfl,rfl⟩);go_ret;exact⟨qg RQ.out.symm,B0.out⟩
 have H4:=hid h4;clear h4;cases h5:zw c.nf 0 1439
 case false =>
  have H5:=hid h5;have RQ:Hid (R=5):=GR.out (by rw[RE.out];simp[h5]);clear h5;go_wp2_with (go_at_call 56;refine(yi _ _ _ _).mono ?_;(first|rw[H0.out]|rw[H1.out]|rw[H2.out]|rw[H3.out]|rw[H4.out]|rw[H5.out]);rintro e w2 ⟨rfl,rfl⟩);go_ret;exact⟨qg RQ.out.symm,B0.out⟩
 have H5:=hid h5;clear h5;cases h6:zw c.nt 0 1439
 case false =>
  have H6:=hid h6;have RQ:Hid (R=5):=GR.out (by rw[RE.out];simp[h6]);clear h6;go_wp2_with (go_at_call 56;refine(yi _ _ _ _).mono ?_;(first|rw[H0.out]|rw[H1.out]|rw[H2.out]|rw[H3.out]|rw[H4.out]|rw[H5.out]|rw[H6.out]);rintro e w2 ⟨rfl,rfl⟩);go_ret;exact⟨qg RQ.out.symm,B0.out⟩
 have H6:=hid h6;clear h6;cases h7:zw c.gua 0 599999
 case false =>
  have H7:=hid h7;have RQ:Hid (R=5):=GR.out (by rw[RE.out];simp[h7]);clear h7;go_wp2_with (go_at_call 56;refine(yi _ _ _ _).mono ?_;(first|rw[H0.out]|rw[H1.out]|rw[H2.out]|rw[H3.out]|rw[H4.out]|rw[H5.out]|rw[H6.out]|rw[H7.out]);rintro e w2 ⟨rfl,rfl⟩);go_ret;exact⟨qg RQ.out.symm,B0.out⟩
 have H7:=hid h7;clear h7;have HR:Hid (uc c=true):=by unfold Hid;rw[RE.out,H0.out,H1.out,H2.out,H3.out,H4.out,H5.out,H6.out,H7.out];rfl
 go_upto_region 10 with (go_at_call 56;refine(yi _ _ _ _).mono ?_;(first|rw[H0.out]|rw[H1.out]|rw[H2.out]|rw[H3.out]|rw[H4.out]|rw[H5.out]|rw[H6.out]|rw[H7.out]);rintro e w2 ⟨rfl,rfl⟩);clear H0 H1 H2 H3 H4 H5 H6 H7
 by_cases l0:c.cs.length≤32
 case neg =>
  have q1:32 < c.cs.length:=by omega
  have q2:(32:Int) < (c.cs.length:Int):=by omega
  have RQ:Hid (R=10):=GB.out HR.out (by unfold jB;exact decide_eq_false (fun q=>by omega));go_wp2;go_ret;exact⟨qg RQ.out.symm,B0.out⟩
 have i0:¬(32:Int) < (c.cs.length:Int):=by omega
 by_cases l1:c.rs.length≤40
 case neg =>
  have q1:40 < c.rs.length:=by omega
  have q2:(40:Int) < (c.rs.length:Int):=by omega
  have RQ:Hid (R=10):=GB.out HR.out (by unfold jB;exact decide_eq_false (fun q=>by omega));go_wp2;go_ret;exact⟨qg RQ.out.symm,B0.out⟩
 have i1:¬(40:Int) < (c.rs.length:Int):=by omega
 by_cases l2:c.os.length≤16
 case neg =>
  have q1:16 < c.os.length:=by omega
  have q2:(16:Int) < (c.os.length:Int):=by omega
  have RQ:Hid (R=10):=GB.out HR.out (by unfold jB;exact decide_eq_false (fun q=>by omega));go_wp2;go_ret;exact⟨qg RQ.out.symm,B0.out⟩
 have i2:¬(16:Int) < (c.os.length:Int):=by omega
 by_cases l3:len c.cr≤1
 case neg =>
  have q1:1 < len c.cr:=by omega
  have q2:(1:Int) < (len c.cr:Int):=by omega
  have RQ:Hid (R=10):=GB.out HR.out (by unfold jB;exact decide_eq_false (fun q=>by omega));go_wp2;go_ret;exact⟨qg RQ.out.symm,B0.out⟩
 have i3:¬(1:Int) < (len c.cr:Int):=by omega
 by_cases l4:c.ls.length≤16
 case neg =>
  have q1:16 < c.ls.length:=by omega
  have q2:(16:Int) < (c.ls.length:Int):=by omega
  have RQ:Hid (R=10):=GB.out HR.out (by unfold jB;exact decide_eq_false (fun q=>by omega));go_wp2;go_ret;exact⟨qg RQ.out.symm,B0.out⟩
 have i4:¬(16:Int) < (c.ls.length:Int):=by omega
 by_cases l5:c.fs.length≤16
 case neg =>
  have q1:16 < c.fs.length:=by omega
  have q2:(16:Int) < (c.fs.length:Int):=by omega
  have RQ:Hid (R=10):=GB.out HR.out (by unfold jB;exact decide_eq_false (fun q=>by omega));go_wp2;go_ret;exact⟨qg RQ.out.symm,B0.out⟩
 have i5:¬(16:Int) < (c.fs.length:Int):=by omega
 have G:=hid (GL.out HR.out (by unfold jB;exact decide_eq_true ⟨l0,l1,l2,l3,l4,l5⟩));go_wp2_with fail;clear i0 i1 i2 i3 i4 i5 RE GR GB GL HR;obtain⟨E1,hE1⟩:∃E,Kp c=E:=⟨_,rfl⟩;obtain⟨E2,hE2⟩:∃E,JC c=E:=⟨_,rfl⟩;obtain⟨E3,hE3⟩:∃E,Ko c=E:=⟨_,rfl⟩;obtain⟨E4,hE4⟩:∃E,kx c.cr=E:=⟨_,rfl⟩;obtain⟨E5,hE5⟩:∃E,uT c=E:=⟨_,rfl⟩;rw[hE1,hE2,hE3,hE4,hE5] at G;have HE1:Hid (fe (ze c.cs) 0 c.cs.length=E1):=hE1;have HE2:Hid (fe (yT c.rs) 0 c.rs.length=E2):=hE2;have HE3:Hid (fe (zI c.os) 0 c.os.length=E3):=hE3;have HE4:=hid hE4;have HE5:=hid hE5;clear hE1 hE2 hE3 hE4 hE5;refine(vu c.cs p.cs p.ccs w0 (HV.out.next B0.out).cs l0).mono ?_;rw[HE1.out];rintro e w1 ⟨rfl,hb⟩;have B1:=hid (bt9 B0 hb);have X1:=hid (X0.out.next hb);clear hb c0 c1 c2 c3 c4 c5 c6 c7 c8 c9 c10 c11 c12 c13
 by_cases z1:E1=0
 case neg =>
  have b0:(E1 != 0)=true:=by simp[z1]
  have RQ:Hid (R=E1):=by unfold Hid;rw[G.out,zf z1]
  clear z1;go_wp2;go_ret;exact⟨qg RQ.out.symm,B1.out⟩
 subst z1;rw[yg] at G;have c8:=X1.out.c8;go_wp2_with fail;refine(Qj c.rs p.rs p.crs w1 (HV.out.next B1.out).rs l1).mono ?_;rw[HE2.out];rintro e w2 ⟨rfl,hb⟩;have B2:=hid (bt9 B1 hb);have X2:=hid (X1.out.next hb);clear hb c8
 by_cases z1:E2=0
 case neg =>
  have b0:(E2 != 0)=true:=by simp[z1]
  have RQ:Hid (R=E2):=by unfold Hid;rw[G.out,zf z1]
  clear z1;go_wp2;go_ret;exact⟨qg RQ.out.symm,B2.out⟩
 subst z1;rw[yg] at G;have c9:=X2.out.c9;go_wp2_with fail;clear c9
 go_loopw [86] (fun i wr=>∃j:Nat,j≤c.os.length∧i=.int .i64 j∧Hid (Below w.heap.size w wr∧CtBox wr w.heap.size c p∧fe (zI c.os) j (c.os.length - j)=E3)) (fun i _=>c.os.length - (intOf i).toNat)
 case atStart=>exact⟨0,Nat.zero_le _,rfl,B2.out,X2.out,HE3.out⟩
 case round =>
  obtain⟨j,hj,rfl,HR⟩:=hrel
  by_cases qD:j < c.os.length
  ·obtain ⟨x,hc⟩:∃x,c.os[j]?=some x:=⟨_,List.getElem?_eq_getElem (by omega)⟩;obtain⟨B,O,hp,hP⟩:=(HV.out.os).get hc;obtain⟨d0,⟨⟨d1,d2,d3,d4⟩,hx,hok⟩,-⟩:=hP.next HR.out.1
   have HX:=hid hP.2.1.2.1;have HOK:=hid hok;have hj1:(j:Int) < (c.os.length:Int):=(by omega);have FA:=hid ((kB (f:=zI c.os) qD).symm.trans HR.out.2.2);have CA:=hid (Qc c.os j x hc);clear hP hc hx hok;rw[hp];go_upto_region 26 with (fail);have B1:Hid (Below w.heap.size w (wr.alloc (.cells #[.int .i64 x.sc,.int .i64 x.a.op,.int .i64 x.a.num,.string x.a.name,.slice x.a.ptr (len x.k) x.a.cap] 89))):=HR.out.1.alloc HR.out.1.size _;have X1:Hid (CtBox (wr.alloc (.cells #[.int .i64 x.sc,.int .i64 x.a.op,.int .i64 x.a.num,.string x.a.name,.slice x.a.ptr (len x.k) x.a.cap] 89)) w.heap.size c p):=HR.out.2.1.next ba1
   have e0:(wr.alloc (.cells #[.int .i64 x.sc,.int .i64 x.a.op,.int .i64 x.a.num,.string x.a.name,.slice x.a.ptr (len x.k) x.a.cap] 89)).cell? ⟨wr.heap.size,0,none⟩=some (.int .i64 x.sc):=(by simp[go_sem]);have e1:(wr.alloc (.cells #[.int .i64 x.sc,.int .i64 x.a.op,.int .i64 x.a.num,.string x.a.name,.slice x.a.ptr (len x.k) x.a.cap] 89)).cell? ⟨wr.heap.size,1,none⟩=some (.int .i64 x.a.op):=(by simp[go_sem]);have e2:(wr.alloc (.cells #[.int .i64 x.sc,.int .i64 x.a.op,.int .i64 x.a.num,.string x.a.name,.slice x.a.ptr (len x.k) x.a.cap] 89)).cell? ⟨wr.heap.size,2,none⟩=some (.int .i64 x.a.num):=(by simp[go_sem]);have e3:(wr.alloc (.cells #[.int .i64 x.sc,.int .i64 x.a.op,.int .i64 x.a.num,.string x.a.name,.slice x.a.ptr (len x.k) x.a.cap] 89)).cell? ⟨wr.heap.size,3,none⟩=some (.string x.a.name):=(by simp[go_sem]);have e4:(wr.alloc (.cells #[.int .i64 x.sc,.int .i64 x.a.op,.int .i64 x.a.num,.string x.a.name,.slice x.a.ptr (len x.k) x.a.cap] 89)).cell? ⟨wr.heap.size,4,none⟩=some (.slice x.a.ptr (len x.k) x.a.cap):=(by simp[go_sem]);generalize wr.alloc (.cells #[.int .i64 x.sc,.int .i64 x.a.op,.int .i64 x.a.num,.string x.a.name,.slice x.a.ptr (len x.k) x.a.cap] 89)=w5 at *;clear d0 d1 d2 d3 d4;cases hD:YD x.sc
   ·have HD:=hid hD;have RQ:Hid (E3=1):=(by unfold Hid;rw[← FA.out,CA.out,hD];rfl);clear hD;go_wp2_with (go_at_call 59;refine(jy _ _).mono ?_;rw[HD.out];rintro e w2 ⟨rfl,rfl⟩);go_ret;exact⟨qg (by rw[G.out,RQ.out];rfl),B1.out⟩
   ·have HD:=hid hD;have CQ:Hid (zI c.os j=qQ ⟨x.a.op,x.a.num,x.a.name,x.a.ptr,x.a.cap⟩ x.k):=(by unfold Hid;rw[CA.out,hD];rfl);clear hD;go_wp2_with (go_at_call 59;refine(jy _ _).mono ?_;rw[HD.out];rintro e w2 ⟨rfl,rfl⟩);refine(js x.b x.o _ _ _ _ _ x.k w5 (HX.out.next B1.out) HOK.out).mono ?_;rintro e w3 ⟨rfl,hb⟩;have B3:=hid (bt9 B1 hb);have X3:=hid (X1.out.next hb);generalize qQ ⟨x.a.op,x.a.num,x.a.name,x.a.ptr,x.a.cap⟩ x.k=ve at *;clear hb e0 e1 e2 e3 e4
    by_cases h0:ve=0
    ·have b0:(ve != 0)=false:=by simp[h0]
     have RQ:Hid (fe (zI c.os) (j+1) (c.os.length - (j+1))=E3):=(by unfold Hid;rw[← FA.out,CQ.out,h0,yg]);clear h0;go_wp2
     go_roundw
     case rel=>exact⟨j+1,by omega,by go_num,B3.out,X3.out,RQ.out⟩
     case measure=>simp[intOf];omega
    ·have b0:(ve != 0)=true:=by simp[h0]
     have RQ:Hid (E3=ve):=(by unfold Hid;rw[← FA.out,CQ.out,zf h0]);have RQ2:Hid (R=ve):=(by unfold Hid;rw[G.out,RQ.out,zf h0]);clear h0;go_wp2;go_ret;exact⟨qg RQ2.out.symm,B3.out⟩
  ·have hj1 : ¬(j:Int) < (c.os.length:Int):=by omega
   have RQ:Hid (E3=0):=(by unfold Hid;rw[← HR.out.2.2,jr (by omega)]);have G2:Hid (R=kr E4 E5):=(by unfold Hid;rw[G.out,RQ.out,yg]);have B3:=hid HR.out.1;have X3:=hid HR.out.2.1;have c10:=X3.out.c10;clear HR;obtain⟨hkl,hkok,kb,ko,hkp,-⟩:=HV.out.cr;have HKP:=hid hkp;clear hkp;go_wp2_with fail;clear c10
   go_loopw [104] (fun i wr=>∃(j:Nat) (r:Fo),i=.int .i64 j∧Hid (j+len r=len c.cr∧(∃b o,(r≠.nil→p.cr=some ⟨b,o,none⟩)∧FoAt wr r b (o+j * 4))∧je r∧kx r=E4∧Below w.heap.size w wr∧CtBox wr w.heap.size c p)) (fun i _=>len c.cr - (intOf i).toNat)
   case atStart =>
    obtain⟨-,q1,b,o,q2,q3⟩:=(HV.out.next B3.out).cr;exact⟨0,c.cr,rfl,by omega,⟨b,o,q2,by rw[Nat.zero_mul,Nat.add_zero];exact q3⟩,q1,HE4.out,B3.out,X3.out⟩
   case round =>
    obtain⟨j,r,rfl,HR⟩:=hrel;cases r with
    | nil =>
      have hj:¬(j:Int) < (len c.cr:Int):=(by have:=HR.out.1;simp[len] at this;omega);have RQ:Hid (R=E5):=(by unfold Hid;rw[G2.out,← HR.out.2.2.2.1];exact yg _);have B4:=hid HR.out.2.2.2.2.1;have X4:=hid HR.out.2.2.2.2.2;clear HR;obtain⟨c0,c1,c2,c3,c4,c5,c6,c7,c8,c9,c10,c11,c12,c13,qD⟩:=X4.out;go_wp2_with fail;refine(Jr c p wr (HV.out.next B4.out) l4 l5).mono ?_;rw[HE5.out];rintro e w9 ⟨rfl,hb⟩;have B9:=hid (bt9 B4 hb);clear hb c0 c1 c2 c3 c4 c5 c6 c7 c8 c9 c10 c11 c12 c13;go_wp2;go_ret;exact⟨qg RQ.out.symm,B9.out⟩
    | node b1 o1 a1 k1 r1 =>
      have hj:j < len c.cr:=(by have:=HR.out.1;simp[len] at this;omega);obtain⟨kb,ko,hkp,⟨d0,d1,d2,d3⟩,hp1,hk1,hr1⟩:=HR.out.2.1;have hpe:p.cr=some ⟨kb,ko,none⟩:=hkp (by simp);rw[hpe];have HX:Hid (ExAt wr b1 o1 a1 k1):=⟨hp1,hk1⟩;have HN:=hid hr1;have HOK:=hid HR.out.2.2.1;have CQ:Hid (kr (qQ ⟨a1.op,a1.num,a1.name,a1.ptr,a1.cap⟩ k1) (kx r1)=E4):=HR.out.2.2.2.1;have hj1:(j:Int) < (len c.cr:Int):=(by omega);clear hp1 hk1 hr1 hkp;have B5:Hid (Below wr.heap.size wr (wr.alloc (.cells #[.int .i64 a1.op,.int .i64 a1.num,.string a1.name,.slice a1.ptr (len k1) a1.cap] 24))):=ba1;go_wp2_with fail;refine(js b1 o1 _ _ _ _ _ k1 _ (HX.out.next B5.out) ⟨HOK.out.1,HOK.out.2.1⟩).mono ?_;rintro e w3 ⟨rfl,hb⟩;have B6:Hid (Below wr.heap.size wr w3):=B5.out.trans (hb.mono B5.out.size);have B3:=hid (HR.out.2.2.2.2.1.trans (B6.out.mono HR.out.2.2.2.2.1.size));have X3:=hid (HR.out.2.2.2.2.2.next B6.out);generalize qQ ⟨a1.op,a1.num,a1.name,a1.ptr,a1.cap⟩ k1=ve at *;clear hb d0 d1 d2 d3
      by_cases h0:ve=0
      ·have b0:(ve != 0)=false:=by simp[h0]
       have RQ:Hid (kx r1=E4):=(by unfold Hid;rw[← CQ.out,h0,yg]);clear h0;go_wp2
       go_roundw
       case rel =>
        have q1:=HR.out.1;simp[len] at q1;refine⟨j+1,r1,by go_num,by omega,⟨kb,ko,fun _=>rfl,?_⟩,HOK.out.2.2,RQ.out,B3.out,X3.out⟩;rw[Nat.add_mul,Nat.one_mul,← Nat.add_assoc];exact HN.out.next B6.out
       case measure=>simp[intOf];omega
      ·have b0:(ve != 0)=true:=by simp[h0]
       have RQ2:Hid (R=ve):=(by unfold Hid;rw[G2.out,← CQ.out,zf h0,zf h0]);clear h0;go_wp2;go_ret;exact⟨qg RQ2.out.symm,B3.out⟩
def KeepX(n:Nat)(X:Nat→Prop)(w w':World):Prop:=∀k,k < n→¬X k→w'.heap[k]?=w.heap[k]?
theorem KeepX.refl(n:Nat)(X:Nat→Prop)(w:World):KeepX n X w w:=fun _ _ _=>rfl
theorem KeepX.trans{n:Nat}{X:Nat→Prop}{w a b:World}(h:KeepX n X w a)(h2:KeepX n X a b):KeepX n X w b:=fun k hk ht=>(h2 k hk ht).trans (h k hk ht)
theorem KeepX.mono{n m:Nat}{X:Nat→Prop}{w a:World}(h:KeepX n X w a)(hm:m≤n):KeepX m X w a:=fun k hk ht=>h k (by omega) ht
theorem KeepX.next{n:Nat}{X:Nat→Prop}{w a b:World}(h:KeepX n X w a)(hn:n≤a.heap.size)(hb:Below a.heap.size a b):KeepX n X w b:=h.trans fun k hk _=>hb.block k (by omega)
theorem KeepX.grown{n:Nat}{X:Nat→Prop}{w a b:World}{row:Option Nat}(h:KeepX n X w a)(hn:n≤a.heap.size)(hg:a.grownBy b row)(hr:∀k,row=some k→n≤k∨X k):KeepX n X w b :=
 h.trans fun k hk ht=>hg.block k (by omega) (fun e=>by
  rcases hr k e.symm with q|q
  ·omega
  ·exact ht q)
theorem KeepX.setCell{n:Nat}{X:Nat→Prop}{w a:World}{p:Addr}(h:KeepX n X w a)(hp:X p.block)(u:Value):KeepX n X w (a.setCell p u) :=
 h.trans fun k hk hx=>Below.heap_setCell _ _ _ _ (fun e=>hx (e ▸ hp))
theorem KeepX.weak{n:Nat}{X Y:Nat→Prop}{w a:World}(h:KeepX n X w a)(hx:∀k,X k→Y k):KeepX n Y w a:=fun k hk hy=>h k hk fun q=>hy (hx k q)
theorem KeepX.cell{n:Nat}{X:Nat→Prop}{w w':World}(h:KeepX n X w w'){p:Addr}(h1:p.block < n)(h2:¬X p.block):w'.cell? p=w.cell? p:=World.cell?_of_block (h p.block h1 h2)
theorem FoAt.keepX{n:Nat}{X:Nat→Prop}{w w':World}{T:Fo}{B O:Nat}(h:FoAt w T B O)(ha:FoAv (fun g=>¬X g∧g < n) T B)(hk:KeepX n X w w'):FoAt w' T B O:=by
 induction T generalizing B O with
 | nil=>trivial
 | node b o a k r ihk ihr =>
   obtain⟨⟨h0,h1,h2,h3⟩,hp,hkk,hr⟩:=h;have e:∀i,w'.cell? ⟨B,i,none⟩=w.cell? ⟨B,i,none⟩:=fun i=>hk.cell ha.1.2 ha.1.1;exact⟨⟨by rw[e];exact h0,by rw[e];exact h1,by rw[e];exact h2,by rw[e];exact h3⟩,hp,ihk hkk ha.2.1,ihr hr ha.2.2⟩
theorem FoLt.av{n:Nat}{T:Fo}{B:Nat}(h:FoLt n T B){Av:Nat→Prop}(hA:∀g,g < n→Av g):FoAv Av T B:=by
 induction T generalizing B with
 | nil=>trivial
 | node b o a k r ihk ihr=>exact⟨hA _ h.1,ihk h.2.1,ihr h.2.2⟩
section
variable {α:Type} {cel:α→List Value} {tr:α→Ch} {T:TypeId} {s bs:Nat} {X:Nat→Prop} {v:Value} {L:List α}
theorem Un(hs:∀r,(cel r).length=s)(i j:Nat)(r:α)(hi:L[i]?=some r)(hj:j < s):(L.flatMap cel)[i * s+j]?=(cel r)[j]?:=by
 induction L generalizing i with
 | nil=>simp at hi
 | cons a l ih =>
   cases i with
   | zero =>
     simp at hi;subst hi;rw[List.flatMap_cons,Nat.zero_mul,Nat.zero_add,List.getElem?_append_left (by rw[hs];exact hj)]
   | succ i =>
     have e:(i+1) * s+j=s+(i * s+j):=(by rw[Nat.add_mul,Nat.one_mul];omega);rw[List.flatMap_cons,e,List.getElem?_append_right (by rw[hs];omega),hs,show s+(i * s+j) - s=i * s+j by omega];exact ih i (by simpa using hi)
end
def zV(r:Ru):List Value:=[.int .i64 r.sc,.string r.name,.int .i64 r.a.op,.int .i64 r.a.num,.string r.a.name,.slice r.a.ptr (len r.k) r.a.cap]
def j7(r:Ru):Ch:=⟨r.b,r.o,r.a,r.k⟩
def j3(r:Co):List Value:=[.int .i64 r.sc,.int .i64 r.a.op,.int .i64 r.a.num,.string r.a.name,.slice r.a.ptr (len r.k) r.a.cap]
def jc(r:Co):Ch:=⟨r.b,r.o,r.a,r.k⟩
structure Rw where
 T:TypeId
 s:Nat
 v:Value
 n:Nat
 cells:List Value
 trees:List Ch
def yy(R:Fin 6→Rw)(i:Fin 6)(r:Rw):Fin 6→Rw:=fun j=>if j=i then r else R j
theorem jt(R:Fin 6→Rw)(i:Fin 6)(r:Rw):yy R i r i=r:=by unfold yy;rw[if_pos rfl]
theorem zy(R:Fin 6→Rw){i j:Fin 6}(r:Rw)(h:j≠i):yy R i r j=R j:=by unfold yy;rw[if_neg h]
structure RwF (w:World) (X:Nat→Prop) (bs:Nat) (R:Fin 6→Rw):Prop where
 ow:∀i,w.ownsRow bs (R i).T (R i).s (R i).v (R i).n (R i).cells
 ne:∀i j,i≠j→∀g,(R i).v.ownBlock=some g→(R j).v.ownBlock≠some g
 ch:∀i,∀c∈ (R i).trees,ExAt w c.b c.o c.a c.k∧FoAv (fun g=>¬X g∧∀j,(R j).v.ownBlock≠some g) c.k c.b
 lt:∀k,X k→k < bs
theorem RwF.next{w w2:World}{X:Nat→Prop}{bs:Nat}{R:Fin 6→Rw}(h:RwF w X bs R)(hb:Below w.heap.size w w2):RwF w2 X bs R :=
 ⟨fun i=>own_below (h.ow i) hb,h.ne,fun i c hc=>⟨(h.ch i c hc).1.next hb,(h.ch i c hc).2⟩,h.lt⟩
theorem RwF.set{w:World}{X:Nat→Prop}{bs t:Nat}{R:Fin 6→Rw}(h:RwF w X bs R)(ht:X t)(k:Nat)(u:Value):RwF (w.setCell ⟨t,k,none⟩ u) X bs R:=by
 have g2:=vh w t k u;refine⟨fun i=>(h.ow i).kept g2 ?_,h.ne,fun i c hc=>⟨(h.ch i c hc).1.grownO ((h.ch i c hc).2.mono fun g q e=>q.1 (by rw[← inj e];exact ht)) g2,(h.ch i c hc).2⟩,h.lt⟩;cases q:(R i).v.ownBlock with
 | none=>exact .inl rfl
 | some g=>exact .inr (by simp;have:=(h.ow i).lt g q;have:=h.lt t ht;omega)
theorem RwF.app{w w2:World}{X:Nat→Prop}{bs:Nat}{R:Fin 6→Rw}(h:RwF w X bs R)(i:Fin 6){v':Value}{n':Nat}{cells':List Value}{ts:List Ch}
 (ht:∀c∈ ts,ExAt w c.b c.o c.a c.k∧FoAv (fun g=>¬X g∧∀j,(R j).v.ownBlock≠some g) c.k c.b)
 (ho:w2.ownsRow bs (R i).T (R i).s v' n' cells') (hg:w.grownBy w2 (R i).v.ownBlock) (hob:v'.ownBlock=(R i).v.ownBlock∨v'.ownBlock=some w.heap.size) :
 RwF w2 X bs (yy R i ⟨(R i).T,(R i).s,v',n',cells',(R i).trees++ts⟩):=by
 have old:∀j g,(R j).v.ownBlock=some g→g < w.heap.size:=fun j g q=>((h.ow j).lt g q).2
 have ex:∀c:Ch,ExAt w c.b c.o c.a c.k→FoAv (fun g=>¬X g∧∀j,(R j).v.ownBlock≠some g) c.k c.b→
  ExAt w2 c.b c.o c.a c.k∧FoAv (fun g=>¬X g∧∀j,(yy R i ⟨(R i).T,(R i).s,v',n',cells',(R i).trees++ts⟩ j).v.ownBlock≠some g) c.k c.b:=by
  intro c h1 h2;refine⟨h1.grownO (h2.mono fun g q=>q.2 i) hg,(FoAv.lt h1.2 h2).mono fun g q=>⟨q.1.1,fun j e=>?_⟩⟩
  by_cases hj:j=i
  ·subst hj;rw[jt] at e;rcases hob with hob|hob
   ·exact q.1.2 j (hob.symm.trans e)
   ·have:=inj (hob.symm.trans e);have:=q.2;omega
  ·rw [zy _ _ hj] at e;exact q.1.2 j e
 refine⟨fun j=>?_,fun j k hjk g=>?_,fun j c hc=>?_,h.lt⟩
 ·by_cases hj:j=i
  ·subst hj;rw[jt];exact ho
  ·rw [zy _ _ hj];refine(h.ow j).kept hg ?_;cases q:(R j).v.ownBlock with
   | none=>exact .inl rfl
   | some g=>exact .inr fun e=>h.ne j i hj g q e.symm
 ·by_cases hj:j=i
  ·subst hj;rw[jt,zy _ _ (fun e=>hjk e.symm)];intro q e;rcases hob with hob|hob
   ·exact h.ne j k hjk g (hob.symm.trans q) e
   ·have:=old k g e;have:=inj (hob.symm.trans q);omega
  ·rw [zy _ _ hj]
   by_cases hk:k=i
   ·subst hk;rw[jt];intro q e;rcases hob with hob|hob
    ·exact h.ne j k hjk g q (hob.symm.trans e)
    ·have:=old j g q;have:=inj (hob.symm.trans e);omega
   ·rw[zy _ _ hk];exact h.ne j k hjk g
 ·by_cases hj:j=i
  ·subst hj;rw[jt] at hc;rcases List.mem_append.1 hc with q|q
   ·exact ex c (h.ch j c q).1 (h.ch j c q).2
   ·exact ex c (ht c q).1 (ht c q).2
  ·rw [zy _ _ hj] at hc;exact ex c (h.ch j c hc).1 (h.ch j c hc).2
theorem RwF.row{α:Type}{cel:α→List Value}{tr:α→List Ch}{w:World}{X:Nat→Prop}{bs:Nat}{R:Fin 6→Rw}(h:RwF w X bs R)(i:Fin 6)(L:List α)(s:Nat)(hs:∀r,(cel r).length=s)(h1:(R i).s=s)(h2:(R i).n=L.length)(h3:(R i).cells=L.flatMap cel)(h4:(R i).trees=L.flatMap tr)
 (P:World→Nat→Nat→α→Prop) (hP:∀B O r,r∈ L→(∀j u,(cel r)[j]?=some u→w.cell? ⟨B,O+j,none⟩=some u)→(∀c∈ tr r,ExAt w c.b c.o c.a c.k)→P w B O r) (hl:L.length≤9223372036854775807):∃p cap,(R i).v=.slice p L.length cap∧RowV P s w L p:=by
 have own:=h.ow i;rcases own.2 with ⟨hv,h0⟩|⟨g,cap,cur,hv,hq⟩
 ·have e:L=[]:=List.length_eq_zero_iff.1 (h2.symm.trans h0);subst e;exact⟨none,0,hv,by simp,0,0,fun q=>absurd rfl q,fun i x hi=>by simp at hi⟩
 ·rw [hv,h1,h2,h3] at own;refine⟨_,cap,by rw[hv,h2],hl,g,0,fun _=>rfl,fun k r hk=>?_⟩;have hr:r∈ L:=List.mem_of_getElem? hk;refine hP g _ r hr (fun j u hu=>?_) (fun c hc=>(h.ch i c (by rw[h4];exact List.mem_flatMap.2 ⟨r,hr,hc⟩)).1)
  have hj:j < s:=by
   have:=(List.getElem?_eq_some_iff.1 hu).1;rw[hs] at this;exact this
  have hil:k < L.length:=(List.getElem?_eq_some_iff.1 hk).1
  have hij:k * s+j < L.length * s:=by
   have:(k+1) * s≤L.length * s:=Nat.mul_le_mul_right s hil;rw[Nat.add_mul,Nat.one_mul] at this;omega
  rw[show 0+k * s+j=k * s+j by omega,own.cellAt _ hij,Un hs k j r hk hj];exact hu
structure KpX (X:Nat→Prop) (w w':World):Prop where
 os:w'.os=w.os
 tape:w'.tape=w.tape
 output:w'.output=w.output
 size:w.heap.size≤w'.heap.size
 keep:KeepX w.heap.size X w w'
theorem KpX.refl(X:Nat→Prop)(w:World):KpX X w w:=⟨rfl,rfl,rfl,Nat.le_refl _,KeepX.refl _ _ _⟩
theorem KpX.trans{X:Nat→Prop}{w a b:World}(h:KpX X w a)(h2:KpX X a b):KpX X w b :=
 ⟨h2.os.trans h.os,h2.tape.trans h.tape,h2.output.trans h.output,Nat.le_trans h.size h2.size,h.keep.trans (h2.keep.mono h.size)⟩
theorem KpX.of_below{X:Nat→Prop}{w a:World}(h:Below w.heap.size w a):KpX X w a:=⟨h.os,h.tape,h.output,h.size,fun k hk _=>h.block k hk⟩
theorem KpX.set{X:Nat→Prop}{w:World}{t:Nat}(ht:X t)(k:Nat)(u:Value):KpX X w (w.setCell ⟨t,k,none⟩ u) :=
 ⟨rfl,rfl,rfl,by simp[World.setCell],(KeepX.refl _ _ _).setCell (p:=⟨t,k,none⟩) ht u⟩
theorem KpX.below{X:Nat→Prop}{w a:World}{n:Nat}(h:KpX X w a)(hn:n≤w.heap.size)(hx:∀k,X k→n≤k):Below n w a :=
 ⟨h.os,h.tape,h.output,h.size,fun k hk=>h.keep k (by omega) (fun q=>by have:=hx k q;omega)⟩
theorem JO{w w':World}{B:Nat}{e:TypeId}{size:Nat}{v:Value}{n:Nat}{xs:List Value}(h:w.ownsRow B e size v n xs)(hk:∀g,v.ownBlock=some g→w'.heap[g]?=w.heap[g]?):w'.ownsRow B e size v n xs:=by
 refine⟨h.1,?_⟩;rcases h.2 with q|⟨g,cap,cur,rfl,h1,h2,h3⟩
 ·exact .inl q
 ·exact .inr ⟨g,cap,cur,rfl,h1,by rw[hk g rfl];exact h2,h3⟩
theorem RwF.kpx{w w2:World}{X:Nat→Prop}{bs:Nat}{R:Fin 6→Rw}(h:RwF w X bs R)(hk:KpX X w w2):RwF w2 X bs R :=
 ⟨fun i=>JO (h.ow i) fun g q=>hk.keep g ((h.ow i).lt g q).2 (fun x=>by have:=(h.ow i).lt g q;have:=h.lt g x;omega),h.ne,
  fun i c hc=>⟨⟨(h.ch i c hc).1.1,(h.ch i c hc).1.2.keepX ((FoAv.lt (h.ch i c hc).1.2 (h.ch i c hc).2).mono fun g q=>⟨q.1.1,q.2⟩) hk.keep⟩,(h.ch i c hc).2⟩,h.lt⟩
structure PcB (w:World) (g:Nat) (c:Pc.PC) (vs:Fin 6→Value):Prop where
 c0:w.cell? ⟨g,0,none⟩=some (.int .i64 c.rep)
 c1:w.cell? ⟨g,1,none⟩=some (.int .i64 c.rel)
 c2:w.cell? ⟨g,2,none⟩=some (.int .i64 c.con)
 c3:w.cell? ⟨g,3,none⟩=some (.int .i64 c.sit)
 c4:w.cell? ⟨g,4,none⟩=some (.int .i64 c.lay)
 c5:w.cell? ⟨g,5,none⟩=some (.int .i64 c.nf)
 c6:w.cell? ⟨g,6,none⟩=some (.int .i64 c.nt)
 c7:w.cell? ⟨g,7,none⟩=some (vs 0)
 c8:w.cell? ⟨g,8,none⟩=some (vs 1)
 c9:w.cell? ⟨g,9,none⟩=some (vs 2)
 c10:w.cell? ⟨g,10,none⟩=some (vs 3)
 c11:w.cell? ⟨g,11,none⟩=some (vs 4)
 c12:w.cell? ⟨g,12,none⟩=some (vs 5)
 c13:w.cell? ⟨g,13,none⟩=some (.int .i64 c.gua)
 f0:w.frozen? ⟨g,0,none⟩=false
 f1:w.frozen? ⟨g,1,none⟩=false
 f2:w.frozen? ⟨g,2,none⟩=false
 f3:w.frozen? ⟨g,3,none⟩=false
 f4:w.frozen? ⟨g,4,none⟩=false
 f5:w.frozen? ⟨g,5,none⟩=false
 f6:w.frozen? ⟨g,6,none⟩=false
 f7:w.frozen? ⟨g,7,none⟩=false
 f8:w.frozen? ⟨g,8,none⟩=false
 f9:w.frozen? ⟨g,9,none⟩=false
 f10:w.frozen? ⟨g,10,none⟩=false
 f11:w.frozen? ⟨g,11,none⟩=false
 f12:w.frozen? ⟨g,12,none⟩=false
 f13:w.frozen? ⟨g,13,none⟩=false
 n:∀i,14≤i→w.cell? ⟨g,i,none⟩=none
 lt:g < w.heap.size
theorem PcB.of_block{w w':World}{g:Nat}{c:Pc.PC}{vs:Fin 6→Value}(h:PcB w g c vs)(e:w'.heap[g]?=w.heap[g]?)(hl:w.heap.size≤w'.heap.size):PcB w' g c vs:=by
 have q:∀i,w'.cell? ⟨g,i,none⟩=w.cell? ⟨g,i,none⟩:=fun i=>World.cell?_of_block e;have qf:∀i,w'.frozen? ⟨g,i,none⟩=w.frozen? ⟨g,i,none⟩:=fun i=>World.frozen?_of_block e;obtain⟨c0,c1,c2,c3,c4,c5,c6,c7,c8,c9,c10,c11,c12,c13,f0,f1,f2,f3,f4,f5,f6,f7,f8,f9,f10,f11,f12,f13,n,lt⟩:=h;exact⟨by rw[q];exact c0,by rw[q];exact c1,by rw[q];exact c2,by rw[q];exact c3,by rw[q];exact c4,by rw[q];exact c5,by rw[q];exact c6,by rw[q];exact c7,by rw[q];exact c8,by rw[q];exact c9,by rw[q];exact c10,by rw[q];exact c11,by rw[q];exact c12,by rw[q];exact c13,by rw[qf];exact f0,by rw[qf];exact f1,by rw[qf];exact f2,by rw[qf];exact f3,by rw[qf];exact f4,by rw[qf];exact f5,by rw[qf];exact f6,by rw[qf];exact f7,by rw[qf];exact f8,by rw[qf];exact f9,by rw[qf];exact f10,by rw[qf];exact f11,by rw[qf];exact f12,by rw[qf];exact f13,fun i hi=>by rw[q];exact n i hi,by omega⟩
theorem PcB.next{w w':World}{g:Nat}{c:Pc.PC}{vs:Fin 6→Value}(h:PcB w g c vs)(hb:Below w.heap.size w w'):PcB w' g c vs:=h.of_block (hb.block g h.lt) hb.size
theorem PcB.grown{w w':World}{g:Nat}{c:Pc.PC}{vs:Fin 6→Value}{row:Option Nat}(h:PcB w g c vs)(hg:w.grownBy w' row)(hn:some g≠row):PcB w' g c vs:=h.of_block (hg.block g h.lt hn) hg.size
theorem PcB.set_rep{w:World}{g:Nat}{c:Pc.PC}{vs:Fin 6→Value}(h:PcB w g c vs)(x:Int):PcB (w.setCell ⟨g,0,none⟩ (.int .i64 x)) g { c with rep:=x } vs:=by
 obtain⟨c0,c1,c2,c3,c4,c5,c6,c7,c8,c9,c10,c11,c12,c13,f0,f1,f2,f3,f4,f5,f6,f7,f8,f9,f10,f11,f12,f13,n,lt⟩:=h;refine⟨?_,?_,?_,?_,?_,?_,?_,?_,?_,?_,?_,?_,?_,?_,?_,?_,?_,?_,?_,?_,?_,?_,?_,?_,?_,?_,?_,?_,fun j hj=>by have h1:=n j hj;have h2:j≠0:=(by omega);simp[go_sem,h1,h2],by simp[World.setCell];exact lt⟩<;>simp[go_sem,c0,c1,c2,c3,c4,c5,c6,c7,c8,c9,c10,c11,c12,c13,f0,f1,f2,f3,f4,f5,f6,f7,f8,f9,f10,f11,f12,f13]
theorem PcB.set_rel{w:World}{g:Nat}{c:Pc.PC}{vs:Fin 6→Value}(h:PcB w g c vs)(x:Int):PcB (w.setCell ⟨g,1,none⟩ (.int .i64 x)) g { c with rel:=x } vs:=by
 obtain⟨c0,c1,c2,c3,c4,c5,c6,c7,c8,c9,c10,c11,c12,c13,f0,f1,f2,f3,f4,f5,f6,f7,f8,f9,f10,f11,f12,f13,n,lt⟩:=h;refine⟨?_,?_,?_,?_,?_,?_,?_,?_,?_,?_,?_,?_,?_,?_,?_,?_,?_,?_,?_,?_,?_,?_,?_,?_,?_,?_,?_,?_,fun j hj=>by have h1:=n j hj;have h2:j≠1:=(by omega);simp[go_sem,h1,h2],by simp[World.setCell];exact lt⟩<;>simp[go_sem,c0,c1,c2,c3,c4,c5,c6,c7,c8,c9,c10,c11,c12,c13,f0,f1,f2,f3,f4,f5,f6,f7,f8,f9,f10,f11,f12,f13]
theorem PcB.set_con{w:World}{g:Nat}{c:Pc.PC}{vs:Fin 6→Value}(h:PcB w g c vs)(x:Int):PcB (w.setCell ⟨g,2,none⟩ (.int .i64 x)) g { c with con:=x } vs:=by
 obtain⟨c0,c1,c2,c3,c4,c5,c6,c7,c8,c9,c10,c11,c12,c13,f0,f1,f2,f3,f4,f5,f6,f7,f8,f9,f10,f11,f12,f13,n,lt⟩:=h;refine⟨?_,?_,?_,?_,?_,?_,?_,?_,?_,?_,?_,?_,?_,?_,?_,?_,?_,?_,?_,?_,?_,?_,?_,?_,?_,?_,?_,?_,fun j hj=>by have h1:=n j hj;have h2:j≠2:=(by omega);simp[go_sem,h1,h2],by simp[World.setCell];exact lt⟩<;>simp[go_sem,c0,c1,c2,c3,c4,c5,c6,c7,c8,c9,c10,c11,c12,c13,f0,f1,f2,f3,f4,f5,f6,f7,f8,f9,f10,f11,f12,f13]
theorem PcB.set_sit{w:World}{g:Nat}{c:Pc.PC}{vs:Fin 6→Value}(h:PcB w g c vs)(x:Int):PcB (w.setCell ⟨g,3,none⟩ (.int .i64 x)) g { c with sit:=x } vs:=by
 obtain⟨c0,c1,c2,c3,c4,c5,c6,c7,c8,c9,c10,c11,c12,c13,f0,f1,f2,f3,f4,f5,f6,f7,f8,f9,f10,f11,f12,f13,n,lt⟩:=h;refine⟨?_,?_,?_,?_,?_,?_,?_,?_,?_,?_,?_,?_,?_,?_,?_,?_,?_,?_,?_,?_,?_,?_,?_,?_,?_,?_,?_,?_,fun j hj=>by have h1:=n j hj;have h2:j≠3:=(by omega);simp[go_sem,h1,h2],by simp[World.setCell];exact lt⟩<;>simp[go_sem,c0,c1,c2,c3,c4,c5,c6,c7,c8,c9,c10,c11,c12,c13,f0,f1,f2,f3,f4,f5,f6,f7,f8,f9,f10,f11,f12,f13]
theorem PcB.set_lay{w:World}{g:Nat}{c:Pc.PC}{vs:Fin 6→Value}(h:PcB w g c vs)(x:Int):PcB (w.setCell ⟨g,4,none⟩ (.int .i64 x)) g { c with lay:=x } vs:=by
 obtain⟨c0,c1,c2,c3,c4,c5,c6,c7,c8,c9,c10,c11,c12,c13,f0,f1,f2,f3,f4,f5,f6,f7,f8,f9,f10,f11,f12,f13,n,lt⟩:=h;refine⟨?_,?_,?_,?_,?_,?_,?_,?_,?_,?_,?_,?_,?_,?_,?_,?_,?_,?_,?_,?_,?_,?_,?_,?_,?_,?_,?_,?_,fun j hj=>by have h1:=n j hj;have h2:j≠4:=(by omega);simp[go_sem,h1,h2],by simp[World.setCell];exact lt⟩<;>simp[go_sem,c0,c1,c2,c3,c4,c5,c6,c7,c8,c9,c10,c11,c12,c13,f0,f1,f2,f3,f4,f5,f6,f7,f8,f9,f10,f11,f12,f13]
theorem PcB.set_nf{w:World}{g:Nat}{c:Pc.PC}{vs:Fin 6→Value}(h:PcB w g c vs)(x:Int):PcB (w.setCell ⟨g,5,none⟩ (.int .i64 x)) g { c with nf:=x } vs:=by
 obtain⟨c0,c1,c2,c3,c4,c5,c6,c7,c8,c9,c10,c11,c12,c13,f0,f1,f2,f3,f4,f5,f6,f7,f8,f9,f10,f11,f12,f13,n,lt⟩:=h;refine⟨?_,?_,?_,?_,?_,?_,?_,?_,?_,?_,?_,?_,?_,?_,?_,?_,?_,?_,?_,?_,?_,?_,?_,?_,?_,?_,?_,?_,fun j hj=>by have h1:=n j hj;have h2:j≠5:=(by omega);simp[go_sem,h1,h2],by simp[World.setCell];exact lt⟩<;>simp[go_sem,c0,c1,c2,c3,c4,c5,c6,c7,c8,c9,c10,c11,c12,c13,f0,f1,f2,f3,f4,f5,f6,f7,f8,f9,f10,f11,f12,f13]
theorem PcB.set_nt{w:World}{g:Nat}{c:Pc.PC}{vs:Fin 6→Value}(h:PcB w g c vs)(x:Int):PcB (w.setCell ⟨g,6,none⟩ (.int .i64 x)) g { c with nt:=x } vs:=by
 obtain⟨c0,c1,c2,c3,c4,c5,c6,c7,c8,c9,c10,c11,c12,c13,f0,f1,f2,f3,f4,f5,f6,f7,f8,f9,f10,f11,f12,f13,n,lt⟩:=h;refine⟨?_,?_,?_,?_,?_,?_,?_,?_,?_,?_,?_,?_,?_,?_,?_,?_,?_,?_,?_,?_,?_,?_,?_,?_,?_,?_,?_,?_,fun j hj=>by have h1:=n j hj;have h2:j≠6:=(by omega);simp[go_sem,h1,h2],by simp[World.setCell];exact lt⟩<;>simp[go_sem,c0,c1,c2,c3,c4,c5,c6,c7,c8,c9,c10,c11,c12,c13,f0,f1,f2,f3,f4,f5,f6,f7,f8,f9,f10,f11,f12,f13]
theorem PcB.set_gua{w:World}{g:Nat}{c:Pc.PC}{vs:Fin 6→Value}(h:PcB w g c vs)(x:Int):PcB (w.setCell ⟨g,13,none⟩ (.int .i64 x)) g { c with gua:=x } vs:=by
 obtain⟨c0,c1,c2,c3,c4,c5,c6,c7,c8,c9,c10,c11,c12,c13,f0,f1,f2,f3,f4,f5,f6,f7,f8,f9,f10,f11,f12,f13,n,lt⟩:=h;refine⟨?_,?_,?_,?_,?_,?_,?_,?_,?_,?_,?_,?_,?_,?_,?_,?_,?_,?_,?_,?_,?_,?_,?_,?_,?_,?_,?_,?_,fun j hj=>by have h1:=n j hj;have h2:j≠13:=(by omega);simp[go_sem,h1,h2],by simp[World.setCell];exact lt⟩<;>simp[go_sem,c0,c1,c2,c3,c4,c5,c6,c7,c8,c9,c10,c11,c12,c13,f0,f1,f2,f3,f4,f5,f6,f7,f8,f9,f10,f11,f12,f13]
def qU(vs:Fin 6→Value)(i:Fin 6)(v:Value):Fin 6→Value:=fun j=>if j=i then v else vs j
theorem PcB.row0{w:World}{g:Nat}{c:Pc.PC}{vs:Fin 6→Value}(h:PcB w g c vs)(v:Value):PcB (w.setCell ⟨g,7,none⟩ v) g c (qU vs 0 v):=by
 obtain⟨c0,c1,c2,c3,c4,c5,c6,c7,c8,c9,c10,c11,c12,c13,f0,f1,f2,f3,f4,f5,f6,f7,f8,f9,f10,f11,f12,f13,n,lt⟩:=h;refine⟨?_,?_,?_,?_,?_,?_,?_,?_,?_,?_,?_,?_,?_,?_,?_,?_,?_,?_,?_,?_,?_,?_,?_,?_,?_,?_,?_,?_,fun j hj=>by have h1:=n j hj;have h2:j≠7:=(by omega);simp[go_sem,h1,h2],by simp[World.setCell];exact lt⟩<;>simp[go_sem,qU,c0,c1,c2,c3,c4,c5,c6,c7,c8,c9,c10,c11,c12,c13,f0,f1,f2,f3,f4,f5,f6,f7,f8,f9,f10,f11,f12,f13]
theorem PcB.row1{w:World}{g:Nat}{c:Pc.PC}{vs:Fin 6→Value}(h:PcB w g c vs)(v:Value):PcB (w.setCell ⟨g,8,none⟩ v) g c (qU vs 1 v):=by
 obtain⟨c0,c1,c2,c3,c4,c5,c6,c7,c8,c9,c10,c11,c12,c13,f0,f1,f2,f3,f4,f5,f6,f7,f8,f9,f10,f11,f12,f13,n,lt⟩:=h;refine⟨?_,?_,?_,?_,?_,?_,?_,?_,?_,?_,?_,?_,?_,?_,?_,?_,?_,?_,?_,?_,?_,?_,?_,?_,?_,?_,?_,?_,fun j hj=>by have h1:=n j hj;have h2:j≠8:=(by omega);simp[go_sem,h1,h2],by simp[World.setCell];exact lt⟩<;>simp[go_sem,qU,c0,c1,c2,c3,c4,c5,c6,c7,c8,c9,c10,c11,c12,c13,f0,f1,f2,f3,f4,f5,f6,f7,f8,f9,f10,f11,f12,f13]
theorem PcB.row2{w:World}{g:Nat}{c:Pc.PC}{vs:Fin 6→Value}(h:PcB w g c vs)(v:Value):PcB (w.setCell ⟨g,9,none⟩ v) g c (qU vs 2 v):=by
 obtain⟨c0,c1,c2,c3,c4,c5,c6,c7,c8,c9,c10,c11,c12,c13,f0,f1,f2,f3,f4,f5,f6,f7,f8,f9,f10,f11,f12,f13,n,lt⟩:=h;refine⟨?_,?_,?_,?_,?_,?_,?_,?_,?_,?_,?_,?_,?_,?_,?_,?_,?_,?_,?_,?_,?_,?_,?_,?_,?_,?_,?_,?_,fun j hj=>by have h1:=n j hj;have h2:j≠9:=(by omega);simp[go_sem,h1,h2],by simp[World.setCell];exact lt⟩<;>simp[go_sem,qU,c0,c1,c2,c3,c4,c5,c6,c7,c8,c9,c10,c11,c12,c13,f0,f1,f2,f3,f4,f5,f6,f7,f8,f9,f10,f11,f12,f13]
theorem PcB.row3{w:World}{g:Nat}{c:Pc.PC}{vs:Fin 6→Value}(h:PcB w g c vs)(v:Value):PcB (w.setCell ⟨g,10,none⟩ v) g c (qU vs 3 v):=by
 obtain⟨c0,c1,c2,c3,c4,c5,c6,c7,c8,c9,c10,c11,c12,c13,f0,f1,f2,f3,f4,f5,f6,f7,f8,f9,f10,f11,f12,f13,n,lt⟩:=h;refine⟨?_,?_,?_,?_,?_,?_,?_,?_,?_,?_,?_,?_,?_,?_,?_,?_,?_,?_,?_,?_,?_,?_,?_,?_,?_,?_,?_,?_,fun j hj=>by have h1:=n j hj;have h2:j≠10:=(by omega);simp[go_sem,h1,h2],by simp[World.setCell];exact lt⟩<;>simp[go_sem,qU,c0,c1,c2,c3,c4,c5,c6,c7,c8,c9,c10,c11,c12,c13,f0,f1,f2,f3,f4,f5,f6,f7,f8,f9,f10,f11,f12,f13]
theorem PcB.row4{w:World}{g:Nat}{c:Pc.PC}{vs:Fin 6→Value}(h:PcB w g c vs)(v:Value):PcB (w.setCell ⟨g,11,none⟩ v) g c (qU vs 4 v):=by
 obtain⟨c0,c1,c2,c3,c4,c5,c6,c7,c8,c9,c10,c11,c12,c13,f0,f1,f2,f3,f4,f5,f6,f7,f8,f9,f10,f11,f12,f13,n,lt⟩:=h;refine⟨?_,?_,?_,?_,?_,?_,?_,?_,?_,?_,?_,?_,?_,?_,?_,?_,?_,?_,?_,?_,?_,?_,?_,?_,?_,?_,?_,?_,fun j hj=>by have h1:=n j hj;have h2:j≠11:=(by omega);simp[go_sem,h1,h2],by simp[World.setCell];exact lt⟩<;>simp[go_sem,qU,c0,c1,c2,c3,c4,c5,c6,c7,c8,c9,c10,c11,c12,c13,f0,f1,f2,f3,f4,f5,f6,f7,f8,f9,f10,f11,f12,f13]
theorem PcB.row5{w:World}{g:Nat}{c:Pc.PC}{vs:Fin 6→Value}(h:PcB w g c vs)(v:Value):PcB (w.setCell ⟨g,12,none⟩ v) g c (qU vs 5 v):=by
 obtain⟨c0,c1,c2,c3,c4,c5,c6,c7,c8,c9,c10,c11,c12,c13,f0,f1,f2,f3,f4,f5,f6,f7,f8,f9,f10,f11,f12,f13,n,lt⟩:=h;refine⟨?_,?_,?_,?_,?_,?_,?_,?_,?_,?_,?_,?_,?_,?_,?_,?_,?_,?_,?_,?_,?_,?_,?_,?_,?_,?_,?_,?_,fun j hj=>by have h1:=n j hj;have h2:j≠12:=(by omega);simp[go_sem,h1,h2],by simp[World.setCell];exact lt⟩<;>simp[go_sem,qU,c0,c1,c2,c3,c4,c5,c6,c7,c8,c9,c10,c11,c12,c13,f0,f1,f2,f3,f4,f5,f6,f7,f8,f9,f10,f11,f12,f13]
end Go.Proofs.YtcejjdmnlejbaaaGreatDoor
