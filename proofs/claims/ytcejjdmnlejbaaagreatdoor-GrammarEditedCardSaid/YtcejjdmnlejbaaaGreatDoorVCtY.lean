import Derived.Test.YtcejjdmnlejbaaaGreatDoorVCtW
namespace Go.Proofs.YtcejjdmnlejbaaaGreatDoor
open Lib(hid)
set_option linter.unusedVariables false
set_option linter.unusedSimpArgs false
open Go.ChangeShapes Go.WideShapes Go.ChangeAt Go.RowKit
open Go.Deep (BT)
set_option maxHeartbeats 8000000
set_option maxRecDepth 100000
theorem vY(ls:List Li)(j:Nat)(c:Li)(h:ls[j]?=some c):jz ls j=if yJ c.name=false then 1 else if yG ((ls.take j).map (·.name)) c.name=true then 7 else if yn c.meas=0 then 6 else if (zD c.most 0 599999 && zD c.days 1 31)=true then 0 else 5:=by
 unfold jz;rw[h];simp[zD]
theorem vS(ls:List Li)(fs:List Of)(j:Nat)(c:Of)(h:fs[j]?=some c):jx ls fs j=if yJ c.name=false then 1 else if yG (ls.map (·.name)++(fs.take j).map (·.name)) c.name=true then 7 else if (zD c.days 1 31 && zD c.count 1 c.days)=true then 0 else 5:=by
 unfold jx;rw[h];simp[zD]
theorem J5(c:Ct)(p:Cp)(w:World)(hv:CtV w c p)(hl1:c.ls.length≤16)(hl2:c.fs.length≤16) :
 Calls Tryz.prog 60 #[.agg #[.int .i64 c.rep,.int .i64 c.rel,.int .i64 c.con,.int .i64 c.sit,.int .i64 c.lay,.int .i64 c.nf,.int .i64 c.nt,.slice p.cs c.cs.length p.ccs,.slice p.rs c.rs.length p.crs,.slice p.os c.os.length p.cos,.slice p.cr (len c.cr) p.ccr,.slice p.ls c.ls.length p.cls,.slice p.fs c.fs.length p.cfs,.int .i64 c.gua]] w fun e w'=>e=.returned (.int .i64 (uL c))∧Below w.heap.size w w':=by
 have HV:=hid hv;clear hv;obtain⟨RV,hRT⟩:∃R,uL c=R:=⟨_,rfl⟩;rw[hRT];obtain⟨RL,hRL⟩:∃R,fe (jz c.ls) 0 c.ls.length=R:=⟨_,rfl⟩;obtain⟨RO,hRO⟩:∃R,fe (jx c.ls c.fs) 0 c.fs.length=R:=⟨_,rfl⟩;have HW:Hid (RV=ku RL RO):=by unfold Hid;rw[← hRT,← hRL,← hRO];rfl
 have HWW:=HW;have HL:=hid hRL;have HO:=hid hRO;clear hRT hRL hRO HW;have hmm:=@run_makeMap Tryz.prog;go_enter Tryz.func60,Tryz.ntmps60;go_upto_region 1 with (fail);have X0:=hid (CtBox.start w c p);have B0:Hid (Below w.heap.size w (w.alloc (.cells #[.int .i64 c.rep,.int .i64 c.rel,.int .i64 c.con,.int .i64 c.sit,.int .i64 c.lay,.int .i64 c.nf,.int .i64 c.nt,.slice p.cs c.cs.length p.ccs,.slice p.rs c.rs.length p.crs,.slice p.os c.os.length p.cos,.slice p.cr (len c.cr) p.ccr,.slice p.ls c.ls.length p.cls,.slice p.fs c.fs.length p.cfs,.int .i64 c.gua] 43))):=(Below.refl _ _).alloc (Nat.le_refl _) _;have Z0:Hid ((w.alloc (.cells #[.int .i64 c.rep,.int .i64 c.rel,.int .i64 c.con,.int .i64 c.sit,.int .i64 c.lay,.int .i64 c.nf,.int .i64 c.nt,.slice p.cs c.cs.length p.ccs,.slice p.rs c.rs.length p.crs,.slice p.os c.os.length p.cos,.slice p.cr (len c.cr) p.ccr,.slice p.ls c.ls.length p.cls,.slice p.fs c.fs.length p.cfs,.int .i64 c.gua] 43)).heap.size=w.heap.size+1):=by unfold Hid;simp
 generalize w.alloc (.cells #[.int .i64 c.rep,.int .i64 c.rel,.int .i64 c.con,.int .i64 c.sit,.int .i64 c.lay,.int .i64 c.nf,.int .i64 c.nt,.slice p.cs c.cs.length p.ccs,.slice p.rs c.rs.length p.crs,.slice p.os c.os.length p.cos,.slice p.cr (len c.cr) p.ccr,.slice p.ls c.ls.length p.cls,.slice p.fs c.fs.length p.cfs,.int .i64 c.gua] 43)=w0 at *;go_upto_region 2 with (fail);have c11:=(X0.out.next ((Below.refl _ _).alloc (Nat.le_refl _) (.map #[] 0))).c11;go_wp2_with fail
 go_loopw [12] (fun i wr=>∃j:Nat,j≤c.ls.length∧i=.int .i64 j∧Hid (SS wr w0.heap.size ((c.ls.take j).map (·.name))∧Below w.heap.size w wr∧CtBox wr w.heap.size c p∧fe (jz c.ls) j (c.ls.length - j)=RL)) (fun i _=>c.ls.length - (intOf i).toNat)
 case atStart=>exact⟨0,Nat.zero_le _,rfl,SetM.start _ _ _ _ _,B0.out.alloc B0.out.size _,X0.out.next ((Below.refl _ _).alloc (Nat.le_refl _) _),HL.out⟩
 case round =>
  obtain⟨j,hj,rfl,HR⟩:=hrel
  by_cases qN:j < c.ls.length
  ·obtain ⟨x,hc⟩:∃x,c.ls[j]?=some x:=⟨_,List.getElem?_eq_getElem (by omega)⟩;obtain⟨B,O,hp,hP⟩:=(HV.out.ls).get hc;obtain⟨d0,d1,d2,d3,hb1,hb2,hs,hs2⟩:=hP.next HR.out.2.1
   have hs':x.name.size≤maxLen:=hs;have hj1:(j:Int) < (c.ls.length:Int):=(by omega);have FA:=hid ((k6 (f:=jz c.ls) qN).symm.trans HR.out.2.2.2);have CA:=hid (vY c.ls j x hc);have TS:=hid (jt (·.name) hc);have hln:((c.ls.take j).map (·.name)).length < maxLen:=(by simp[maxLen];omega);clear hP hc hb1 hb2;rw[hp];go_upto_region 5 with (fail);have B1:Hid (Below w.heap.size w (wr.alloc (.cells #[.string x.name,.string x.meas,.int .i64 x.most,.int .i64 x.days] 91))):=HR.out.2.1.alloc HR.out.2.1.size _;have S1:Hid (SS (wr.alloc (.cells #[.string x.name,.string x.meas,.int .i64 x.most,.int .i64 x.days] 91)) w0.heap.size ((c.ls.take j).map (·.name))):=SetM.next HR.out.1 ((Below.refl _ _).alloc (Nat.le_refl _) _)
   have X1:Hid (CtBox (wr.alloc (.cells #[.string x.name,.string x.meas,.int .i64 x.most,.int .i64 x.days] 91)) w.heap.size c p):=HR.out.2.2.1.next ((Below.refl _ _).alloc (Nat.le_refl _) _)
   have hgw:w0.heap.size < wr.heap.size:=SetM.lt HR.out.1;have e0:(wr.alloc (.cells #[.string x.name,.string x.meas,.int .i64 x.most,.int .i64 x.days] 91)).cell? ⟨wr.heap.size,0,none⟩=some (.string x.name):=(by simp[go_sem]);have e1:(wr.alloc (.cells #[.string x.name,.string x.meas,.int .i64 x.most,.int .i64 x.days] 91)).cell? ⟨wr.heap.size,1,none⟩=some (.string x.meas):=(by simp[go_sem]);have e2:(wr.alloc (.cells #[.string x.name,.string x.meas,.int .i64 x.most,.int .i64 x.days] 91)).cell? ⟨wr.heap.size,2,none⟩=some (.int .i64 x.most):=(by simp[go_sem]);have e3:(wr.alloc (.cells #[.string x.name,.string x.meas,.int .i64 x.most,.int .i64 x.days] 91)).cell? ⟨wr.heap.size,3,none⟩=some (.int .i64 x.days):=(by simp[go_sem]);generalize wr.alloc (.cells #[.string x.name,.string x.meas,.int .i64 x.most,.int .i64 x.days] 91)=w1 at *;have hlook:=xq S1.out x.name hs';clear d0 d1 d2 d3;cases hD:yJ x.name
   ·have HD:=hid hD;have RQ:Hid (RL=1):=(by unfold Hid;rw[← FA.out,CA.out,hD];rfl);clear hD;go_wp2_with (go_at_call 108;refine(yc _ _ hs).mono ?_;rw[HD.out];rintro e w2 ⟨rfl,rfl⟩);go_ret;exact⟨qh (by rw[HWW.out,RQ.out];rfl),B1.out⟩
   ·have HD:=hid hD;cases hU:yG ((c.ls.take j).map (·.name)) x.name
    case true =>
     have RQ:Hid (RL=7):=(by unfold Hid;rw[← FA.out,CA.out,hD,hU];rfl);rw[hU] at hlook;clear hD hU;go_wp2_with (go_at_call 108;refine(yc _ _ hs).mono ?_;rw[HD.out];rintro e w2 ⟨rfl,rfl⟩);go_ret;exact⟨qh (by rw[HWW.out,RQ.out];rfl),B1.out⟩
    case false =>
     rw[hU] at hlook;have HKM:=hid (QC x.meas);obtain⟨mk,hmk⟩:∃mk,xc x.meas=mk:=⟨_,rfl⟩;have HK:=hid hmk
     by_cases hm0:mk=0
     ·have RQ:Hid (RL=6):=by unfold Hid;rw[← FA.out,CA.out,hD,hU,if_pos (HKM.out.1 (hmk.trans hm0))];rfl
      have b0:(mk==0)=true:=(by simp[hm0]);clear hD hU hmk hm0;go_wp2_with (first|(go_at_call 108;refine(yc _ _ hs).mono ?_;rw[HD.out];rintro e w2 ⟨rfl,rfl⟩)|(go_at_call 48;refine(je _ _).mono ?_;rw[HK.out];rintro e w2 ⟨rfl,rfl⟩));go_ret;exact⟨qh (by rw[HWW.out,RQ.out];rfl),B1.out⟩
     have b0:(mk==0)=false:=(by simp[hm0]);have CB:Hid (jz c.ls j=if (zD x.most 0 599999 && zD x.days 1 31)=true then 0 else 5):=(by unfold Hid;rw[CA.out,hD,hU,if_neg (c:=yn x.meas=0) (fun q=>hm0 (hmk.symm.trans (HKM.out.2 q)))];rfl);clear hmk hm0;clear hD hU;cases hM:zD x.most 0 599999
     ·have HM:=hid hM;have RQ:Hid (RL=5):=(by unfold Hid;rw[← FA.out,CB.out,hM];rfl);clear hM;go_wp2_with (first|(go_at_call 108;refine(yc _ _ hs).mono ?_;rw[HD.out];rintro e w2 ⟨rfl,rfl⟩)|(go_at_call 48;refine(je _ _).mono ?_;rw[HK.out];rintro e w2 ⟨rfl,rfl⟩)|(go_at_call 56;refine(ym _ _ _ _).mono ?_;rw[HM.out];rintro e w2 ⟨rfl,rfl⟩));go_ret;exact⟨qh (by rw[HWW.out,RQ.out];rfl),B1.out⟩
     ·have HM:=hid hM;cases hY:zD x.days 1 31
      ·have HY:=hid hY;have RQ:Hid (RL=5):=(by unfold Hid;rw[← FA.out,CB.out,hM,hY];rfl);clear hM hY;go_wp2_with (first|(go_at_call 108;refine(yc _ _ hs).mono ?_;rw[HD.out];rintro e w2 ⟨rfl,rfl⟩)|(go_at_call 48;refine(je _ _).mono ?_;rw[HK.out];rintro e w2 ⟨rfl,rfl⟩)|(go_at_call 56;refine(ym _ _ _ _).mono ?_;(first|rw[HM.out]|rw[HY.out]);rintro e w2 ⟨rfl,rfl⟩));go_ret;exact⟨qh (by rw[HWW.out,RQ.out];rfl),B1.out⟩
      ·have HY:=hid hY;have RQ:Hid (fe (jz c.ls) (j+1) (c.ls.length - (j+1))=RL):=(by unfold Hid;rw[← FA.out,CB.out,hM,hY];exact(yk _).symm);clear hM hY;obtain⟨w9,hput,hS9,hG9⟩:=uQ S1.out x.name hs' hln;have B9:Hid (Below w.heap.size w w9):=B1.out.grown hG9 B1.out.size (fun m hm=>by cases hm;rw[Z0.out];exact Nat.le_succ _);have S9:Hid (SS w9 w0.heap.size ((c.ls.take (j+1)).map (·.name))):=(by unfold Hid;rw[TS.out];exact hS9);have X9:Hid (CtBox w9 w.heap.size c p):=X1.out.grown hG9 (by rw[Z0.out];omega);clear hS9 hG9;go_wp2_with (first|(go_at_call 108;refine(yc _ _ hs).mono ?_;rw[HD.out];rintro e w2 ⟨rfl,rfl⟩)|(go_at_call 48;refine(je _ _).mono ?_;rw[HK.out];rintro e w2 ⟨rfl,rfl⟩)|(go_at_call 56;refine(ym _ _ _ _).mono ?_;(first|rw[HM.out]|rw[HY.out]);rintro e w2 ⟨rfl,rfl⟩))
       go_roundw
       case rel=>exact⟨j+1,by omega,by go_num,S9.out,B9.out,X9.out,RQ.out⟩
       case measure=>simp[intOf];omega
  ·have hj1 : ¬(j:Int) < (c.ls.length:Int):=by omega
   have RQ:Hid (RL=0):=(by unfold Hid;rw[← HR.out.2.2.2,jp (by omega)]);have hjE:j=c.ls.length:=(by omega);have c12:=HR.out.2.2.1.c12
   have SW:Hid (SS wr w0.heap.size (c.ls.map (·.name)++(c.fs.take 0).map (·.name))):=by
    have:=HR.out.1;rw[hjE,List.take_length] at this;unfold Hid
    simpa using this
   have BW:=hid HR.out.2.1;have XW:=hid HR.out.2.2.1;have HWO:Hid (RV=RO):=(by unfold Hid;rw[HWW.out,RQ.out,yk]);clear HR hjE;go_wp2_with fail
   go_loopw [49] (fun i wr=>∃j:Nat,j≤c.fs.length∧i=.int .i64 j∧Hid (SS wr w0.heap.size (c.ls.map (·.name)++(c.fs.take j).map (·.name))∧Below w.heap.size w wr∧CtBox wr w.heap.size c p∧fe (jx c.ls c.fs) j (c.fs.length - j)=RO)) (fun i _=>c.fs.length - (intOf i).toNat)
   case atStart=>exact⟨0,Nat.zero_le _,rfl,SW.out,BW.out,XW.out,HO.out⟩
   case round =>
    obtain⟨j,hj,rfl,HR⟩:=hrel
    by_cases qN:j < c.fs.length
    ·obtain ⟨x,hc⟩:∃x,c.fs[j]?=some x:=⟨_,List.getElem?_eq_getElem (by omega)⟩;obtain⟨B,O,hp,hP⟩:=(HV.out.fs).get hc;obtain⟨d0,d1,d2,hb1,hb2,hs⟩:=hP.next HR.out.2.1
     have hs':x.name.size≤maxLen:=hs;have hj1:(j:Int) < (c.fs.length:Int):=(by omega);have FA:=hid ((k6 (f:=jx c.ls c.fs) qN).symm.trans HR.out.2.2.2);have CA:=hid (vS c.ls c.fs j x hc);have TS:=hid (jt (·.name) hc);have hln:(c.ls.map (·.name)++(c.fs.take j).map (·.name)).length < maxLen:=(by simp[maxLen];omega);clear hP hc hb1 hb2;rw[hp];go_upto_region 18 with (fail);have B1:Hid (Below w.heap.size w (wr.alloc (.cells #[.string x.name,.int .i64 x.count,.int .i64 x.days] 93))):=HR.out.2.1.alloc HR.out.2.1.size _;have S1:Hid (SS (wr.alloc (.cells #[.string x.name,.int .i64 x.count,.int .i64 x.days] 93)) w0.heap.size (c.ls.map (·.name)++(c.fs.take j).map (·.name))):=SetM.next HR.out.1 ((Below.refl _ _).alloc (Nat.le_refl _) _)
     have X1:Hid (CtBox (wr.alloc (.cells #[.string x.name,.int .i64 x.count,.int .i64 x.days] 93)) w.heap.size c p):=HR.out.2.2.1.next ((Below.refl _ _).alloc (Nat.le_refl _) _)
     have hgw:w0.heap.size < wr.heap.size:=SetM.lt HR.out.1;have e0:(wr.alloc (.cells #[.string x.name,.int .i64 x.count,.int .i64 x.days] 93)).cell? ⟨wr.heap.size,0,none⟩=some (.string x.name):=(by simp[go_sem]);have e1:(wr.alloc (.cells #[.string x.name,.int .i64 x.count,.int .i64 x.days] 93)).cell? ⟨wr.heap.size,1,none⟩=some (.int .i64 x.count):=(by simp[go_sem]);have e2:(wr.alloc (.cells #[.string x.name,.int .i64 x.count,.int .i64 x.days] 93)).cell? ⟨wr.heap.size,2,none⟩=some (.int .i64 x.days):=(by simp[go_sem]);generalize wr.alloc (.cells #[.string x.name,.int .i64 x.count,.int .i64 x.days] 93)=w1 at *;have hlook:=xq S1.out x.name hs';clear d0 d1 d2;cases hD:yJ x.name
     ·have HD:=hid hD;have RQ:Hid (RO=1):=(by unfold Hid;rw[← FA.out,CA.out,hD];rfl);clear hD;go_wp2_with (go_at_call 108;refine(yc _ _ hs).mono ?_;rw[HD.out];rintro e w2 ⟨rfl,rfl⟩);go_ret;exact⟨qh (by rw[HWO.out,RQ.out]),B1.out⟩
     ·have HD:=hid hD;cases hU:yG (c.ls.map (·.name)++(c.fs.take j).map (·.name)) x.name
      case true =>
       have RQ:Hid (RO=7):=(by unfold Hid;rw[← FA.out,CA.out,hD,hU];rfl);rw[hU] at hlook;clear hD hU;go_wp2_with (go_at_call 108;refine(yc _ _ hs).mono ?_;rw[HD.out];rintro e w2 ⟨rfl,rfl⟩);go_ret;exact⟨qh (by rw[HWO.out,RQ.out]),B1.out⟩
      case false =>
       rw[hU] at hlook;have CB:Hid (jx c.ls c.fs j=if (zD x.days 1 31 && zD x.count 1 x.days)=true then 0 else 5):=(by unfold Hid;rw[CA.out,hD,hU];rfl);clear hD hU;cases hM:zD x.days 1 31
       ·have HM:=hid hM;have RQ:Hid (RO=5):=(by unfold Hid;rw[← FA.out,CB.out,hM];rfl);clear hM;go_wp2_with (first|(go_at_call 108;refine(yc _ _ hs).mono ?_;rw[HD.out];rintro e w2 ⟨rfl,rfl⟩)|(go_at_call 56;refine(ym _ _ _ _).mono ?_;rw[HM.out];rintro e w2 ⟨rfl,rfl⟩));go_ret;exact⟨qh (by rw[HWO.out,RQ.out]),B1.out⟩
       ·have HM:=hid hM;cases hY:zD x.count 1 x.days
        ·have HY:=hid hY;have RQ:Hid (RO=5):=(by unfold Hid;rw[← FA.out,CB.out,hM,hY];rfl);clear hM hY;go_wp2_with (first|(go_at_call 108;refine(yc _ _ hs).mono ?_;rw[HD.out];rintro e w2 ⟨rfl,rfl⟩)|(go_at_call 56;refine(ym _ _ _ _).mono ?_;(first|rw[HM.out]|rw[HY.out]);rintro e w2 ⟨rfl,rfl⟩));go_ret;exact⟨qh (by rw[HWO.out,RQ.out]),B1.out⟩
        ·have HY:=hid hY;have RQ:Hid (fe (jx c.ls c.fs) (j+1) (c.fs.length - (j+1))=RO):=(by unfold Hid;rw[← FA.out,CB.out,hM,hY];exact(yk _).symm);clear hM hY;obtain⟨w9,hput,hS9,hG9⟩:=uQ S1.out x.name hs' hln;have B9:Hid (Below w.heap.size w w9):=B1.out.grown hG9 B1.out.size (fun m hm=>by cases hm;rw[Z0.out];exact Nat.le_succ _);have S9:Hid (SS w9 w0.heap.size (c.ls.map (·.name)++(c.fs.take (j+1)).map (·.name))):=(by unfold Hid;rw[TS.out,← List.append_assoc];exact hS9);have X9:Hid (CtBox w9 w.heap.size c p):=X1.out.grown hG9 (by rw[Z0.out];omega);clear hS9 hG9;go_wp2_with (first|(go_at_call 108;refine(yc _ _ hs).mono ?_;rw[HD.out];rintro e w2 ⟨rfl,rfl⟩)|(go_at_call 56;refine(ym _ _ _ _).mono ?_;(first|rw[HM.out]|rw[HY.out]);rintro e w2 ⟨rfl,rfl⟩))
         go_roundw
         case rel=>exact⟨j+1,by omega,by go_num,S9.out,B9.out,X9.out,RQ.out⟩
         case measure=>simp[intOf];omega
    ·have hj1:¬(j:Int) < (c.fs.length:Int):=by omega
     have RQ:Hid (RO=0):=(by unfold Hid;rw[← HR.out.2.2.2,jp (by omega)]);go_wp2;go_ret;exact⟨qh (by rw[HWO.out,RQ.out]),HR.out.2.1⟩
theorem QY(c:Ct):uW c=(zD c.rep 0 1440 && (zD c.rel 0 1440 && (zD c.con 0 1440 && (zD c.sit c.con 1440 && (zD c.lay 0 10080 && (zD c.nf 0 1439 && (zD c.nt 0 1439 && zD c.gua 0 599999))))))):=by
 unfold uW zD;simp only[Bool.decide_and]
theorem Q8(c:Ct)(h:uW c=true)(h2:jJ c=true):yP c=ku (JO c) (ku (Jm c) (ku (JN c) (ku (kL c.cr) (uL c)))):=by
 unfold yP;rw[h,h2];rfl
theorem Q7(c:Ct)(h:uW c=false):yP c=5:=by
 unfold yP;rw[h];rfl
theorem Q9(c:Ct)(h:uW c=true)(h2:jJ c=false):yP c=10:=by
 unfold yP;rw[h,h2];rfl
theorem Qe(os:List Co)(j:Nat)(c:Co)(h:os[j]?=some c):zX os j=if Jk c.sc=false then 1 else yF c.a c.k:=by
 unfold zX;rw[h]
theorem JF(c:Ct)(p:Cp)(w:World)(hv:CtV w c p) :
 Calls Tryz.prog 24 #[.agg #[.int .i64 c.rep,.int .i64 c.rel,.int .i64 c.con,.int .i64 c.sit,.int .i64 c.lay,.int .i64 c.nf,.int .i64 c.nt,.slice p.cs c.cs.length p.ccs,.slice p.rs c.rs.length p.crs,.slice p.os c.os.length p.cos,.slice p.cr (len c.cr) p.ccr,.slice p.ls c.ls.length p.cls,.slice p.fs c.fs.length p.cfs,.int .i64 c.gua]] w fun e w'=>e=.returned (.int .i64 (yP c))∧Below w.heap.size w w':=by
 have HV:=hid hv;clear hv;obtain⟨R,hR⟩:∃R,yP c=R:=⟨_,rfl⟩;rw[hR];have GR:=hid (fun h=>(hR.symm.trans (Q7 c h)));have GB:=hid (fun h h2=>(hR.symm.trans (Q9 c h h2)));have GL:=hid (fun h h2=>(hR.symm.trans (Q8 c h h2)));have RE:=hid (QY c);clear hR;go_enter Tryz.func24,Tryz.ntmps24;go_upto_region 1 with (fail);have X0:=hid (CtBox.start w c p);have B0:Hid (Below w.heap.size w (w.alloc (.cells #[.int .i64 c.rep,.int .i64 c.rel,.int .i64 c.con,.int .i64 c.sit,.int .i64 c.lay,.int .i64 c.nf,.int .i64 c.nt,.slice p.cs c.cs.length p.ccs,.slice p.rs c.rs.length p.crs,.slice p.os c.os.length p.cos,.slice p.cr (len c.cr) p.ccr,.slice p.ls c.ls.length p.cls,.slice p.fs c.fs.length p.cfs,.int .i64 c.gua] 43))):=(Below.refl _ _).alloc (Nat.le_refl _) _;generalize w.alloc (.cells #[.int .i64 c.rep,.int .i64 c.rel,.int .i64 c.con,.int .i64 c.sit,.int .i64 c.lay,.int .i64 c.nf,.int .i64 c.nt,.slice p.cs c.cs.length p.ccs,.slice p.rs c.rs.length p.crs,.slice p.os c.os.length p.cos,.slice p.cr (len c.cr) p.ccr,.slice p.ls c.ls.length p.cls,.slice p.fs c.fs.length p.cfs,.int .i64 c.gua] 43)=w0 at *;obtain⟨c0,c1,c2,c3,c4,c5,c6,c7,c8,c9,c10,c11,c12,c13,qN⟩:=X0.out;cases h0:zD c.rep 0 1440
 case false =>
  have H0:=hid h0;have RQ:Hid (R=5):=GR.out (by rw[RE.out];simp[h0]);clear h0;go_wp2_with (go_at_call 56;refine(ym _ _ _ _).mono ?_;(first|rw[H0.out]);rintro e w2 ⟨rfl,rfl⟩);go_ret;exact⟨qh RQ.out.symm,B0.out⟩
 have H0:=hid h0;clear h0;cases h1:zD c.rel 0 1440
 case false =>
  have H1:=hid h1;have RQ:Hid (R=5):=GR.out (by rw[RE.out];simp[h1]);clear h1;go_wp2_with (go_at_call 56;refine(ym _ _ _ _).mono ?_;(first|rw[H0.out]|rw[H1.out]);rintro e w2 ⟨rfl,rfl⟩);go_ret;exact⟨qh RQ.out.symm,B0.out⟩
 have H1:=hid h1;clear h1;cases h2:zD c.con 0 1440
 case false =>
  have H2:=hid h2;have RQ:Hid (R=5):=GR.out (by rw[RE.out];simp[h2]);clear h2;go_wp2_with (go_at_call 56;refine(ym _ _ _ _).mono ?_;(first|rw[H0.out]|rw[H1.out]|rw[H2.out]);rintro e w2 ⟨rfl,rfl⟩);go_ret;exact⟨qh RQ.out.symm,B0.out⟩
 have H2:=hid h2;clear h2;cases h3:zD c.sit c.con 1440
 case false =>
  have H3:=hid h3;have RQ:Hid (R=5):=GR.out (by rw[RE.out];simp[h3]);clear h3;go_wp2_with (go_at_call 56;refine(ym _ _ _ _).mono ?_;(first|rw[H0.out]|rw[H1.out]|rw[H2.out]|rw[H3.out]);rintro e w2 ⟨rfl,rfl⟩);go_ret;exact⟨qh RQ.out.symm,B0.out⟩
 have H3:=hid h3;clear h3;cases h4:zD c.lay 0 10080
 case false =>
  have H4:=hid h4;have RQ:Hid (R=5):=GR.out (by rw[RE.out];simp[h4]);clear h4;go_wp2_with (go_at_call 56;refine(ym _ _ _ _).mono ?_;(first|rw[H0.out]|rw[H1.out]|rw[H2.out]|rw[H3.out]|rw[H4.out]);rintro e w2 ⟨rfl,rfl⟩);go_ret;exact⟨qh RQ.out.symm,B0.out⟩
 have H4:=hid h4;clear h4;cases h5:zD c.nf 0 1439
 case false =>
  have H5:=hid h5;have RQ:Hid (R=5):=GR.out (by rw[RE.out];simp[h5]);clear h5;go_wp2_with (go_at_call 56;refine(ym _ _ _ _).mono ?_;(first|rw[H0.out]|rw[H1.out]|rw[H2.out]|rw[H3.out]|rw[H4.out]|rw[H5.out]);rintro e w2 ⟨rfl,rfl⟩);go_ret;exact⟨qh RQ.out.symm,B0.out⟩
 have H5:=hid h5;clear h5;cases h6:zD c.nt 0 1439
 case false =>
  have H6:=hid h6;have RQ:Hid (R=5):=GR.out (by rw[RE.out];simp[h6]);clear h6;go_wp2_with (go_at_call 56;refine(ym _ _ _ _).mono ?_;(first|rw[H0.out]|rw[H1.out]|rw[H2.out]|rw[H3.out]|rw[H4.out]|rw[H5.out]|rw[H6.out]);rintro e w2 ⟨rfl,rfl⟩);go_ret;exact⟨qh RQ.out.symm,B0.out⟩
 have H6:=hid h6;clear h6;cases h7:zD c.gua 0 599999
 case false =>
  have H7:=hid h7;have RQ:Hid (R=5):=GR.out (by rw[RE.out];simp[h7]);clear h7;go_wp2_with (go_at_call 56;refine(ym _ _ _ _).mono ?_;(first|rw[H0.out]|rw[H1.out]|rw[H2.out]|rw[H3.out]|rw[H4.out]|rw[H5.out]|rw[H6.out]|rw[H7.out]);rintro e w2 ⟨rfl,rfl⟩);go_ret;exact⟨qh RQ.out.symm,B0.out⟩
 have H7:=hid h7;clear h7;have HR:Hid (uW c=true):=by unfold Hid;rw[RE.out,H0.out,H1.out,H2.out,H3.out,H4.out,H5.out,H6.out,H7.out];rfl
 go_upto_region 10 with (go_at_call 56;refine(ym _ _ _ _).mono ?_;(first|rw[H0.out]|rw[H1.out]|rw[H2.out]|rw[H3.out]|rw[H4.out]|rw[H5.out]|rw[H6.out]|rw[H7.out]);rintro e w2 ⟨rfl,rfl⟩);clear H0 H1 H2 H3 H4 H5 H6 H7
 by_cases l0:c.cs.length≤32
 case neg =>
  have q1:32 < c.cs.length:=by omega
  have q2:(32:Int) < (c.cs.length:Int):=by omega
  have RQ:Hid (R=10):=GB.out HR.out (by unfold jJ;exact decide_eq_false (fun q=>by omega));go_wp2;go_ret;exact⟨qh RQ.out.symm,B0.out⟩
 have i0:¬(32:Int) < (c.cs.length:Int):=by omega
 by_cases l1:c.rs.length≤40
 case neg =>
  have q1:40 < c.rs.length:=by omega
  have q2:(40:Int) < (c.rs.length:Int):=by omega
  have RQ:Hid (R=10):=GB.out HR.out (by unfold jJ;exact decide_eq_false (fun q=>by omega));go_wp2;go_ret;exact⟨qh RQ.out.symm,B0.out⟩
 have i1:¬(40:Int) < (c.rs.length:Int):=by omega
 by_cases l2:c.os.length≤16
 case neg =>
  have q1:16 < c.os.length:=by omega
  have q2:(16:Int) < (c.os.length:Int):=by omega
  have RQ:Hid (R=10):=GB.out HR.out (by unfold jJ;exact decide_eq_false (fun q=>by omega));go_wp2;go_ret;exact⟨qh RQ.out.symm,B0.out⟩
 have i2:¬(16:Int) < (c.os.length:Int):=by omega
 by_cases l3:len c.cr≤1
 case neg =>
  have q1:1 < len c.cr:=by omega
  have q2:(1:Int) < (len c.cr:Int):=by omega
  have RQ:Hid (R=10):=GB.out HR.out (by unfold jJ;exact decide_eq_false (fun q=>by omega));go_wp2;go_ret;exact⟨qh RQ.out.symm,B0.out⟩
 have i3:¬(1:Int) < (len c.cr:Int):=by omega
 by_cases l4:c.ls.length≤16
 case neg =>
  have q1:16 < c.ls.length:=by omega
  have q2:(16:Int) < (c.ls.length:Int):=by omega
  have RQ:Hid (R=10):=GB.out HR.out (by unfold jJ;exact decide_eq_false (fun q=>by omega));go_wp2;go_ret;exact⟨qh RQ.out.symm,B0.out⟩
 have i4:¬(16:Int) < (c.ls.length:Int):=by omega
 by_cases l5:c.fs.length≤16
 case neg =>
  have q1:16 < c.fs.length:=by omega
  have q2:(16:Int) < (c.fs.length:Int):=by omega
  have RQ:Hid (R=10):=GB.out HR.out (by unfold jJ;exact decide_eq_false (fun q=>by omega));go_wp2;go_ret;exact⟨qh RQ.out.symm,B0.out⟩
 have i5:¬(16:Int) < (c.fs.length:Int):=by omega
 have G:=hid (GL.out HR.out (by unfold jJ;exact decide_eq_true ⟨l0,l1,l2,l3,l4,l5⟩));go_wp2_with fail;clear i0 i1 i2 i3 i4 i5 RE GR GB GL HR;obtain⟨E1,hE1⟩:∃E,JO c=E:=⟨_,rfl⟩;obtain⟨E2,hE2⟩:∃E,Jm c=E:=⟨_,rfl⟩;obtain⟨E3,hE3⟩:∃E,JN c=E:=⟨_,rfl⟩;obtain⟨E4,hE4⟩:∃E,kL c.cr=E:=⟨_,rfl⟩;obtain⟨E5,hE5⟩:∃E,uL c=E:=⟨_,rfl⟩;rw[hE1,hE2,hE3,hE4,hE5] at G;have HE1:Hid (fe (zm c.cs) 0 c.cs.length=E1):=hE1;have HE2:Hid (fe (zb c.rs) 0 c.rs.length=E2):=hE2;have HE3:Hid (fe (zX c.os) 0 c.os.length=E3):=hE3;have HE4:=hid hE4;have HE5:=hid hE5;clear hE1 hE2 hE3 hE4 hE5;refine(vu c.cs p.cs p.ccs w0 (HV.out.next B0.out).cs l0).mono ?_;rw[HE1.out];rintro e w1 ⟨rfl,hb⟩;have B1:=hid (B0.out.trans (hb.mono B0.out.size));have X1:=hid (X0.out.next hb);clear hb c0 c1 c2 c3 c4 c5 c6 c7 c8 c9 c10 c11 c12 c13
 by_cases z1:E1=0
 case neg =>
  have b0:(E1 != 0)=true:=by simp[z1]
  have RQ:Hid (R=E1):=by unfold Hid;rw[G.out,zi z1]
  clear z1;go_wp2;go_ret;exact⟨qh RQ.out.symm,B1.out⟩
 subst z1;rw[yk] at G;have c8:=X1.out.c8;go_wp2_with fail;refine(Qk c.rs p.rs p.crs w1 (HV.out.next B1.out).rs l1).mono ?_;rw[HE2.out];rintro e w2 ⟨rfl,hb⟩;have B2:=hid (B1.out.trans (hb.mono B1.out.size));have X2:=hid (X1.out.next hb);clear hb c8
 by_cases z1:E2=0
 case neg =>
  have b0:(E2 != 0)=true:=by simp[z1]
  have RQ:Hid (R=E2):=by unfold Hid;rw[G.out,zi z1]
  clear z1;go_wp2;go_ret;exact⟨qh RQ.out.symm,B2.out⟩
 subst z1;rw[yk] at G;have c9:=X2.out.c9;go_wp2_with fail;clear c9
 go_loopw [86] (fun i wr=>∃j:Nat,j≤c.os.length∧i=.int .i64 j∧Hid (Below w.heap.size w wr∧CtBox wr w.heap.size c p∧fe (zX c.os) j (c.os.length - j)=E3)) (fun i _=>c.os.length - (intOf i).toNat)
 case atStart=>exact⟨0,Nat.zero_le _,rfl,B2.out,X2.out,HE3.out⟩
 case round =>
  obtain⟨j,hj,rfl,HR⟩:=hrel
  by_cases qN:j < c.os.length
  ·obtain ⟨x,hc⟩:∃x,c.os[j]?=some x:=⟨_,List.getElem?_eq_getElem (by omega)⟩;obtain⟨B,O,hp,hP⟩:=(HV.out.os).get hc;obtain⟨d0,⟨⟨d1,d2,d3,d4⟩,hx,hok⟩,-⟩:=hP.next HR.out.1
   have HX:=hid hP.2.1.2.1;have HOK:=hid hok;have hj1:(j:Int) < (c.os.length:Int):=(by omega);have FA:=hid ((k6 (f:=zX c.os) qN).symm.trans HR.out.2.2);have CA:=hid (Qe c.os j x hc);clear hP hc hx hok;rw[hp];go_upto_region 26 with (fail);have B1:Hid (Below w.heap.size w (wr.alloc (.cells #[.int .i64 x.sc,.int .i64 x.a.op,.int .i64 x.a.num,.string x.a.name,.slice x.a.ptr (len x.k) x.a.cap] 89))):=HR.out.1.alloc HR.out.1.size _;have X1:Hid (CtBox (wr.alloc (.cells #[.int .i64 x.sc,.int .i64 x.a.op,.int .i64 x.a.num,.string x.a.name,.slice x.a.ptr (len x.k) x.a.cap] 89)) w.heap.size c p):=HR.out.2.1.next ((Below.refl _ _).alloc (Nat.le_refl _) _)
   have e0:(wr.alloc (.cells #[.int .i64 x.sc,.int .i64 x.a.op,.int .i64 x.a.num,.string x.a.name,.slice x.a.ptr (len x.k) x.a.cap] 89)).cell? ⟨wr.heap.size,0,none⟩=some (.int .i64 x.sc):=(by simp[go_sem]);have e1:(wr.alloc (.cells #[.int .i64 x.sc,.int .i64 x.a.op,.int .i64 x.a.num,.string x.a.name,.slice x.a.ptr (len x.k) x.a.cap] 89)).cell? ⟨wr.heap.size,1,none⟩=some (.int .i64 x.a.op):=(by simp[go_sem]);have e2:(wr.alloc (.cells #[.int .i64 x.sc,.int .i64 x.a.op,.int .i64 x.a.num,.string x.a.name,.slice x.a.ptr (len x.k) x.a.cap] 89)).cell? ⟨wr.heap.size,2,none⟩=some (.int .i64 x.a.num):=(by simp[go_sem]);have e3:(wr.alloc (.cells #[.int .i64 x.sc,.int .i64 x.a.op,.int .i64 x.a.num,.string x.a.name,.slice x.a.ptr (len x.k) x.a.cap] 89)).cell? ⟨wr.heap.size,3,none⟩=some (.string x.a.name):=(by simp[go_sem]);have e4:(wr.alloc (.cells #[.int .i64 x.sc,.int .i64 x.a.op,.int .i64 x.a.num,.string x.a.name,.slice x.a.ptr (len x.k) x.a.cap] 89)).cell? ⟨wr.heap.size,4,none⟩=some (.slice x.a.ptr (len x.k) x.a.cap):=(by simp[go_sem]);generalize wr.alloc (.cells #[.int .i64 x.sc,.int .i64 x.a.op,.int .i64 x.a.num,.string x.a.name,.slice x.a.ptr (len x.k) x.a.cap] 89)=w5 at *;clear d0 d1 d2 d3 d4;cases hD:Jk x.sc
   ·have HD:=hid hD;have RQ:Hid (E3=1):=(by unfold Hid;rw[← FA.out,CA.out,hD];rfl);clear hD;go_wp2_with (go_at_call 59;refine(ju _ _).mono ?_;rw[HD.out];rintro e w2 ⟨rfl,rfl⟩);go_ret;exact⟨qh (by rw[G.out,RQ.out];rfl),B1.out⟩
   ·have HD:=hid hD;have CQ:Hid (zX c.os j=yF ⟨x.a.op,x.a.num,x.a.name,x.a.ptr,x.a.cap⟩ x.k):=(by unfold Hid;rw[CA.out,hD];rfl);clear hD;go_wp2_with (go_at_call 59;refine(ju _ _).mono ?_;rw[HD.out];rintro e w2 ⟨rfl,rfl⟩);refine(jq x.b x.o _ _ _ _ _ x.k w5 (HX.out.next B1.out) HOK.out).mono ?_;rintro e w3 ⟨rfl,hb⟩;have B3:=hid (B1.out.trans (hb.mono B1.out.size));have X3:=hid (X1.out.next hb);generalize yF ⟨x.a.op,x.a.num,x.a.name,x.a.ptr,x.a.cap⟩ x.k=ve at *;clear hb e0 e1 e2 e3 e4
    by_cases h0:ve=0
    ·have b0:(ve != 0)=false:=by simp[h0]
     have RQ:Hid (fe (zX c.os) (j+1) (c.os.length - (j+1))=E3):=(by unfold Hid;rw[← FA.out,CQ.out,h0,yk]);clear h0;go_wp2
     go_roundw
     case rel=>exact⟨j+1,by omega,by go_num,B3.out,X3.out,RQ.out⟩
     case measure=>simp[intOf];omega
    ·have b0:(ve != 0)=true:=by simp[h0]
     have RQ:Hid (E3=ve):=(by unfold Hid;rw[← FA.out,CQ.out,zi h0]);have RQ2:Hid (R=ve):=(by unfold Hid;rw[G.out,RQ.out,zi h0]);clear h0;go_wp2;go_ret;exact⟨qh RQ2.out.symm,B3.out⟩
  ·have hj1 : ¬(j:Int) < (c.os.length:Int):=by omega
   have RQ:Hid (E3=0):=(by unfold Hid;rw[← HR.out.2.2,jp (by omega)]);have G2:Hid (R=ku E4 E5):=(by unfold Hid;rw[G.out,RQ.out,yk]);have B3:=hid HR.out.1;have X3:=hid HR.out.2.1;have c10:=X3.out.c10;clear HR;obtain⟨hkl,hkok,kb,ko,hkp,-⟩:=HV.out.cr;have HKP:=hid hkp;clear hkp;go_wp2_with fail;clear c10
   go_loopw [104] (fun i wr=>∃(j:Nat) (r:Fo),i=.int .i64 j∧Hid (j+len r=len c.cr∧(∃b o,(r≠.nil→p.cr=some ⟨b,o,none⟩)∧FoAt wr r b (o+j * 4))∧jV r∧kL r=E4∧Below w.heap.size w wr∧CtBox wr w.heap.size c p)) (fun i _=>len c.cr - (intOf i).toNat)
   case atStart =>
    obtain⟨-,q1,b,o,q2,q3⟩:=(HV.out.next B3.out).cr;exact⟨0,c.cr,rfl,by omega,⟨b,o,q2,by rw[Nat.zero_mul,Nat.add_zero];exact q3⟩,q1,HE4.out,B3.out,X3.out⟩
   case round =>
    obtain⟨j,r,rfl,HR⟩:=hrel;cases r with
    | nil =>
      have hj:¬(j:Int) < (len c.cr:Int):=(by have:=HR.out.1;simp[len] at this;omega);have RQ:Hid (R=E5):=(by unfold Hid;rw[G2.out,← HR.out.2.2.2.1];exact yk _);have B4:=hid HR.out.2.2.2.2.1;have X4:=hid HR.out.2.2.2.2.2;clear HR;obtain⟨c0,c1,c2,c3,c4,c5,c6,c7,c8,c9,c10,c11,c12,c13,qN⟩:=X4.out;go_wp2_with fail;refine(J5 c p wr (HV.out.next B4.out) l4 l5).mono ?_;rw[HE5.out];rintro e w9 ⟨rfl,hb⟩;have B9:=hid (B4.out.trans (hb.mono B4.out.size));clear hb c0 c1 c2 c3 c4 c5 c6 c7 c8 c9 c10 c11 c12 c13;go_wp2;go_ret;exact⟨qh RQ.out.symm,B9.out⟩
    | node b1 o1 a1 k1 r1 =>
      have hj:j < len c.cr:=(by have:=HR.out.1;simp[len] at this;omega);obtain⟨kb,ko,hkp,⟨d0,d1,d2,d3⟩,hp1,hk1,hr1⟩:=HR.out.2.1;have hpe:p.cr=some ⟨kb,ko,none⟩:=hkp (by simp);rw[hpe];have HX:Hid (ExAt wr b1 o1 a1 k1):=⟨hp1,hk1⟩;have HN:=hid hr1;have HOK:=hid HR.out.2.2.1;have CQ:Hid (ku (yF ⟨a1.op,a1.num,a1.name,a1.ptr,a1.cap⟩ k1) (kL r1)=E4):=HR.out.2.2.2.1;have hj1:(j:Int) < (len c.cr:Int):=(by omega);clear hp1 hk1 hr1 hkp;have B5:Hid (Below wr.heap.size wr (wr.alloc (.cells #[.int .i64 a1.op,.int .i64 a1.num,.string a1.name,.slice a1.ptr (len k1) a1.cap] 24))):=(Below.refl _ _).alloc (Nat.le_refl _) _;go_wp2_with fail;refine(jq b1 o1 _ _ _ _ _ k1 _ (HX.out.next B5.out) ⟨HOK.out.1,HOK.out.2.1⟩).mono ?_;rintro e w3 ⟨rfl,hb⟩;have B6:Hid (Below wr.heap.size wr w3):=B5.out.trans (hb.mono B5.out.size);have B3:=hid (HR.out.2.2.2.2.1.trans (B6.out.mono HR.out.2.2.2.2.1.size));have X3:=hid (HR.out.2.2.2.2.2.next B6.out);generalize yF ⟨a1.op,a1.num,a1.name,a1.ptr,a1.cap⟩ k1=ve at *;clear hb d0 d1 d2 d3
      by_cases h0:ve=0
      ·have b0:(ve != 0)=false:=by simp[h0]
       have RQ:Hid (kL r1=E4):=(by unfold Hid;rw[← CQ.out,h0,yk]);clear h0;go_wp2
       go_roundw
       case rel =>
        have q1:=HR.out.1;simp[len] at q1;refine⟨j+1,r1,by go_num,by omega,⟨kb,ko,fun _=>rfl,?_⟩,HOK.out.2.2,RQ.out,B3.out,X3.out⟩;rw[Nat.add_mul,Nat.one_mul,← Nat.add_assoc];exact HN.out.next B6.out
       case measure=>simp[intOf];omega
      ·have b0:(ve != 0)=true:=by simp[h0]
       have RQ2:Hid (R=ve):=(by unfold Hid;rw[G2.out,← CQ.out,zi h0,zi h0]);clear h0;go_wp2;go_ret;exact⟨qh RQ2.out.symm,B3.out⟩
end Go.Proofs.YtcejjdmnlejbaaaGreatDoor
