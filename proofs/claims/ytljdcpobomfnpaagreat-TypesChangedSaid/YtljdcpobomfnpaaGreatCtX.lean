import Derived.Test.YtljdcpobomfnpaaGreatCtW
namespace Go.Proofs.YtljdcpobomfnpaaGreat
set_option linter.unusedVariables false
set_option linter.unusedSimpArgs false
set_option maxRecDepth 100000
open Go.ChangeShapes Go.WideShapes Go.ChangeAt Go.RowKit
open Go.Deep (BT)
theorem limAt_eq (ls:List Li) (j:Nat) (c:Li) (h:ls[j]?=some c):limAt ls j=if declS c.name=false then 1 else if dupB ((ls.take j).map (·.name)) c.name=true then 7 else if measT c.meas=0 then 6 else if (inB c.most 0 599999 && inB c.days 1 31)=true then 0 else 5:=by
 unfold limAt
 rw [h]
 simp [inB]
theorem offAt_eq (ls:List Li) (fs:List Of) (j:Nat) (c:Of) (h:fs[j]?=some c):offAt ls fs j=if declS c.name=false then 1 else if dupB (ls.map (·.name)++(fs.take j).map (·.name)) c.name=true then 7 else if (inB c.days 1 31 && inB c.count 1 c.days)=true then 0 else 5:=by
 unfold offAt
 rw [h]
 simp [inB]
set_option maxHeartbeats 8000000 in
theorem vwin_any (c:Ct) (p:Cp) (w:World) (hv:CtV w c p) (hl1:c.ls.length≤16) (hl2:c.fs.length≤16) :
 Calls Tryz.prog 38 #[.agg #[.int .i64 c.rep,.int .i64 c.rel,.int .i64 c.con,.int .i64 c.sit,.int .i64 c.lay,.int .i64 c.nf,.int .i64 c.nt,.slice p.cs c.cs.length p.ccs,.slice p.rs c.rs.length p.crs,.slice p.os c.os.length p.cos,.slice p.cr (len c.cr) p.ccr,.slice p.ls c.ls.length p.cls,.slice p.fs c.fs.length p.cfs,.int .i64 c.gua]] w fun e w'=>e=.returned (.int .i64 (winE c))∧Below w.heap.size w w':=by
 have HV:=Lib.hid hv
 clear hv
 obtain ⟨RV,hRT⟩:∃ R,winE c=R:=⟨_,rfl⟩
 rw [hRT]
 obtain ⟨RL,hRL⟩:∃ R,fe (limAt c.ls) 0 c.ls.length=R:=⟨_,rfl⟩
 obtain ⟨RO,hRO⟩:∃ R,fe (offAt c.ls c.fs) 0 c.fs.length=R:=⟨_,rfl⟩
 have HW:Hid (RV=orE RL RO):=by unfold Hid;rw [← hRT,← hRL,← hRO];rfl
 have HWW:=HW
 have HL:=Lib.hid hRL
 have HO:=Lib.hid hRO
 clear hRT hRL hRO HW
 have hmm:=@run_makeMap Tryz.prog
 go_enter Tryz.func38,Tryz.ntmps38
 go_upto_region 1 with (fail)
 have X0:=Lib.hid (CtBox.start w c p)
 have B0:Hid (Below w.heap.size w (w.alloc (.cells #[.int .i64 c.rep,.int .i64 c.rel,.int .i64 c.con,.int .i64 c.sit,.int .i64 c.lay,.int .i64 c.nf,.int .i64 c.nt,.slice p.cs c.cs.length p.ccs,.slice p.rs c.rs.length p.crs,.slice p.os c.os.length p.cos,.slice p.cr (len c.cr) p.ccr,.slice p.ls c.ls.length p.cls,.slice p.fs c.fs.length p.cfs,.int .i64 c.gua] 30))):=(Below.refl _ _).alloc (Nat.le_refl _) _
 have Z0:Hid ((w.alloc (.cells #[.int .i64 c.rep,.int .i64 c.rel,.int .i64 c.con,.int .i64 c.sit,.int .i64 c.lay,.int .i64 c.nf,.int .i64 c.nt,.slice p.cs c.cs.length p.ccs,.slice p.rs c.rs.length p.crs,.slice p.os c.os.length p.cos,.slice p.cr (len c.cr) p.ccr,.slice p.ls c.ls.length p.cls,.slice p.fs c.fs.length p.cfs,.int .i64 c.gua] 30)).heap.size=w.heap.size+1):=by unfold Hid;simp
 generalize w.alloc (.cells #[.int .i64 c.rep,.int .i64 c.rel,.int .i64 c.con,.int .i64 c.sit,.int .i64 c.lay,.int .i64 c.nf,.int .i64 c.nt,.slice p.cs c.cs.length p.ccs,.slice p.rs c.rs.length p.crs,.slice p.os c.os.length p.cos,.slice p.cr (len c.cr) p.ccr,.slice p.ls c.ls.length p.cls,.slice p.fs c.fs.length p.cfs,.int .i64 c.gua] 30)=w0 at *
 go_upto_region 2 with (fail)
 have c11:=(X0.out.next ((Below.refl _ _).alloc (Nat.le_refl _) (.map #[] 0))).c11
 go_wp2_with fail
 go_loopw [12] (fun i wr=>∃ j:Nat,j≤c.ls.length∧i=.int .i64 j∧Hid (SS wr w0.heap.size ((c.ls.take j).map (·.name))∧Below w.heap.size w wr∧CtBox wr w.heap.size c p∧fe (limAt c.ls) j (c.ls.length - j)=RL)) (fun i _=>c.ls.length - (intOf i).toNat)
 case atStart=>exact ⟨0,Nat.zero_le _,rfl,SetM.start _ _ _ _ _,B0.out.alloc B0.out.size _,X0.out.next ((Below.refl _ _).alloc (Nat.le_refl _) _),HL.out⟩
 case round =>
  obtain ⟨j,hj,rfl,HR⟩:=hrel
  by_cases hlt:j < c.ls.length
  · obtain ⟨x,hc⟩:∃ x,c.ls[j]?=some x:=⟨_,List.getElem?_eq_getElem (by omega)⟩
    obtain ⟨B,O,hp,hP⟩:=(HV.out.ls).get hc
    obtain ⟨d0,d1,d2,d3,hb1,hb2,hs,hs2⟩:=hP.next HR.out.2.1
    have hs':x.name.size≤maxLen:=hs
    have hj1:(j:Int) < (c.ls.length:Int):=by omega
    have FA:=Lib.hid ((fe_at (f:=limAt c.ls) hlt).symm.trans HR.out.2.2.2)
    have CA:=Lib.hid (limAt_eq c.ls j x hc)
    have TS:=Lib.hid (take_snoc (·.name) hc)
    have hln:((c.ls.take j).map (·.name)).length < maxLen:=by simp [maxLen];omega
    clear hP hc hb1 hb2
    rw [hp]
    go_upto_region 5 with (fail)
    have B1:Hid (Below w.heap.size w (wr.alloc (.cells #[.string x.name,.string x.meas,.int .i64 x.most,.int .i64 x.days] 108))):=HR.out.2.1.alloc HR.out.2.1.size _
    have S1:Hid (SS (wr.alloc (.cells #[.string x.name,.string x.meas,.int .i64 x.most,.int .i64 x.days] 108)) w0.heap.size ((c.ls.take j).map (·.name))):=SetM.next HR.out.1 ((Below.refl _ _).alloc (Nat.le_refl _) _)
    have X1:Hid (CtBox (wr.alloc (.cells #[.string x.name,.string x.meas,.int .i64 x.most,.int .i64 x.days] 108)) w.heap.size c p):=HR.out.2.2.1.next ((Below.refl _ _).alloc (Nat.le_refl _) _)
    have hgw:w0.heap.size < wr.heap.size:=SetM.lt HR.out.1
    have e0:(wr.alloc (.cells #[.string x.name,.string x.meas,.int .i64 x.most,.int .i64 x.days] 108)).cell? ⟨wr.heap.size,0,none⟩=some (.string x.name):=by simp [go_sem]
    have e1:(wr.alloc (.cells #[.string x.name,.string x.meas,.int .i64 x.most,.int .i64 x.days] 108)).cell? ⟨wr.heap.size,1,none⟩=some (.string x.meas):=by simp [go_sem]
    have e2:(wr.alloc (.cells #[.string x.name,.string x.meas,.int .i64 x.most,.int .i64 x.days] 108)).cell? ⟨wr.heap.size,2,none⟩=some (.int .i64 x.most):=by simp [go_sem]
    have e3:(wr.alloc (.cells #[.string x.name,.string x.meas,.int .i64 x.most,.int .i64 x.days] 108)).cell? ⟨wr.heap.size,3,none⟩=some (.int .i64 x.days):=by simp [go_sem]
    generalize wr.alloc (.cells #[.string x.name,.string x.meas,.int .i64 x.most,.int .i64 x.days] 108)=w1 at *
    have hlook:=ss_look S1.out x.name hs'
    clear d0 d1 d2 d3
    cases hD:declS x.name
    · have HD:=Lib.hid hD
      have RQ:Hid (RL=1):=by unfold Hid;rw [← FA.out,CA.out,hD];rfl
      clear hD
      go_wp2_with (go_at_call 61;refine (isdecl_any _ _ hs).mono ?_;rw [HD.out];rintro e w2 ⟨rfl,rfl⟩)
      go_ret
      exact ⟨ret_int (by rw [HWW.out,RQ.out];rfl),B1.out⟩
    · have HD:=Lib.hid hD
      cases hU:dupB ((c.ls.take j).map (·.name)) x.name
      case true =>
       have RQ:Hid (RL=7):=by unfold Hid;rw [← FA.out,CA.out,hD,hU];rfl
       rw [hU] at hlook
       clear hD hU
       go_wp2_with (go_at_call 61;refine (isdecl_any _ _ hs).mono ?_;rw [HD.out];rintro e w2 ⟨rfl,rfl⟩)
       go_ret
       exact ⟨ret_int (by rw [HWW.out,RQ.out];rfl),B1.out⟩
      case false =>
       rw [hU] at hlook
       have HKM:=Lib.hid (measK_zero x.meas)
       obtain ⟨mk,hmk⟩:∃ mk,measK x.meas=mk:=⟨_,rfl⟩
       have HK:=Lib.hid hmk
       by_cases hm0:mk=0
       · have RQ:Hid (RL=6):=by unfold Hid;rw [← FA.out,CA.out,hD,hU,if_pos (HKM.out.1 (hmk.trans hm0))];rfl
         have b0:(mk==0)=true:=by simp [hm0]
         clear hD hU hmk hm0
         go_wp2_with (first|(go_at_call 61;refine (isdecl_any _ _ hs).mono ?_;rw [HD.out];rintro e w2 ⟨rfl,rfl⟩)|(go_at_call 64;refine (meas_any _ _).mono ?_;rw [HK.out];rintro e w2 ⟨rfl,rfl⟩))
         go_ret
         exact ⟨ret_int (by rw [HWW.out,RQ.out];rfl),B1.out⟩
       have b0:(mk==0)=false:=by simp [hm0]
       have CB:Hid (limAt c.ls j=if (inB x.most 0 599999 && inB x.days 1 31)=true then 0 else 5):=by unfold Hid;rw [CA.out,hD,hU,if_neg (c:=measT x.meas=0) (fun q=>hm0 (hmk.symm.trans (HKM.out.2 q)))];rfl
       clear hmk hm0
       clear hD hU
       cases hM:inB x.most 0 599999
       · have HM:=Lib.hid hM
         have RQ:Hid (RL=5):=by unfold Hid;rw [← FA.out,CB.out,hM];rfl
         clear hM
         go_wp2_with (first|(go_at_call 61;refine (isdecl_any _ _ hs).mono ?_;rw [HD.out];rintro e w2 ⟨rfl,rfl⟩)|(go_at_call 64;refine (meas_any _ _).mono ?_;rw [HK.out];rintro e w2 ⟨rfl,rfl⟩)|(go_at_call 33;refine (within_any _ _ _ _).mono ?_;rw [HM.out];rintro e w2 ⟨rfl,rfl⟩))
         go_ret
         exact ⟨ret_int (by rw [HWW.out,RQ.out];rfl),B1.out⟩
       · have HM:=Lib.hid hM
         cases hY:inB x.days 1 31
         · have HY:=Lib.hid hY
           have RQ:Hid (RL=5):=by unfold Hid;rw [← FA.out,CB.out,hM,hY];rfl
           clear hM hY
           go_wp2_with (first|(go_at_call 61;refine (isdecl_any _ _ hs).mono ?_;rw [HD.out];rintro e w2 ⟨rfl,rfl⟩)|(go_at_call 64;refine (meas_any _ _).mono ?_;rw [HK.out];rintro e w2 ⟨rfl,rfl⟩)|(go_at_call 33;refine (within_any _ _ _ _).mono ?_;(first|rw [HM.out]|rw [HY.out]);rintro e w2 ⟨rfl,rfl⟩))
           go_ret
           exact ⟨ret_int (by rw [HWW.out,RQ.out];rfl),B1.out⟩
         · have HY:=Lib.hid hY
           have RQ:Hid (fe (limAt c.ls) (j+1) (c.ls.length - (j+1))=RL):=by unfold Hid;rw [← FA.out,CB.out,hM,hY];exact (orE_zero _).symm
           clear hM hY
           obtain ⟨w9,hput,hS9,hG9⟩:=ss_put S1.out x.name hs' hln
           have B9:Hid (Below w.heap.size w w9):=B1.out.grown hG9 B1.out.size (fun m hm=>by cases hm;rw [Z0.out];exact Nat.le_succ _)
           have S9:Hid (SS w9 w0.heap.size ((c.ls.take (j+1)).map (·.name))):=by unfold Hid;rw [TS.out];exact hS9
           have X9:Hid (CtBox w9 w.heap.size c p):=X1.out.grown hG9 (by rw [Z0.out];omega)
           clear hS9 hG9
           go_wp2_with (first|(go_at_call 61;refine (isdecl_any _ _ hs).mono ?_;rw [HD.out];rintro e w2 ⟨rfl,rfl⟩)|(go_at_call 64;refine (meas_any _ _).mono ?_;rw [HK.out];rintro e w2 ⟨rfl,rfl⟩)|(go_at_call 33;refine (within_any _ _ _ _).mono ?_;(first|rw [HM.out]|rw [HY.out]);rintro e w2 ⟨rfl,rfl⟩))
           go_roundw
           case rel=>exact ⟨j+1,by omega,by go_num,S9.out,B9.out,X9.out,RQ.out⟩
           case measure=>simp [intOf];omega
  · have hj1 : ¬ (j:Int) < (c.ls.length:Int):=by omega
    have RQ:Hid (RL=0):=by unfold Hid;rw [← HR.out.2.2.2,fe_end (by omega)]
    have hjE:j=c.ls.length:=by omega
    have c12:=HR.out.2.2.1.c12
    have SW:Hid (SS wr w0.heap.size (c.ls.map (·.name)++(c.fs.take 0).map (·.name))):=by
     have:=HR.out.1
     rw [hjE,List.take_length] at this
     unfold Hid
     simpa using this
    have BW:=Lib.hid HR.out.2.1
    have XW:=Lib.hid HR.out.2.2.1
    have HWO:Hid (RV=RO):=by unfold Hid;rw [HWW.out,RQ.out,orE_zero]
    clear HR hjE
    go_wp2_with fail
    go_loopw [49] (fun i wr=>∃ j:Nat,j≤c.fs.length∧i=.int .i64 j∧Hid (SS wr w0.heap.size (c.ls.map (·.name)++(c.fs.take j).map (·.name))∧Below w.heap.size w wr∧CtBox wr w.heap.size c p∧fe (offAt c.ls c.fs) j (c.fs.length - j)=RO)) (fun i _=>c.fs.length - (intOf i).toNat)
    case atStart=>exact ⟨0,Nat.zero_le _,rfl,SW.out,BW.out,XW.out,HO.out⟩
    case round =>
     obtain ⟨j,hj,rfl,HR⟩:=hrel
     by_cases hlt:j < c.fs.length
     · obtain ⟨x,hc⟩:∃ x,c.fs[j]?=some x:=⟨_,List.getElem?_eq_getElem (by omega)⟩
       obtain ⟨B,O,hp,hP⟩:=(HV.out.fs).get hc
       obtain ⟨d0,d1,d2,hb1,hb2,hs⟩:=hP.next HR.out.2.1
       have hs':x.name.size≤maxLen:=hs
       have hj1:(j:Int) < (c.fs.length:Int):=by omega
       have FA:=Lib.hid ((fe_at (f:=offAt c.ls c.fs) hlt).symm.trans HR.out.2.2.2)
       have CA:=Lib.hid (offAt_eq c.ls c.fs j x hc)
       have TS:=Lib.hid (take_snoc (·.name) hc)
       have hln:(c.ls.map (·.name)++(c.fs.take j).map (·.name)).length < maxLen:=by simp [maxLen];omega
       clear hP hc hb1 hb2
       rw [hp]
       go_upto_region 18 with (fail)
       have B1:Hid (Below w.heap.size w (wr.alloc (.cells #[.string x.name,.int .i64 x.count,.int .i64 x.days] 110))):=HR.out.2.1.alloc HR.out.2.1.size _
       have S1:Hid (SS (wr.alloc (.cells #[.string x.name,.int .i64 x.count,.int .i64 x.days] 110)) w0.heap.size (c.ls.map (·.name)++(c.fs.take j).map (·.name))):=SetM.next HR.out.1 ((Below.refl _ _).alloc (Nat.le_refl _) _)
       have X1:Hid (CtBox (wr.alloc (.cells #[.string x.name,.int .i64 x.count,.int .i64 x.days] 110)) w.heap.size c p):=HR.out.2.2.1.next ((Below.refl _ _).alloc (Nat.le_refl _) _)
       have hgw:w0.heap.size < wr.heap.size:=SetM.lt HR.out.1
       have e0:(wr.alloc (.cells #[.string x.name,.int .i64 x.count,.int .i64 x.days] 110)).cell? ⟨wr.heap.size,0,none⟩=some (.string x.name):=by simp [go_sem]
       have e1:(wr.alloc (.cells #[.string x.name,.int .i64 x.count,.int .i64 x.days] 110)).cell? ⟨wr.heap.size,1,none⟩=some (.int .i64 x.count):=by simp [go_sem]
       have e2:(wr.alloc (.cells #[.string x.name,.int .i64 x.count,.int .i64 x.days] 110)).cell? ⟨wr.heap.size,2,none⟩=some (.int .i64 x.days):=by simp [go_sem]
       generalize wr.alloc (.cells #[.string x.name,.int .i64 x.count,.int .i64 x.days] 110)=w1 at *
       have hlook:=ss_look S1.out x.name hs'
       clear d0 d1 d2
       cases hD:declS x.name
       · have HD:=Lib.hid hD
         have RQ:Hid (RO=1):=by unfold Hid;rw [← FA.out,CA.out,hD];rfl
         clear hD
         go_wp2_with (go_at_call 61;refine (isdecl_any _ _ hs).mono ?_;rw [HD.out];rintro e w2 ⟨rfl,rfl⟩)
         go_ret
         exact ⟨ret_int (by rw [HWO.out,RQ.out]),B1.out⟩
       · have HD:=Lib.hid hD
         cases hU:dupB (c.ls.map (·.name)++(c.fs.take j).map (·.name)) x.name
         case true =>
          have RQ:Hid (RO=7):=by unfold Hid;rw [← FA.out,CA.out,hD,hU];rfl
          rw [hU] at hlook
          clear hD hU
          go_wp2_with (go_at_call 61;refine (isdecl_any _ _ hs).mono ?_;rw [HD.out];rintro e w2 ⟨rfl,rfl⟩)
          go_ret
          exact ⟨ret_int (by rw [HWO.out,RQ.out]),B1.out⟩
         case false =>
          rw [hU] at hlook
          have CB:Hid (offAt c.ls c.fs j=if (inB x.days 1 31 && inB x.count 1 x.days)=true then 0 else 5):=by unfold Hid;rw [CA.out,hD,hU];rfl
          clear hD hU
          cases hM:inB x.days 1 31
          · have HM:=Lib.hid hM
            have RQ:Hid (RO=5):=by unfold Hid;rw [← FA.out,CB.out,hM];rfl
            clear hM
            go_wp2_with (first|(go_at_call 61;refine (isdecl_any _ _ hs).mono ?_;rw [HD.out];rintro e w2 ⟨rfl,rfl⟩)|(go_at_call 33;refine (within_any _ _ _ _).mono ?_;rw [HM.out];rintro e w2 ⟨rfl,rfl⟩))
            go_ret
            exact ⟨ret_int (by rw [HWO.out,RQ.out]),B1.out⟩
          · have HM:=Lib.hid hM
            cases hY:inB x.count 1 x.days
            · have HY:=Lib.hid hY
              have RQ:Hid (RO=5):=by unfold Hid;rw [← FA.out,CB.out,hM,hY];rfl
              clear hM hY
              go_wp2_with (first|(go_at_call 61;refine (isdecl_any _ _ hs).mono ?_;rw [HD.out];rintro e w2 ⟨rfl,rfl⟩)|(go_at_call 33;refine (within_any _ _ _ _).mono ?_;(first|rw [HM.out]|rw [HY.out]);rintro e w2 ⟨rfl,rfl⟩))
              go_ret
              exact ⟨ret_int (by rw [HWO.out,RQ.out]),B1.out⟩
            · have HY:=Lib.hid hY
              have RQ:Hid (fe (offAt c.ls c.fs) (j+1) (c.fs.length - (j+1))=RO):=by unfold Hid;rw [← FA.out,CB.out,hM,hY];exact (orE_zero _).symm
              clear hM hY
              obtain ⟨w9,hput,hS9,hG9⟩:=ss_put S1.out x.name hs' hln
              have B9:Hid (Below w.heap.size w w9):=B1.out.grown hG9 B1.out.size (fun m hm=>by cases hm;rw [Z0.out];exact Nat.le_succ _)
              have S9:Hid (SS w9 w0.heap.size (c.ls.map (·.name)++(c.fs.take (j+1)).map (·.name))):=by unfold Hid;rw [TS.out,← List.append_assoc];exact hS9
              have X9:Hid (CtBox w9 w.heap.size c p):=X1.out.grown hG9 (by rw [Z0.out];omega)
              clear hS9 hG9
              go_wp2_with (first|(go_at_call 61;refine (isdecl_any _ _ hs).mono ?_;rw [HD.out];rintro e w2 ⟨rfl,rfl⟩)|(go_at_call 33;refine (within_any _ _ _ _).mono ?_;(first|rw [HM.out]|rw [HY.out]);rintro e w2 ⟨rfl,rfl⟩))
              go_roundw
              case rel=>exact ⟨j+1,by omega,by go_num,S9.out,B9.out,X9.out,RQ.out⟩
              case measure=>simp [intOf];omega
     · have hj1:¬ (j:Int) < (c.fs.length:Int):=by omega
       have RQ:Hid (RO=0):=by unfold Hid;rw [← HR.out.2.2.2,fe_end (by omega)]
       go_wp2
       go_ret
       exact ⟨ret_int (by rw [HWO.out,RQ.out]),HR.out.2.1⟩
end Go.Proofs.YtljdcpobomfnpaaGreat
