import Derived.Test.YtljdcpobomfnpaaGreatCtX
import Derived.Test.YtljdcpobomfnpaaGreatGc
namespace Go.Proofs.YtljdcpobomfnpaaGreat
set_option linter.unusedVariables false
set_option linter.unusedSimpArgs false
set_option maxRecDepth 100000
open Go.ChangeShapes Go.WideShapes Go.ChangeAt Go.RowKit
open Go.Deep (BT)
theorem dup_hit {α β:Type} [DecidableEq β] (f:α→β) {L:List α} {i j:Nat} {y:α} {s:β} (hy:L[i]?=some y) (hij:i < j) (h:f y=s):dupB ((L.take j).map f) s=true:=by
 unfold dupB
 rw [decide_eq_true_eq,List.mem_map]
 exact ⟨y,List.mem_of_getElem? (i:=i) (by rw [List.getElem?_take_of_lt hij];exact hy),h⟩
theorem dup_miss {α β:Type} [DecidableEq β] (f:α→β) {L:List α} {i:Nat} {y:α} {s:β} (hy:L[i]?=some y) (h0:dupB ((L.take i).map f) s=false) (h:f y≠s):dupB ((L.take (i+1)).map f) s=false:=by
 rw [take_snoc f hy,dupB_snoc,h0]
 simp [Ne.symm h]
theorem dup_app {β:Type} [DecidableEq β] (A B:List β) (s:β):dupB (A++B) s=(dupB A s || dupB B s):=by
 unfold dupB
 rw [Bool.eq_iff_iff]
 simp
theorem toList_ne {s t:ByteArray} (h:s≠t):(s.toList==t.toList)=false:=by
 rw [beq_eq_false_iff_ne,Lib.toList_data,Lib.toList_data]
 exact fun q=>h (ByteArray.ext (Array.toList_inj.1 q))
theorem toList_eq {s t:ByteArray} (h:s=t):(s.toList==t.toList)=true:=by rw [h];simp
set_option maxHeartbeats 1000000 in
theorem rwithin_any (n lo hi:Int) (w:World):Calls Tryz.prog 43 #[.int .i64 n,.int .i64 lo,.int .i64 hi] w fun e w'=>e=.returned (.bool (inB n lo hi))∧w=w':=by
 by_cases h1:lo≤n
 · have hb:decide (n ≥ lo)=true:=decide_eq_true h1
   go_enter Tryz.func43,Tryz.ntmps43
   go_wp2
   all_goals
    go_ret
    exact ⟨ret_bool (by unfold inB;simp [h1]),rfl⟩
 · have hb:¬ n ≥ lo:=h1
   go_enter Tryz.func43,Tryz.ntmps43
   go_wp2
   all_goals
    go_ret
    exact ⟨ret_bool (by unfold inB;rw [decide_eq_false (by omega)]),rfl⟩
set_option maxHeartbeats 2000000 in
theorem rmeas_any (s:ByteArray) (w:World):Calls Tryz.prog 59 #[.string s] w fun e w'=>e=.returned (.int .i64 (measT s))∧w=w':=by
 have R:Hid (measT s=if measWords.1.any (fun x=>s.toList==x)=true then 2 else if measWords.2.any (fun x=>s.toList==x)=true then 1 else 0):=by unfold Hid measT;rw [Lib.toList_data]
 go_enter Tryz.func59,Tryz.ntmps59
 go_wp2
 all_goals
  go_ret
  refine ⟨ret_int ?_,rfl⟩
  rw [R.out]
  simp only [measWords,List.any_cons,List.any_nil]
  clear R
  simp_all
set_option maxHeartbeats 8000000 in
theorem rwin_any (c:Ct) (p:Cp) (w:World) (hv:CtV w c p) (hl1:c.ls.length≤16) (hl2:c.fs.length≤16) :
 Calls Tryz.prog 46 #[.agg #[.int .i64 c.rep,.int .i64 c.rel,.int .i64 c.con,.int .i64 c.sit,.int .i64 c.lay,.int .i64 c.nf,.int .i64 c.nt,.slice p.cs c.cs.length p.ccs,.slice p.rs c.rs.length p.crs,.slice p.os c.os.length p.cos,.slice p.cr (len c.cr) p.ccr,.slice p.ls c.ls.length p.cls,.slice p.fs c.fs.length p.cfs,.int .i64 c.gua]] w fun e w'=>e=.returned (.int .i64 (winE c))∧Below w.heap.size w w':=by
 have HV:=Lib.hid hv
 clear hv
 obtain ⟨RV,hRV⟩:∃ R,winE c=R:=⟨_,rfl⟩
 rw [hRV]
 obtain ⟨RL,hRL⟩:∃ R,fe (limAt c.ls) 0 c.ls.length=R:=⟨_,rfl⟩
 obtain ⟨RO,hRO⟩:∃ R,fe (offAt c.ls c.fs) 0 c.fs.length=R:=⟨_,rfl⟩
 have HWW:Hid (RV=orE RL RO):=by unfold Hid;rw [← hRV,← hRL,← hRO];rfl
 have HL:=Lib.hid hRL
 have HO:=Lib.hid hRO
 clear hRV hRL hRO
 go_enter Tryz.func46,Tryz.ntmps46
 go_upto_region 1 with (fail)
 have X0:=Lib.hid (CtBox.start w c p)
 have B0:Hid (Below w.heap.size w (w.alloc (.cells #[.int .i64 c.rep,.int .i64 c.rel,.int .i64 c.con,.int .i64 c.sit,.int .i64 c.lay,.int .i64 c.nf,.int .i64 c.nt,.slice p.cs c.cs.length p.ccs,.slice p.rs c.rs.length p.crs,.slice p.os c.os.length p.cos,.slice p.cr (len c.cr) p.ccr,.slice p.ls c.ls.length p.cls,.slice p.fs c.fs.length p.cfs,.int .i64 c.gua] 30))):=(Below.refl _ _).alloc (Nat.le_refl _) _
 generalize w.alloc (.cells #[.int .i64 c.rep,.int .i64 c.rel,.int .i64 c.con,.int .i64 c.sit,.int .i64 c.lay,.int .i64 c.nf,.int .i64 c.nt,.slice p.cs c.cs.length p.ccs,.slice p.rs c.rs.length p.crs,.slice p.os c.os.length p.cos,.slice p.cr (len c.cr) p.ccr,.slice p.ls c.ls.length p.cls,.slice p.fs c.fs.length p.cfs,.int .i64 c.gua] 30)=w0 at *
 go_wp2_with fail
 go_loopw [3] (fun i wr=>∃ j:Nat,j≤c.ls.length∧i=.int .i64 j∧Hid (Below w.heap.size w wr∧CtBox wr w.heap.size c p∧fe (limAt c.ls) j (c.ls.length - j)=RL)) (fun i _=>c.ls.length - (intOf i).toNat)
 case atStart=>exact ⟨0,Nat.zero_le _,rfl,B0.out,X0.out,HL.out⟩
 case round =>
  obtain ⟨j,hj,rfl,HR⟩:=hrel
  by_cases hlt:j < c.ls.length
  · obtain ⟨x,hc⟩:∃ x,c.ls[j]?=some x:=⟨_,List.getElem?_eq_getElem (by omega)⟩
    obtain ⟨-,BL,OL,hpp,hrow⟩:=HV.out.ls
    have ROW:=Lib.hid hrow
    have HPls:=Lib.hid (hpp (by intro q;rw [q] at hc;simp at hc))
    obtain ⟨d0,d1,d2,d3,-,-,hs,hs2⟩:=(hrow j x hc).next HR.out.1
    have hs':x.name.size≤maxLen:=hs
    have hj1:(j:Int) < (c.ls.length:Int):=by omega
    have hj0:(0:Int)≤(j:Int):=by omega
    have FA:=Lib.hid ((fe_at (f:=limAt c.ls) hlt).symm.trans HR.out.2.2)
    have CA:=Lib.hid (limAt_eq c.ls j x hc)
    have c11:wr.cell? ⟨w.heap.size,11,none⟩=some (.slice (some ⟨BL,OL,none⟩) c.ls.length p.cls):=by rw [← HPls.out];exact (HR.out.2.1).c11
    clear hc hpp hrow
    go_upto_region 5 with (fail)
    have B1:Hid (Below w.heap.size w (wr.alloc (.cells #[.string x.name,.string x.meas,.int .i64 x.most,.int .i64 x.days] 108))):=HR.out.1.alloc HR.out.1.size _
    have X1:Hid (CtBox (wr.alloc (.cells #[.string x.name,.string x.meas,.int .i64 x.most,.int .i64 x.days] 108)) w.heap.size c p):=HR.out.2.1.next ((Below.refl _ _).alloc (Nat.le_refl _) _)
    have e0:(wr.alloc (.cells #[.string x.name,.string x.meas,.int .i64 x.most,.int .i64 x.days] 108)).cell? ⟨wr.heap.size,0,none⟩=some (.string x.name):=by simp [go_sem]
    have e1:(wr.alloc (.cells #[.string x.name,.string x.meas,.int .i64 x.most,.int .i64 x.days] 108)).cell? ⟨wr.heap.size,1,none⟩=some (.string x.meas):=by simp [go_sem]
    have e2:(wr.alloc (.cells #[.string x.name,.string x.meas,.int .i64 x.most,.int .i64 x.days] 108)).cell? ⟨wr.heap.size,2,none⟩=some (.int .i64 x.most):=by simp [go_sem]
    have e3:(wr.alloc (.cells #[.string x.name,.string x.meas,.int .i64 x.most,.int .i64 x.days] 108)).cell? ⟨wr.heap.size,3,none⟩=some (.int .i64 x.days):=by simp [go_sem]
    generalize wr.alloc (.cells #[.string x.name,.string x.meas,.int .i64 x.most,.int .i64 x.days] 108)=w1 at *
    clear d0 d1 d2 d3 HR c11
    generalize wr.heap.size=g at *
    go_wp2_with fail
    refine (rdecl_any x.name w1 hs).mono ?_
    rintro e w2 ⟨he,hb⟩
    have B2:=Lib.hid (B1.out.trans (hb.mono B1.out.size))
    have X2:=Lib.hid (X1.out.next hb)
    have k0:=cell_next e0 hb
    have k1:=cell_next e1 hb
    have k2:=cell_next e2 hb
    have k3:=cell_next e3 hb
    clear hb e0 e1 e2 e3
    cases hD:declS x.name
    · rw [hD] at he
      subst he
      have RQ:Hid (RL=1):=by unfold Hid;rw [← FA.out,CA.out,hD];rfl
      clear hD
      go_wp2
      go_ret
      exact ⟨ret_int (by rw [HWW.out,RQ.out];rfl),B2.out⟩
    rw [hD] at he
    subst he
    have HD:=Lib.hid hD
    clear hD
    have RH:Hid (dupB ((c.ls.take j).map (·.name)) x.name=true→RV=7):=fun hU=>by rw [HWW.out,← FA.out,CA.out,HD.out,hU];rfl
    go_wp2_with fail
    go_loopw [5] (fun kk wq=>∃ i:Nat,i≤j∧kk=.int .i64 i∧Hid (Below w2.heap.size w2 wq∧dupB ((c.ls.take i).map (·.name)) x.name=false)) (fun kk _=>j - (intOf kk).toNat)
    case atStart=>exact ⟨0,Nat.zero_le _,rfl,Below.refl _ _,rfl⟩
    case round =>
     obtain ⟨i,hi,rfl,HI⟩:=hrel
     by_cases hij:i < j
     · obtain ⟨y,hy⟩:∃ y,c.ls[i]?=some y:=⟨_,List.getElem?_eq_getElem (by omega)⟩
       have hij':(i:Int) < (j:Int):=by omega
       have hil:(i:Int) < (c.ls.length:Int):=by omega
       have hi0:(0:Int)≤(i:Int):=by omega
       have q0:=cell_next (ROW.out i y hy).1 (B2.out.trans (HI.out.1.mono B2.out.size))
       have c11:wr.cell? ⟨w.heap.size,11,none⟩=some (.slice (some ⟨BL,OL,none⟩) c.ls.length p.cls):=by rw [← HPls.out];exact (X2.out.next HI.out.1).c11
       have f0:=cell_next k0 HI.out.1
       have f1:=cell_next k1 HI.out.1
       have f2:=cell_next k2 HI.out.1
       have f3:=cell_next k3 HI.out.1
       have HY:=Lib.hid hy
       clear hy
       by_cases hq:y.name=x.name
       · have hb:=toList_eq hq
         have RQ:=Lib.hid (RH.out (dup_hit (·.name) HY.out hij hq))
         clear hq
         go_wp2_with fail
         go_quiet (fail)
         go_wp2
         go_ret
         exact ⟨ret_int RQ.out.symm,below_drewN (B2.out.trans (HI.out.1.mono B2.out.size)) _⟩
       · have hb:=toList_ne hq
         have HQ:=Lib.hid hq
         clear hq
         go_wp2_with fail
         go_quiet (fail)
         go_wp2
         go_roundw
         case rel=>exact ⟨i+1,by omega,by go_num,below_drewN HI.out.1 _,dup_miss (·.name) HY.out HI.out.2 HQ.out⟩
         case measure=>simp [intOf];omega
     have hij':¬ (i:Int) < (j:Int):=by omega
     have NB:=Lib.hid HI.out.1
     have ND:Hid (dupB ((c.ls.take j).map (·.name)) x.name=false):=by unfold Hid;rw [show j=i by omega];exact HI.out.2
     have DD:Hid (dupB ((c.ls.take j).map (·.name)) x.name=false):=ND.out
     have B3:=Lib.hid (B2.out.trans (NB.out.mono B2.out.size))
     have X3:=Lib.hid (X2.out.next NB.out)
     have n0:=cell_next k0 NB.out
     have n1:=cell_next k1 NB.out
     have n2:=cell_next k2 NB.out
     have n3:=cell_next k3 NB.out
     clear k0 k1 k2 k3 HI NB ND
     obtain ⟨mk,hmk⟩:∃ mk,measT x.meas=mk:=⟨_,rfl⟩
     have HK:=Lib.hid hmk
     by_cases hm0:mk=0
     · have RQ:Hid (RL=6):=by unfold Hid;rw [← FA.out,CA.out,HD.out,DD.out,if_pos (hmk.trans hm0)];rfl
       have b0:(mk==0)=true:=by simp [hm0]
       clear hmk hm0
       go_wp2_with (go_at_call 59;refine (rmeas_any _ _).mono ?_;rw [HK.out];rintro e w8 ⟨rfl,rfl⟩)
       go_ret
       exact ⟨ret_int (by rw [HWW.out,RQ.out];rfl),B3.out⟩
     have b0:(mk==0)=false:=by simp [hm0]
     have CB:Hid (limAt c.ls j=if (inB x.most 0 599999 && inB x.days 1 31)=true then 0 else 5):=by unfold Hid;rw [CA.out,HD.out,DD.out,if_neg (c:=measT x.meas=0) (fun q=>hm0 (hmk.symm.trans q))];rfl
     clear hmk hm0
     cases hM:inB x.most 0 599999
     · have HM:=Lib.hid hM
       have RQ:Hid (RL=5):=by unfold Hid;rw [← FA.out,CB.out,hM];rfl
       clear hM
       go_wp2_with (first|(go_at_call 59;refine (rmeas_any _ _).mono ?_;rw [HK.out];rintro e w8 ⟨rfl,rfl⟩)|(go_at_call 43;refine (rwithin_any _ _ _ _).mono ?_;rw [HM.out];rintro e w8 ⟨rfl,rfl⟩))
       go_ret
       exact ⟨ret_int (by rw [HWW.out,RQ.out];rfl),B3.out⟩
     have HM:=Lib.hid hM
     cases hY:inB x.days 1 31
     · have HY:=Lib.hid hY
       have RQ:Hid (RL=5):=by unfold Hid;rw [← FA.out,CB.out,hM,hY];rfl
       clear hM hY
       go_wp2_with (first|(go_at_call 59;refine (rmeas_any _ _).mono ?_;rw [HK.out];rintro e w8 ⟨rfl,rfl⟩)|(go_at_call 43;refine (rwithin_any _ _ _ _).mono ?_;(first|rw [HM.out]|rw [HY.out]);rintro e w8 ⟨rfl,rfl⟩))
       go_ret
       exact ⟨ret_int (by rw [HWW.out,RQ.out];rfl),B3.out⟩
     have HY:=Lib.hid hY
     have RQ:Hid (fe (limAt c.ls) (j+1) (c.ls.length - (j+1))=RL):=by unfold Hid;rw [← FA.out,CB.out,hM,hY];exact (orE_zero _).symm
     clear hM hY
     go_wp2_with (first|(go_at_call 59;refine (rmeas_any _ _).mono ?_;rw [HK.out];rintro e w8 ⟨rfl,rfl⟩)|(go_at_call 43;refine (rwithin_any _ _ _ _).mono ?_;(first|rw [HM.out]|rw [HY.out]);rintro e w8 ⟨rfl,rfl⟩))
     go_roundw
     case rel=>exact ⟨j+1,by omega,by go_num,B3.out,X3.out,RQ.out⟩
     case measure=>simp [intOf];omega
  have hj1:¬ (j:Int) < (c.ls.length:Int):=by omega
  have RQ:Hid (RL=0):=by unfold Hid;rw [← HR.out.2.2,fe_end (by omega)]
  have HWO:Hid (RV=RO):=by unfold Hid;rw [HWW.out,RQ.out,orE_zero]
  have BW:=Lib.hid HR.out.1
  have XW:=Lib.hid HR.out.2.1
  have c11:=XW.out.c11
  clear HR
  go_wp2_with fail
  clear c11
  go_loopw [6] (fun i wr=>∃ j:Nat,j≤c.fs.length∧i=.int .i64 j∧Hid (Below w.heap.size w wr∧CtBox wr w.heap.size c p∧fe (offAt c.ls c.fs) j (c.fs.length - j)=RO)) (fun i _=>c.fs.length - (intOf i).toNat)
  case atStart=>exact ⟨0,Nat.zero_le _,rfl,BW.out,XW.out,HO.out⟩
  case round =>
   obtain ⟨j,hj,rfl,HR⟩:=hrel
   by_cases hlt:j < c.fs.length
   · obtain ⟨x,hc⟩:∃ x,c.fs[j]?=some x:=⟨_,List.getElem?_eq_getElem (by omega)⟩
     obtain ⟨-,BF,OF,hpp,hrow⟩:=HV.out.fs
     have ROW:=Lib.hid hrow
     have HPfs:=Lib.hid (hpp (by intro q;rw [q] at hc;simp at hc))
     obtain ⟨d0,d1,d2,-,-,hs⟩:=(hrow j x hc).next HR.out.1
     have hs':x.name.size≤maxLen:=hs
     have hj1:(j:Int) < (c.fs.length:Int):=by omega
     have hj0:(0:Int)≤(j:Int):=by omega
     have FA:=Lib.hid ((fe_at (f:=offAt c.ls c.fs) hlt).symm.trans HR.out.2.2)
     have CA:=Lib.hid (offAt_eq c.ls c.fs j x hc)
     have c12:wr.cell? ⟨w.heap.size,12,none⟩=some (.slice (some ⟨BF,OF,none⟩) c.fs.length p.cfs):=by rw [← HPfs.out];exact (HR.out.2.1).c12
     clear hc hpp hrow
     go_upto_region 20 with (fail)
     have B1:Hid (Below w.heap.size w (wr.alloc (.cells #[.string x.name,.int .i64 x.count,.int .i64 x.days] 110))):=HR.out.1.alloc HR.out.1.size _
     have X1:Hid (CtBox (wr.alloc (.cells #[.string x.name,.int .i64 x.count,.int .i64 x.days] 110)) w.heap.size c p):=HR.out.2.1.next ((Below.refl _ _).alloc (Nat.le_refl _) _)
     have e0:(wr.alloc (.cells #[.string x.name,.int .i64 x.count,.int .i64 x.days] 110)).cell? ⟨wr.heap.size,0,none⟩=some (.string x.name):=by simp [go_sem]
     have e1:(wr.alloc (.cells #[.string x.name,.int .i64 x.count,.int .i64 x.days] 110)).cell? ⟨wr.heap.size,1,none⟩=some (.int .i64 x.count):=by simp [go_sem]
     have e2:(wr.alloc (.cells #[.string x.name,.int .i64 x.count,.int .i64 x.days] 110)).cell? ⟨wr.heap.size,2,none⟩=some (.int .i64 x.days):=by simp [go_sem]
     generalize wr.alloc (.cells #[.string x.name,.int .i64 x.count,.int .i64 x.days] 110)=w1 at *
     clear d0 d1 d2 HR c12
     generalize wr.heap.size=g at *
     go_wp2_with fail
     refine (rdecl_any x.name w1 hs).mono ?_
     rintro e w2 ⟨he,hb⟩
     have B2:=Lib.hid (B1.out.trans (hb.mono B1.out.size))
     have X2:=Lib.hid (X1.out.next hb)
     have k0:=cell_next e0 hb
     have k1:=cell_next e1 hb
     have k2:=cell_next e2 hb
     clear hb e0 e1 e2
     cases hD:declS x.name
     · rw [hD] at he
       subst he
       have RQ:Hid (RO=1):=by unfold Hid;rw [← FA.out,CA.out,hD];rfl
       clear hD
       go_wp2
       go_ret
       exact ⟨ret_int (by rw [HWO.out,RQ.out]),B2.out⟩
     rw [hD] at he
     subst he
     have HD:=Lib.hid hD
     clear hD
     have RH1:Hid (dupB ((c.ls.take c.ls.length).map (·.name)) x.name=true→RV=7):=fun hU=>by rw [List.take_length] at hU;rw [HWO.out,← FA.out,CA.out,HD.out,dup_app,hU];rfl
     have RH2:Hid (dupB ((c.fs.take j).map (·.name)) x.name=true→RV=7):=fun hU=>by rw [HWO.out,← FA.out,CA.out,HD.out,dup_app,hU,Bool.or_true];rfl
     obtain ⟨-,BL,OL,hppL,hrowL⟩:=HV.out.ls
     have ROWL:=Lib.hid hrowL
     have HPPL:=Lib.hid hppL
     clear hppL
     clear hrowL
     have c11z:=X2.out.c11
     go_wp2_with fail
     clear c11z
     go_loopw [8] (fun kk wq=>∃ i:Nat,i≤c.ls.length∧kk=.int .i64 i∧Hid (Below w2.heap.size w2 wq∧dupB ((c.ls.take i).map (·.name)) x.name=false)) (fun kk _=>c.ls.length - (intOf kk).toNat)
     case atStart=>exact ⟨0,Nat.zero_le _,rfl,Below.refl _ _,rfl⟩
     case round =>
      obtain ⟨i,hi,rfl,HI⟩:=hrel
      have c11z:=(X2.out.next HI.out.1).c11
      by_cases hij:i < c.ls.length
      · obtain ⟨y,hy⟩:∃ y,c.ls[i]?=some y:=⟨_,List.getElem?_eq_getElem (by omega)⟩
        have HPls:=Lib.hid (HPPL.out (by intro q;rw [q] at hy;simp at hy))
        clear c11z
        have hij':(i:Int) < (c.ls.length:Int):=by omega
        have hil:(i:Int) < (c.ls.length:Int):=by omega
        have hi0:(0:Int)≤(i:Int):=by omega
        have q0:=cell_next (ROWL.out i y hy).1 (B2.out.trans (HI.out.1.mono B2.out.size))
        have c11:wr.cell? ⟨w.heap.size,11,none⟩=some (.slice (some ⟨BL,OL,none⟩) c.ls.length p.cls):=by rw [← HPls.out];exact (X2.out.next HI.out.1).c11
        have f0:=cell_next k0 HI.out.1
        have f1:=cell_next k1 HI.out.1
        have f2:=cell_next k2 HI.out.1
        have HY:=Lib.hid hy
        clear hy
        by_cases hq:y.name=x.name
        · have hb:=toList_eq hq
          have RQ:=Lib.hid (RH1.out (dup_hit (·.name) HY.out hij hq))
          clear hq
          go_wp2_with fail
          go_quiet (fail)
          go_wp2
          go_ret
          exact ⟨ret_int RQ.out.symm,below_drewN (B2.out.trans (HI.out.1.mono B2.out.size)) _⟩
        · have hb:=toList_ne hq
          have HQ:=Lib.hid hq
          clear hq
          go_wp2_with fail
          go_quiet (fail)
          go_wp2
          go_roundw
          case rel=>exact ⟨i+1,by omega,by go_num,below_drewN HI.out.1 _,dup_miss (·.name) HY.out HI.out.2 HQ.out⟩
          case measure=>simp [intOf];omega
      have hij':¬ (i:Int) < (c.ls.length:Int):=by omega
      have NB:=Lib.hid HI.out.1
      have ND:Hid (dupB ((c.ls.take c.ls.length).map (·.name)) x.name=false):=by unfold Hid;rw [show c.ls.length=i by omega];exact HI.out.2
      have ND1:Hid (dupB (c.ls.map (·.name)) x.name=false):=by have:=ND.out;rw [List.take_length] at this;exact this
      have B2':=Lib.hid (B2.out.trans (NB.out.mono B2.out.size))
      have X2':=Lib.hid (X2.out.next NB.out)
      have m0:=cell_next k0 NB.out
      have m1:=cell_next k1 NB.out
      have m2:=cell_next k2 NB.out
      clear k0 k1 k2 HI NB ND B2 X2
      obtain ⟨w2b,hw2b⟩:∃ w2b:World,w2b=wr:=⟨_,rfl⟩
      subst hw2b
      go_wp2_with fail
      clear c11z
      go_loopw [9] (fun kk wq=>∃ i:Nat,i≤j∧kk=.int .i64 i∧Hid (Below w2b.heap.size w2b wq∧dupB ((c.fs.take i).map (·.name)) x.name=false)) (fun kk _=>j - (intOf kk).toNat)
      case atStart=>exact ⟨0,Nat.zero_le _,rfl,Below.refl _ _,rfl⟩
      case round =>
       obtain ⟨i,hi,rfl,HI⟩:=hrel
       by_cases hij:i < j
       · obtain ⟨y,hy⟩:∃ y,c.fs[i]?=some y:=⟨_,List.getElem?_eq_getElem (by omega)⟩
         have hij':(i:Int) < (j:Int):=by omega
         have hil:(i:Int) < (c.fs.length:Int):=by omega
         have hi0:(0:Int)≤(i:Int):=by omega
         have q0:=cell_next (ROW.out i y hy).1 (B2'.out.trans (HI.out.1.mono B2'.out.size))
         have c12:wr.cell? ⟨w.heap.size,12,none⟩=some (.slice (some ⟨BF,OF,none⟩) c.fs.length p.cfs):=by rw [← HPfs.out];exact (X2'.out.next HI.out.1).c12
         have f0:=cell_next m0 HI.out.1
         have f1:=cell_next m1 HI.out.1
         have f2:=cell_next m2 HI.out.1
         have HY:=Lib.hid hy
         clear hy
         by_cases hq:y.name=x.name
         · have hb:=toList_eq hq
           have RQ:=Lib.hid (RH2.out (dup_hit (·.name) HY.out hij hq))
           clear hq
           go_wp2_with fail
           go_quiet (fail)
           go_wp2
           go_ret
           exact ⟨ret_int RQ.out.symm,below_drewN (B2'.out.trans (HI.out.1.mono B2'.out.size)) _⟩
         · have hb:=toList_ne hq
           have HQ:=Lib.hid hq
           clear hq
           go_wp2_with fail
           go_quiet (fail)
           go_wp2
           go_roundw
           case rel=>exact ⟨i+1,by omega,by go_num,below_drewN HI.out.1 _,dup_miss (·.name) HY.out HI.out.2 HQ.out⟩
           case measure=>simp [intOf];omega
       have hij':¬ (i:Int) < (j:Int):=by omega
       have NB:=Lib.hid HI.out.1
       have ND:Hid (dupB ((c.fs.take j).map (·.name)) x.name=false):=by unfold Hid;rw [show j=i by omega];exact HI.out.2
       have DD:Hid (dupB (c.ls.map (·.name)++(c.fs.take j).map (·.name)) x.name=false):=by unfold Hid;rw [dup_app,ND1.out,ND.out];rfl
       have B3:=Lib.hid (B2'.out.trans (NB.out.mono B2'.out.size))
       have X3:=Lib.hid (X2'.out.next NB.out)
       have n0:=cell_next m0 NB.out
       have n1:=cell_next m1 NB.out
       have n2:=cell_next m2 NB.out
       clear m0 m1 m2 HI NB ND
       have CB:Hid (offAt c.ls c.fs j=if (inB x.days 1 31 && inB x.count 1 x.days)=true then 0 else 5):=by unfold Hid;rw [CA.out,HD.out,DD.out];rfl
       cases hM:inB x.days 1 31
       · have HM:=Lib.hid hM
         have RQ:Hid (RO=5):=by unfold Hid;rw [← FA.out,CB.out,hM];rfl
         clear hM
         go_wp2_with (first|(go_at_call 43;refine (rwithin_any _ _ _ _).mono ?_;rw [HM.out];rintro e w8 ⟨rfl,rfl⟩))
         go_ret
         exact ⟨ret_int (by rw [HWO.out,RQ.out]),B3.out⟩
       have HM:=Lib.hid hM
       cases hY:inB x.count 1 x.days
       · have HY:=Lib.hid hY
         have RQ:Hid (RO=5):=by unfold Hid;rw [← FA.out,CB.out,hM,hY];rfl
         clear hM hY
         go_wp2_with (first|(go_at_call 43;refine (rwithin_any _ _ _ _).mono ?_;(first|rw [HM.out]|rw [HY.out]);rintro e w8 ⟨rfl,rfl⟩))
         go_ret
         exact ⟨ret_int (by rw [HWO.out,RQ.out]),B3.out⟩
       have HY:=Lib.hid hY
       have RQ:Hid (fe (offAt c.ls c.fs) (j+1) (c.fs.length - (j+1))=RO):=by unfold Hid;rw [← FA.out,CB.out,hM,hY];exact (orE_zero _).symm
       clear hM hY
       go_wp2_with (first|(go_at_call 43;refine (rwithin_any _ _ _ _).mono ?_;(first|rw [HM.out]|rw [HY.out]);rintro e w8 ⟨rfl,rfl⟩))
       go_roundw
       case rel=>exact ⟨j+1,by omega,by go_num,B3.out,X3.out,RQ.out⟩
       case measure=>simp [intOf];omega
   have hj1:¬ (j:Int) < (c.fs.length:Int):=by omega
   have RQ:Hid (RO=0):=by unfold Hid;rw [← HR.out.2.2,fe_end (by omega)]
   have c12:=HR.out.2.1.c12
   go_wp2
   go_ret
   exact ⟨ret_int (by rw [HWO.out,RQ.out]),HR.out.1⟩
end Go.Proofs.YtljdcpobomfnpaaGreat
