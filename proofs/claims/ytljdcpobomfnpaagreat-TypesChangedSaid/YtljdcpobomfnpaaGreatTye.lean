import Derived.Test.YtljdcpobomfnpaaGreatCtX
import Derived.Test.YtljdcpobomfnpaaGreatTyo
namespace Go.Proofs.YtljdcpobomfnpaaGreat
set_option linter.unusedVariables false
set_option linter.unusedSimpArgs false
set_option maxRecDepth 100000
open Go.ChangeShapes Go.WideShapes Go.ChangeAt Go.RowKit
open Go.Deep (BT)
theorem rngB_eq (c:Ct):rngB c=(inB c.rep 0 1440 && (inB c.rel 0 1440 && (inB c.con 0 1440 && (inB c.sit c.con 1440 && (inB c.lay 0 10080 && (inB c.nf 0 1439 && (inB c.nt 0 1439 && inB c.gua 0 599999))))))):=by
 unfold rngB inB
 simp only [Bool.decide_and]
theorem gval_len (c:Ct) (h:rngB c=true) (h2:lenB c=true):gvalC c=orE (conE c) (orE (rulE c) (orE (cosE c) (orE (creE c.cr) (winE c)))):=by
 unfold gvalC
 rw [h,h2]
 rfl
theorem gval_rng (c:Ct) (h:rngB c=false):gvalC c=5:=by
 unfold gvalC
 rw [h]
 rfl
theorem gval_big (c:Ct) (h:rngB c=true) (h2:lenB c=false):gvalC c=10:=by
 unfold gvalC
 rw [h,h2]
 rfl
theorem cosAt_eq (os:List Co) (j:Nat) (c:Co) (h:os[j]?=some c):cosAt os j=if scB c.sc=false then 1 else valE c.a c.k:=by
 unfold cosAt
 rw [h]
set_option maxHeartbeats 8000000 in
theorem gval_any (c:Ct) (p:Cp) (w:World) (hv:CtV w c p) :
 Calls Tryz.prog 13 #[.agg #[.int .i64 c.rep,.int .i64 c.rel,.int .i64 c.con,.int .i64 c.sit,.int .i64 c.lay,.int .i64 c.nf,.int .i64 c.nt,.slice p.cs c.cs.length p.ccs,.slice p.rs c.rs.length p.crs,.slice p.os c.os.length p.cos,.slice p.cr (len c.cr) p.ccr,.slice p.ls c.ls.length p.cls,.slice p.fs c.fs.length p.cfs,.int .i64 c.gua]] w fun e w'=>e=.returned (.int .i64 (gvalC c))∧Below w.heap.size w w':=by
 have HV:=Lib.hid hv
 clear hv
 obtain ⟨R,hR⟩:∃ R,gvalC c=R:=⟨_,rfl⟩
 rw [hR]
 have GR:=Lib.hid (fun h=>(hR.symm.trans (gval_rng c h)))
 have GB:=Lib.hid (fun h h2=>(hR.symm.trans (gval_big c h h2)))
 have GL:=Lib.hid (fun h h2=>(hR.symm.trans (gval_len c h h2)))
 have RE:=Lib.hid (rngB_eq c)
 clear hR
 go_enter Tryz.func13,Tryz.ntmps13
 go_upto_region 1 with (fail)
 have X0:=Lib.hid (CtBox.start w c p)
 have B0:Hid (Below w.heap.size w (w.alloc (.cells #[.int .i64 c.rep,.int .i64 c.rel,.int .i64 c.con,.int .i64 c.sit,.int .i64 c.lay,.int .i64 c.nf,.int .i64 c.nt,.slice p.cs c.cs.length p.ccs,.slice p.rs c.rs.length p.crs,.slice p.os c.os.length p.cos,.slice p.cr (len c.cr) p.ccr,.slice p.ls c.ls.length p.cls,.slice p.fs c.fs.length p.cfs,.int .i64 c.gua] 30))):=(Below.refl _ _).alloc (Nat.le_refl _) _
 generalize w.alloc (.cells #[.int .i64 c.rep,.int .i64 c.rel,.int .i64 c.con,.int .i64 c.sit,.int .i64 c.lay,.int .i64 c.nf,.int .i64 c.nt,.slice p.cs c.cs.length p.ccs,.slice p.rs c.rs.length p.crs,.slice p.os c.os.length p.cos,.slice p.cr (len c.cr) p.ccr,.slice p.ls c.ls.length p.cls,.slice p.fs c.fs.length p.cfs,.int .i64 c.gua] 30)=w0 at *
 obtain ⟨c0,c1,c2,c3,c4,c5,c6,c7,c8,c9,c10,c11,c12,c13,hlt⟩:=X0.out
 cases h0:inB c.rep 0 1440
 case false =>
  have H0:=Lib.hid h0
  have RQ:Hid (R=5):=GR.out (by rw [RE.out];simp [h0])
  clear h0
  go_wp2_with (go_at_call 33;refine (within_any _ _ _ _).mono ?_;(first|rw [H0.out]);rintro e w2 ⟨rfl,rfl⟩)
  go_ret
  exact ⟨ret_int RQ.out.symm,B0.out⟩
 have H0:=Lib.hid h0
 clear h0
 cases h1:inB c.rel 0 1440
 case false =>
  have H1:=Lib.hid h1
  have RQ:Hid (R=5):=GR.out (by rw [RE.out];simp [h1])
  clear h1
  go_wp2_with (go_at_call 33;refine (within_any _ _ _ _).mono ?_;(first|rw [H0.out]|rw [H1.out]);rintro e w2 ⟨rfl,rfl⟩)
  go_ret
  exact ⟨ret_int RQ.out.symm,B0.out⟩
 have H1:=Lib.hid h1
 clear h1
 cases h2:inB c.con 0 1440
 case false =>
  have H2:=Lib.hid h2
  have RQ:Hid (R=5):=GR.out (by rw [RE.out];simp [h2])
  clear h2
  go_wp2_with (go_at_call 33;refine (within_any _ _ _ _).mono ?_;(first|rw [H0.out]|rw [H1.out]|rw [H2.out]);rintro e w2 ⟨rfl,rfl⟩)
  go_ret
  exact ⟨ret_int RQ.out.symm,B0.out⟩
 have H2:=Lib.hid h2
 clear h2
 cases h3:inB c.sit c.con 1440
 case false =>
  have H3:=Lib.hid h3
  have RQ:Hid (R=5):=GR.out (by rw [RE.out];simp [h3])
  clear h3
  go_wp2_with (go_at_call 33;refine (within_any _ _ _ _).mono ?_;(first|rw [H0.out]|rw [H1.out]|rw [H2.out]|rw [H3.out]);rintro e w2 ⟨rfl,rfl⟩)
  go_ret
  exact ⟨ret_int RQ.out.symm,B0.out⟩
 have H3:=Lib.hid h3
 clear h3
 cases h4:inB c.lay 0 10080
 case false =>
  have H4:=Lib.hid h4
  have RQ:Hid (R=5):=GR.out (by rw [RE.out];simp [h4])
  clear h4
  go_wp2_with (go_at_call 33;refine (within_any _ _ _ _).mono ?_;(first|rw [H0.out]|rw [H1.out]|rw [H2.out]|rw [H3.out]|rw [H4.out]);rintro e w2 ⟨rfl,rfl⟩)
  go_ret
  exact ⟨ret_int RQ.out.symm,B0.out⟩
 have H4:=Lib.hid h4
 clear h4
 cases h5:inB c.nf 0 1439
 case false =>
  have H5:=Lib.hid h5
  have RQ:Hid (R=5):=GR.out (by rw [RE.out];simp [h5])
  clear h5
  go_wp2_with (go_at_call 33;refine (within_any _ _ _ _).mono ?_;(first|rw [H0.out]|rw [H1.out]|rw [H2.out]|rw [H3.out]|rw [H4.out]|rw [H5.out]);rintro e w2 ⟨rfl,rfl⟩)
  go_ret
  exact ⟨ret_int RQ.out.symm,B0.out⟩
 have H5:=Lib.hid h5
 clear h5
 cases h6:inB c.nt 0 1439
 case false =>
  have H6:=Lib.hid h6
  have RQ:Hid (R=5):=GR.out (by rw [RE.out];simp [h6])
  clear h6
  go_wp2_with (go_at_call 33;refine (within_any _ _ _ _).mono ?_;(first|rw [H0.out]|rw [H1.out]|rw [H2.out]|rw [H3.out]|rw [H4.out]|rw [H5.out]|rw [H6.out]);rintro e w2 ⟨rfl,rfl⟩)
  go_ret
  exact ⟨ret_int RQ.out.symm,B0.out⟩
 have H6:=Lib.hid h6
 clear h6
 cases h7:inB c.gua 0 599999
 case false =>
  have H7:=Lib.hid h7
  have RQ:Hid (R=5):=GR.out (by rw [RE.out];simp [h7])
  clear h7
  go_wp2_with (go_at_call 33;refine (within_any _ _ _ _).mono ?_;(first|rw [H0.out]|rw [H1.out]|rw [H2.out]|rw [H3.out]|rw [H4.out]|rw [H5.out]|rw [H6.out]|rw [H7.out]);rintro e w2 ⟨rfl,rfl⟩)
  go_ret
  exact ⟨ret_int RQ.out.symm,B0.out⟩
 have H7:=Lib.hid h7
 clear h7
 have HR:Hid (rngB c=true):=by unfold Hid;rw [RE.out,H0.out,H1.out,H2.out,H3.out,H4.out,H5.out,H6.out,H7.out];rfl
 go_upto_region 10 with (go_at_call 33;refine (within_any _ _ _ _).mono ?_;(first|rw [H0.out]|rw [H1.out]|rw [H2.out]|rw [H3.out]|rw [H4.out]|rw [H5.out]|rw [H6.out]|rw [H7.out]);rintro e w2 ⟨rfl,rfl⟩)
 clear H0 H1 H2 H3 H4 H5 H6 H7
 by_cases l0:c.cs.length≤32
 case neg =>
  have q1:32 < c.cs.length:=by omega
  have q2:(32:Int) < (c.cs.length:Int):=by omega
  have RQ:Hid (R=10):=GB.out HR.out (by unfold lenB;exact decide_eq_false (fun q=>by omega))
  go_wp2
  go_ret
  exact ⟨ret_int RQ.out.symm,B0.out⟩
 have i0:¬ (32:Int) < (c.cs.length:Int):=by omega
 by_cases l1:c.rs.length≤40
 case neg =>
  have q1:40 < c.rs.length:=by omega
  have q2:(40:Int) < (c.rs.length:Int):=by omega
  have RQ:Hid (R=10):=GB.out HR.out (by unfold lenB;exact decide_eq_false (fun q=>by omega))
  go_wp2
  go_ret
  exact ⟨ret_int RQ.out.symm,B0.out⟩
 have i1:¬ (40:Int) < (c.rs.length:Int):=by omega
 by_cases l2:c.os.length≤16
 case neg =>
  have q1:16 < c.os.length:=by omega
  have q2:(16:Int) < (c.os.length:Int):=by omega
  have RQ:Hid (R=10):=GB.out HR.out (by unfold lenB;exact decide_eq_false (fun q=>by omega))
  go_wp2
  go_ret
  exact ⟨ret_int RQ.out.symm,B0.out⟩
 have i2:¬ (16:Int) < (c.os.length:Int):=by omega
 by_cases l3:len c.cr≤1
 case neg =>
  have q1:1 < len c.cr:=by omega
  have q2:(1:Int) < (len c.cr:Int):=by omega
  have RQ:Hid (R=10):=GB.out HR.out (by unfold lenB;exact decide_eq_false (fun q=>by omega))
  go_wp2
  go_ret
  exact ⟨ret_int RQ.out.symm,B0.out⟩
 have i3:¬ (1:Int) < (len c.cr:Int):=by omega
 by_cases l4:c.ls.length≤16
 case neg =>
  have q1:16 < c.ls.length:=by omega
  have q2:(16:Int) < (c.ls.length:Int):=by omega
  have RQ:Hid (R=10):=GB.out HR.out (by unfold lenB;exact decide_eq_false (fun q=>by omega))
  go_wp2
  go_ret
  exact ⟨ret_int RQ.out.symm,B0.out⟩
 have i4:¬ (16:Int) < (c.ls.length:Int):=by omega
 by_cases l5:c.fs.length≤16
 case neg =>
  have q1:16 < c.fs.length:=by omega
  have q2:(16:Int) < (c.fs.length:Int):=by omega
  have RQ:Hid (R=10):=GB.out HR.out (by unfold lenB;exact decide_eq_false (fun q=>by omega))
  go_wp2
  go_ret
  exact ⟨ret_int RQ.out.symm,B0.out⟩
 have i5:¬ (16:Int) < (c.fs.length:Int):=by omega
 have G:=Lib.hid (GL.out HR.out (by unfold lenB;exact decide_eq_true ⟨l0,l1,l2,l3,l4,l5⟩))
 go_wp2_with fail
 clear i0 i1 i2 i3 i4 i5 RE GR GB GL HR
 obtain ⟨E1,hE1⟩:∃ E,conE c=E:=⟨_,rfl⟩
 obtain ⟨E2,hE2⟩:∃ E,rulE c=E:=⟨_,rfl⟩
 obtain ⟨E3,hE3⟩:∃ E,cosE c=E:=⟨_,rfl⟩
 obtain ⟨E4,hE4⟩:∃ E,creE c.cr=E:=⟨_,rfl⟩
 obtain ⟨E5,hE5⟩:∃ E,winE c=E:=⟨_,rfl⟩
 rw [hE1,hE2,hE3,hE4,hE5] at G
 have HE1:Hid (fe (conAt c.cs) 0 c.cs.length=E1):=hE1
 have HE2:Hid (fe (rulAt c.rs) 0 c.rs.length=E2):=hE2
 have HE3:Hid (fe (cosAt c.os) 0 c.os.length=E3):=hE3
 have HE4:=Lib.hid hE4
 have HE5:=Lib.hid hE5
 clear hE1 hE2 hE3 hE4 hE5
 refine (vconsts_any c.cs p.cs p.ccs w0 (HV.out.next B0.out).cs l0).mono ?_
 rw [HE1.out]
 rintro e w1 ⟨rfl,hb⟩
 have B1:=Lib.hid (B0.out.trans (hb.mono B0.out.size))
 have X1:=Lib.hid (X0.out.next hb)
 clear hb c0 c1 c2 c3 c4 c5 c6 c7 c8 c9 c10 c11 c12 c13
 by_cases z1:E1=0
 case neg =>
  have b0:(E1 != 0)=true:=by simp [z1]
  have RQ:Hid (R=E1):=by unfold Hid;rw [G.out,orE_ne z1]
  clear z1
  go_wp2
  go_ret
  exact ⟨ret_int RQ.out.symm,B1.out⟩
 subst z1
 rw [orE_zero] at G
 have c8:=X1.out.c8
 go_wp2_with fail
 refine (vrules_any c.rs p.rs p.crs w1 (HV.out.next B1.out).rs l1).mono ?_
 rw [HE2.out]
 rintro e w2 ⟨rfl,hb⟩
 have B2:=Lib.hid (B1.out.trans (hb.mono B1.out.size))
 have X2:=Lib.hid (X1.out.next hb)
 clear hb c8
 by_cases z1:E2=0
 case neg =>
  have b0:(E2 != 0)=true:=by simp [z1]
  have RQ:Hid (R=E2):=by unfold Hid;rw [G.out,orE_ne z1]
  clear z1
  go_wp2
  go_ret
  exact ⟨ret_int RQ.out.symm,B2.out⟩
 subst z1
 rw [orE_zero] at G
 have c9:=X2.out.c9
 go_wp2_with fail
 clear c9
 go_loopw [86] (fun i wr=>∃ j:Nat,j≤c.os.length∧i=.int .i64 j∧Hid (Below w.heap.size w wr∧CtBox wr w.heap.size c p∧fe (cosAt c.os) j (c.os.length - j)=E3)) (fun i _=>c.os.length - (intOf i).toNat)
 case atStart=>exact ⟨0,Nat.zero_le _,rfl,B2.out,X2.out,HE3.out⟩
 case round =>
  obtain ⟨j,hj,rfl,HR⟩:=hrel
  by_cases hlt:j < c.os.length
  · obtain ⟨x,hc⟩:∃ x,c.os[j]?=some x:=⟨_,List.getElem?_eq_getElem (by omega)⟩
    obtain ⟨B,O,hp,hP⟩:=(HV.out.os).get hc
    obtain ⟨d0,⟨⟨d1,d2,d3,d4⟩,hx,hok⟩,-⟩:=hP.next HR.out.1
    have HX:=Lib.hid hP.2.1.2.1
    have HOK:=Lib.hid hok
    have hj1:(j:Int) < (c.os.length:Int):=by omega
    have FA:=Lib.hid ((fe_at (f:=cosAt c.os) hlt).symm.trans HR.out.2.2)
    have CA:=Lib.hid (cosAt_eq c.os j x hc)
    clear hP hc hx hok
    rw [hp]
    go_upto_region 26 with (fail)
    have B1:Hid (Below w.heap.size w (wr.alloc (.cells #[.int .i64 x.sc,.int .i64 x.a.op,.int .i64 x.a.num,.string x.a.name,.slice x.a.ptr (len x.k) x.a.cap] 40))):=HR.out.1.alloc HR.out.1.size _
    have X1:Hid (CtBox (wr.alloc (.cells #[.int .i64 x.sc,.int .i64 x.a.op,.int .i64 x.a.num,.string x.a.name,.slice x.a.ptr (len x.k) x.a.cap] 40)) w.heap.size c p):=HR.out.2.1.next ((Below.refl _ _).alloc (Nat.le_refl _) _)
    have e0:(wr.alloc (.cells #[.int .i64 x.sc,.int .i64 x.a.op,.int .i64 x.a.num,.string x.a.name,.slice x.a.ptr (len x.k) x.a.cap] 40)).cell? ⟨wr.heap.size,0,none⟩=some (.int .i64 x.sc):=by simp [go_sem]
    have e1:(wr.alloc (.cells #[.int .i64 x.sc,.int .i64 x.a.op,.int .i64 x.a.num,.string x.a.name,.slice x.a.ptr (len x.k) x.a.cap] 40)).cell? ⟨wr.heap.size,1,none⟩=some (.int .i64 x.a.op):=by simp [go_sem]
    have e2:(wr.alloc (.cells #[.int .i64 x.sc,.int .i64 x.a.op,.int .i64 x.a.num,.string x.a.name,.slice x.a.ptr (len x.k) x.a.cap] 40)).cell? ⟨wr.heap.size,2,none⟩=some (.int .i64 x.a.num):=by simp [go_sem]
    have e3:(wr.alloc (.cells #[.int .i64 x.sc,.int .i64 x.a.op,.int .i64 x.a.num,.string x.a.name,.slice x.a.ptr (len x.k) x.a.cap] 40)).cell? ⟨wr.heap.size,3,none⟩=some (.string x.a.name):=by simp [go_sem]
    have e4:(wr.alloc (.cells #[.int .i64 x.sc,.int .i64 x.a.op,.int .i64 x.a.num,.string x.a.name,.slice x.a.ptr (len x.k) x.a.cap] 40)).cell? ⟨wr.heap.size,4,none⟩=some (.slice x.a.ptr (len x.k) x.a.cap):=by simp [go_sem]
    generalize wr.alloc (.cells #[.int .i64 x.sc,.int .i64 x.a.op,.int .i64 x.a.num,.string x.a.name,.slice x.a.ptr (len x.k) x.a.cap] 40)=w5 at *
    clear d0 d1 d2 d3 d4
    cases hD:scB x.sc
    · have HD:=Lib.hid hD
      have RQ:Hid (E3=1):=by unfold Hid;rw [← FA.out,CA.out,hD];rfl
      clear hD
      go_wp2_with (go_at_call 36;refine (scope_any _ _).mono ?_;rw [HD.out];rintro e w2 ⟨rfl,rfl⟩)
      go_ret
      exact ⟨ret_int (by rw [G.out,RQ.out];rfl),B1.out⟩
    · have HD:=Lib.hid hD
      have CQ:Hid (cosAt c.os j=valE ⟨x.a.op,x.a.num,x.a.name,x.a.ptr,x.a.cap⟩ x.k):=by unfold Hid;rw [CA.out,hD];rfl
      clear hD
      go_wp2_with (go_at_call 36;refine (scope_any _ _).mono ?_;rw [HD.out];rintro e w2 ⟨rfl,rfl⟩)
      refine (vexpr_any x.b x.o _ _ _ _ _ x.k w5 (HX.out.next B1.out) HOK.out).mono ?_
      rintro e w3 ⟨rfl,hb⟩
      have B3:=Lib.hid (B1.out.trans (hb.mono B1.out.size))
      have X3:=Lib.hid (X1.out.next hb)
      generalize valE ⟨x.a.op,x.a.num,x.a.name,x.a.ptr,x.a.cap⟩ x.k=ve at *
      clear hb e0 e1 e2 e3 e4
      by_cases h0:ve=0
      · have b0:(ve != 0)=false:=by simp [h0]
        have RQ:Hid (fe (cosAt c.os) (j+1) (c.os.length - (j+1))=E3):=by unfold Hid;rw [← FA.out,CQ.out,h0,orE_zero]
        clear h0
        go_wp2
        go_roundw
        case rel=>exact ⟨j+1,by omega,by go_num,B3.out,X3.out,RQ.out⟩
        case measure=>simp [intOf];omega
      · have b0:(ve != 0)=true:=by simp [h0]
        have RQ:Hid (E3=ve):=by unfold Hid;rw [← FA.out,CQ.out,orE_ne h0]
        have RQ2:Hid (R=ve):=by unfold Hid;rw [G.out,RQ.out,orE_ne h0]
        clear h0
        go_wp2
        go_ret
        exact ⟨ret_int RQ2.out.symm,B3.out⟩
  · have hj1 : ¬ (j:Int) < (c.os.length:Int):=by omega
    have RQ:Hid (E3=0):=by unfold Hid;rw [← HR.out.2.2,fe_end (by omega)]
    have G2:Hid (R=orE E4 E5):=by unfold Hid;rw [G.out,RQ.out,orE_zero]
    have B3:=Lib.hid HR.out.1
    have X3:=Lib.hid HR.out.2.1
    have c10:=X3.out.c10
    clear HR
    obtain ⟨hkl,hkok,kb,ko,hkp,-⟩:=HV.out.cr
    have HKP:=Lib.hid hkp
    clear hkp
    go_wp2_with fail
    clear c10
    go_loopw [104] (fun i wr=>∃ (j:Nat) (r:Fo),i=.int .i64 j∧Hid (j+len r=len c.cr∧(∃ b o,(r≠.nil→p.cr=some ⟨b,o,none⟩)∧FoAt wr r b (o+j * 4))∧FoOk r∧creE r=E4∧Below w.heap.size w wr∧CtBox wr w.heap.size c p)) (fun i _=>len c.cr - (intOf i).toNat)
    case atStart =>
     obtain ⟨-,q1,b,o,q2,q3⟩:=(HV.out.next B3.out).cr
     exact ⟨0,c.cr,rfl,by omega,⟨b,o,q2,by rw [Nat.zero_mul,Nat.add_zero];exact q3⟩,q1,HE4.out,B3.out,X3.out⟩
    case round =>
     obtain ⟨j,r,rfl,HR⟩:=hrel
     cases r with
     | nil =>
       have hj:¬ (j:Int) < (len c.cr:Int):=by have:=HR.out.1;simp [len] at this;omega
       have RQ:Hid (R=E5):=by unfold Hid;rw [G2.out,← HR.out.2.2.2.1];exact orE_zero _
       have B4:=Lib.hid HR.out.2.2.2.2.1
       have X4:=Lib.hid HR.out.2.2.2.2.2
       clear HR
       obtain ⟨c0,c1,c2,c3,c4,c5,c6,c7,c8,c9,c10,c11,c12,c13,hlt⟩:=X4.out
       go_wp2_with fail
       refine (vwin_any c p wr (HV.out.next B4.out) l4 l5).mono ?_
       rw [HE5.out]
       rintro e w9 ⟨rfl,hb⟩
       have B9:=Lib.hid (B4.out.trans (hb.mono B4.out.size))
       clear hb c0 c1 c2 c3 c4 c5 c6 c7 c8 c9 c10 c11 c12 c13
       go_wp2
       go_ret
       exact ⟨ret_int RQ.out.symm,B9.out⟩
     | node b1 o1 a1 k1 r1 =>
       have hj:j < len c.cr:=by have:=HR.out.1;simp [len] at this;omega
       obtain ⟨kb,ko,hkp,⟨d0,d1,d2,d3⟩,hp1,hk1,hr1⟩:=HR.out.2.1
       have hpe:p.cr=some ⟨kb,ko,none⟩:=hkp (by simp)
       rw [hpe]
       have HX:Hid (ExAt wr b1 o1 a1 k1):=⟨hp1,hk1⟩
       have HN:=Lib.hid hr1
       have HOK:=Lib.hid HR.out.2.2.1
       have CQ:Hid (orE (valE ⟨a1.op,a1.num,a1.name,a1.ptr,a1.cap⟩ k1) (creE r1)=E4):=HR.out.2.2.2.1
       have hj1:(j:Int) < (len c.cr:Int):=by omega
       clear hp1 hk1 hr1 hkp
       have B5:Hid (Below wr.heap.size wr (wr.alloc (.cells #[.int .i64 a1.op,.int .i64 a1.num,.string a1.name,.slice a1.ptr (len k1) a1.cap] 34))):=(Below.refl _ _).alloc (Nat.le_refl _) _
       go_wp2_with fail
       refine (vexpr_any b1 o1 _ _ _ _ _ k1 _ (HX.out.next B5.out) ⟨HOK.out.1,HOK.out.2.1⟩).mono ?_
       rintro e w3 ⟨rfl,hb⟩
       have B6:Hid (Below wr.heap.size wr w3):=B5.out.trans (hb.mono B5.out.size)
       have B3:=Lib.hid (HR.out.2.2.2.2.1.trans (B6.out.mono HR.out.2.2.2.2.1.size))
       have X3:=Lib.hid (HR.out.2.2.2.2.2.next B6.out)
       generalize valE ⟨a1.op,a1.num,a1.name,a1.ptr,a1.cap⟩ k1=ve at *
       clear hb d0 d1 d2 d3
       by_cases h0:ve=0
       · have b0:(ve != 0)=false:=by simp [h0]
         have RQ:Hid (creE r1=E4):=by unfold Hid;rw [← CQ.out,h0,orE_zero]
         clear h0
         go_wp2
         go_roundw
         case rel =>
          have q1:=HR.out.1
          simp [len] at q1
          refine ⟨j+1,r1,by go_num,by omega,⟨kb,ko,fun _=>rfl,?_⟩,HOK.out.2.2,RQ.out,B3.out,X3.out⟩
          rw [Nat.add_mul,Nat.one_mul,← Nat.add_assoc];exact HN.out.next B6.out
         case measure=>simp [intOf];omega
       · have b0:(ve != 0)=true:=by simp [h0]
         have RQ2:Hid (R=ve):=by unfold Hid;rw [G2.out,← CQ.out,orE_ne h0,orE_ne h0]
         clear h0
         go_wp2
         go_ret
         exact ⟨ret_int RQ2.out.symm,B3.out⟩
end Go.Proofs.YtljdcpobomfnpaaGreat
namespace Go.Proofs.YtljdcpobomfnpaaGreat
set_option linter.unusedVariables false
set_option linter.unusedSimpArgs false
open Go.ChangeShapes Go.WideShapes Go.ChangeAt Go.RowKit
open Go.Deep (BT)
set_option maxHeartbeats 4000000 in
set_option maxRecDepth 100000 in
theorem expect_any (n:Nat) (b o:Nat) (op num:Int) (name:ByteArray) (ptr:Option Addr) (acap:Nat) (k:Fo) (w:World) (cs:List Cn) (p:Option Addr) (cap kb ib mb:Nat) (sc kind:Int)
 (hn:n≤cs.length) (hch:ChkJ Tryz.prog w kb ib mb cs cs.length p cap) (hcs:CsV w cs p) (hx:ExAt w b o ⟨op,num,name,ptr,acap⟩ k) (hok:ExOk ⟨op,num,name,ptr,acap⟩ k) :
 Calls Tryz.prog 17 #[.pointer (some ⟨kb,0,none⟩),.int .i64 sc,.int .i64 n,.agg #[.int .i64 op,.int .i64 num,.string name,.slice ptr (len k) acap],.int .i64 kind] w
  fun e w'=>e=.returned (.int .i64 (if (tofN cs n sc ⟨op,num,name,ptr,acap⟩ k).2=0∧(tofN cs n sc ⟨op,num,name,ptr,acap⟩ k).1≠kind then 9 else (tofN cs n sc ⟨op,num,name,ptr,acap⟩ k).2))∧ChkJ Tryz.prog w' kb ib mb cs cs.length p cap∧w.grownBy w' (some mb):=by
 have HX:=Lib.hid hx
 have HOK:=Lib.hid hok
 have HCS:=Lib.hid hcs
 have HCH:=Lib.hid hch
 clear hx hok hcs hch
 generalize hQ:(if (tofN cs n sc ⟨op,num,name,ptr,acap⟩ k).2=0∧(tofN cs n sc ⟨op,num,name,ptr,acap⟩ k).1≠kind then (9:Int) else (tofN cs n sc ⟨op,num,name,ptr,acap⟩ k).2)=Q
 have HQ:=Lib.hid hQ
 clear hQ
 go_enter Tryz.func17,Tryz.ntmps17
 go_wp2_with fail
 have B0:Hid (Below w.heap.size w (w.alloc (.cells #[.int .i64 op,.int .i64 num,.string name,.slice ptr (len k) acap] 34))):=(Below.refl _ _).alloc (Nat.le_refl _) _
 refine (type_any n b o ⟨op,num,name,ptr,acap⟩ k _ cs p cap kb ib mb sc hn (HCH.out.next B0.out) (HCS.out.next B0.out) (HX.out.next B0.out) HOK.out).mono ?_
 generalize tofN cs n sc ⟨op,num,name,ptr,acap⟩ k=R at *
 obtain ⟨z1,z2⟩:=R
 rintro e w3 ⟨rfl,ch3,g3⟩
 have CH3:=Lib.hid ch3
 have G3:=Lib.hid ((grw_of_below _ B0.out).trans g3)
 clear ch3 g3
 dsimp only at HQ ⊢
 by_cases h0:z2=0
 · have b0:(z2==0)=true:=by simp [h0]
   by_cases h1:z1=kind
   · have b1:(z1 != kind)=false:=by simp [h1]
     have RQ:Hid (Q=z2):=by unfold Hid;rw [← HQ.out];simp [h1]
     clear h0 h1 HQ
     go_wp2
     go_ret
     exact ⟨by rw [RQ.out];rfl,CH3.out,G3.out⟩
   · have b1:(z1 != kind)=true:=by simp [h1]
     have RQ:Hid (Q=9):=by unfold Hid;rw [← HQ.out];simp [h0,h1]
     clear h0 h1 HQ
     go_wp2
     go_ret
     exact ⟨by rw [RQ.out];rfl,CH3.out,G3.out⟩
 · have b0:(z2==0)=false:=by simp [h0]
   have RQ:Hid (Q=z2):=by unfold Hid;rw [← HQ.out];simp [h0]
   clear h0 HQ
   go_wp2
   go_ret
   exact ⟨by rw [RQ.out];rfl,CH3.out,G3.out⟩
end Go.Proofs.YtljdcpobomfnpaaGreat
