import Derived.Test.YtljdcpobomfnpaaGreatCrV
import Derived.Test.YtljdcpobomfnpaaGreatCtZ
import Derived.Test.YtljdcpobomfnpaaGreatTyo
import Derived.Test.YtljdcpobomfnpaaGreatGg
namespace Go.Proofs.YtljdcpobomfnpaaGreat
set_option linter.unusedVariables false
set_option linter.unusedSimpArgs false
set_option maxRecDepth 100000
open Go.ChangeShapes Go.WideShapes Go.ChangeAt Go.RowKit
open Go.Deep (BT)
theorem lookT_take (cs:List Cn) (n:Nat) (T:List (Int × Int)) (h:T.length≤n):lookT (cs.take n) T=lookT cs T:=by
 funext s
 unfold lookT
 rw [firstIx_take]
 cases q:firstIx s cs with
 | none=>rfl
 | some i =>
   dsimp only
   by_cases hi:i < n
   · rw [if_pos hi]
   · rw [if_neg hi]
     dsimp only
     rw [if_neg (by omega)]
theorem tabN_take (cs:List Cn) (n m:Nat) (h:m≤n):tabN (cs.take n) m=tabN cs m:=by
 induction m with
 | zero=>rfl
 | succ m ih =>
   have e:=ih (by omega)
   rw [tabN,tabN,e,List.getElem?_take_of_lt (by omega)]
   cases cs[m]? with
   | none=>rfl
   | some c =>
     dsimp only
     unfold oneT
     rw [lookT_take cs n _ (by rw [tabN_len];omega)]
theorem tof_take (cs:List Cn) (n:Nat) (sc:Int) (a:Nd) (k:Fo) (h:n≤cs.length):typeOfT (cs.take n) sc a k=tofN cs n sc a k:=by
 unfold typeOfT tofN
 rw [List.length_take,Nat.min_eq_left h,tabN_take cs n n (Nat.le_refl _),lookT_take cs n _ (by rw [tabN_len];omega)]
theorem csv_take {w:World} {cs:List Cn} {p:Option Addr} (h:CsV w cs p) (n:Nat):CsV w (cs.take n) p:=by
 obtain ⟨⟨B,O,h1,h2⟩,h3,h4⟩:=h
 refine ⟨⟨B,O,fun q=>h1 (by rintro rfl;simp at q),?_⟩,fun c hc=>h3 c (List.mem_of_mem_take hc),by rw [List.length_take];omega⟩
 clear h1 h3 h4
 induction cs generalizing n O with
 | nil=>simp;trivial
 | cons c cs ih =>
   cases n with
   | zero=>trivial
   | succ n=>exact ⟨h2.1,h2.2.1,ih n (O+5) h2.2.2⟩
set_option maxHeartbeats 2000000 in
theorem rknown_any (s:ByteArray) (w:World) (hs:s.size≤9223372036854775807):Calls Tryz.prog 19 #[.string s] w fun e w'=>e=.returned (.bool (knB s))∧Below w.heap.size w w':=by
 have KT:=Lib.hid (knB_true s)
 have KF:=Lib.hid (knB_false s)
 go_enter Tryz.func19,Tryz.ntmps19
 go_wp2_with fail
 go_loopw [3] (fun v wr=>∃ t:Nat,1≤t∧t≤4∧v=.int .i64 t∧Hid (Below w.heap.size w wr∧∀ u:Nat,1≤u→u < t→atE (u:Int) s≠0)) (fun v _=>4 - (intOf v).toNat)
 case atStart=>exact ⟨1,by omega,by omega,rfl,Below.refl _ _,fun u h1 h2=>by omega⟩
 case round =>
  obtain ⟨t,ht1,ht4,rfl,HU⟩:=hrel
  by_cases ht:t≤3
  · have ht':(t:Int)≤3:=by omega
    go_wp2_with fail
    refine (ratt_any (t:Int) s wr hs).mono ?_
    rintro e w6 ⟨rfl,hb⟩
    have B6:=Lib.hid (HU.out.1.trans (hb.mono HU.out.1.size))
    clear hb
    by_cases hz:atE (t:Int) s=0
    · have RQ:Hid (knB s=true):=KT.out t ht1 ht hz
      have b0:(atE (t:Int) s==0)=true:=by simp [hz]
      clear hz HU KT KF
      generalize atE (t:Int) s=ze at *
      go_wp2
      go_ret
      exact ⟨ret_bool RQ.out.symm,B6.out⟩
    · have b0:(atE (t:Int) s==0)=false:=by simp [hz]
      have HU2:Hid (∀ u:Nat,1≤u→u < t+1→atE (u:Int) s≠0):=fun u h1 h2=>by
       by_cases q:u=t
       · rw [q];exact hz
       · exact HU.out.2 u h1 (by omega)
      clear hz HU
      generalize atE (t:Int) s=ze at b0 ⊢
      go_wp2
      go_roundw
      case rel=>exact ⟨t+1,by omega,by omega,by go_num,B6.out,HU2.out⟩
      case measure=>simp [intOf];omega
  · have ht':¬ (t:Int)≤3:=by omega
    have RQ:Hid (knB s=false):=KF.out t (by omega) HU.out.2
    go_wp2
    go_ret
    exact ⟨ret_bool RQ.out.symm,HU.out.1⟩
set_option maxHeartbeats 4000000 in
theorem rexpect_any (c:Ct) (p:Cp) (b o:Nat) (a:Nd) (k:Fo) (sc want:Int) (w:World) (hcs:CsV w c.cs p.cs) (hcap:c.cs.length≤p.ccs) (hx:ExAt w b o a k) (hok:ExOk a k) :
 Calls Tryz.prog 21 #[.agg #[.int .i64 c.rep,.int .i64 c.rel,.int .i64 c.con,.int .i64 c.sit,.int .i64 c.lay,.int .i64 c.nf,.int .i64 c.nt,.slice p.cs c.cs.length p.ccs,.slice p.rs c.rs.length p.crs,.slice p.os c.os.length p.cos,.slice p.cr (len c.cr) p.ccr,.slice p.ls c.ls.length p.cls,.slice p.fs c.fs.length p.cfs,.int .i64 c.gua],.int .i64 sc,.agg #[.int .i64 a.op,.int .i64 a.num,.string a.name,.slice a.ptr (len k) a.cap],.int .i64 want] w fun e w'=>e=.returned (.int .i64 (expE c.cs sc want a k))∧Below w.heap.size w w':=by
 have HCS:=Lib.hid hcs
 have HX:=Lib.hid hx
 have HOK:=Lib.hid hok
 clear hcs hx hok
 have EE:Hid (expE c.cs sc want a k=if (typeOfT c.cs sc a k).2=0∧(typeOfT c.cs sc a k).1≠want then 9 else (typeOfT c.cs sc a k).2):=rfl
 go_enter Tryz.func21,Tryz.ntmps21
 go_upto_region 1 with (fail)
 have B0:Hid (Below w.heap.size w ((w.alloc (.cells #[.int .i64 c.rep,.int .i64 c.rel,.int .i64 c.con,.int .i64 c.sit,.int .i64 c.lay,.int .i64 c.nf,.int .i64 c.nt,.slice p.cs c.cs.length p.ccs,.slice p.rs c.rs.length p.crs,.slice p.os c.os.length p.cos,.slice p.cr (len c.cr) p.ccr,.slice p.ls c.ls.length p.cls,.slice p.fs c.fs.length p.cfs,.int .i64 c.gua] 30)).alloc (.cells #[.int .i64 a.op,.int .i64 a.num,.string a.name,.slice a.ptr (len k) a.cap] 34))):=((Below.refl _ _).alloc (Nat.le_refl _) _).alloc (by simp) _
 have c7:((w.alloc (.cells #[.int .i64 c.rep,.int .i64 c.rel,.int .i64 c.con,.int .i64 c.sit,.int .i64 c.lay,.int .i64 c.nf,.int .i64 c.nt,.slice p.cs c.cs.length p.ccs,.slice p.rs c.rs.length p.crs,.slice p.os c.os.length p.cos,.slice p.cr (len c.cr) p.ccr,.slice p.ls c.ls.length p.cls,.slice p.fs c.fs.length p.cfs,.int .i64 c.gua] 30)).alloc (.cells #[.int .i64 a.op,.int .i64 a.num,.string a.name,.slice a.ptr (len k) a.cap] 34)).cell? ⟨w.heap.size,7,none⟩=some (.slice p.cs c.cs.length p.ccs):=by simp [go_sem]
 have e0:((w.alloc (.cells #[.int .i64 c.rep,.int .i64 c.rel,.int .i64 c.con,.int .i64 c.sit,.int .i64 c.lay,.int .i64 c.nf,.int .i64 c.nt,.slice p.cs c.cs.length p.ccs,.slice p.rs c.rs.length p.crs,.slice p.os c.os.length p.cos,.slice p.cr (len c.cr) p.ccr,.slice p.ls c.ls.length p.cls,.slice p.fs c.fs.length p.cfs,.int .i64 c.gua] 30)).alloc (.cells #[.int .i64 a.op,.int .i64 a.num,.string a.name,.slice a.ptr (len k) a.cap] 34)).cell? ⟨w.heap.size+1,0,none⟩=some (.int .i64 a.op):=by simp [go_sem]
 have e1:((w.alloc (.cells #[.int .i64 c.rep,.int .i64 c.rel,.int .i64 c.con,.int .i64 c.sit,.int .i64 c.lay,.int .i64 c.nf,.int .i64 c.nt,.slice p.cs c.cs.length p.ccs,.slice p.rs c.rs.length p.crs,.slice p.os c.os.length p.cos,.slice p.cr (len c.cr) p.ccr,.slice p.ls c.ls.length p.cls,.slice p.fs c.fs.length p.cfs,.int .i64 c.gua] 30)).alloc (.cells #[.int .i64 a.op,.int .i64 a.num,.string a.name,.slice a.ptr (len k) a.cap] 34)).cell? ⟨w.heap.size+1,1,none⟩=some (.int .i64 a.num):=by simp [go_sem]
 have e2:((w.alloc (.cells #[.int .i64 c.rep,.int .i64 c.rel,.int .i64 c.con,.int .i64 c.sit,.int .i64 c.lay,.int .i64 c.nf,.int .i64 c.nt,.slice p.cs c.cs.length p.ccs,.slice p.rs c.rs.length p.crs,.slice p.os c.os.length p.cos,.slice p.cr (len c.cr) p.ccr,.slice p.ls c.ls.length p.cls,.slice p.fs c.fs.length p.cfs,.int .i64 c.gua] 30)).alloc (.cells #[.int .i64 a.op,.int .i64 a.num,.string a.name,.slice a.ptr (len k) a.cap] 34)).cell? ⟨w.heap.size+1,2,none⟩=some (.string a.name):=by simp [go_sem]
 have e3:((w.alloc (.cells #[.int .i64 c.rep,.int .i64 c.rel,.int .i64 c.con,.int .i64 c.sit,.int .i64 c.lay,.int .i64 c.nf,.int .i64 c.nt,.slice p.cs c.cs.length p.ccs,.slice p.rs c.rs.length p.crs,.slice p.os c.os.length p.cos,.slice p.cr (len c.cr) p.ccr,.slice p.ls c.ls.length p.cls,.slice p.fs c.fs.length p.cfs,.int .i64 c.gua] 30)).alloc (.cells #[.int .i64 a.op,.int .i64 a.num,.string a.name,.slice a.ptr (len k) a.cap] 34)).cell? ⟨w.heap.size+1,3,none⟩=some (.slice a.ptr (len k) a.cap):=by simp [go_sem]
 generalize (w.alloc (.cells #[.int .i64 c.rep,.int .i64 c.rel,.int .i64 c.con,.int .i64 c.sit,.int .i64 c.lay,.int .i64 c.nf,.int .i64 c.nt,.slice p.cs c.cs.length p.ccs,.slice p.rs c.rs.length p.crs,.slice p.os c.os.length p.cos,.slice p.cr (len c.cr) p.ccr,.slice p.ls c.ls.length p.cls,.slice p.fs c.fs.length p.cfs,.int .i64 c.gua] 30)).alloc (.cells #[.int .i64 a.op,.int .i64 a.num,.string a.name,.slice a.ptr (len k) a.cap] 34)=w1 at *
 go_wp2_with fail
 refine (rtypeof_any c.cs p.cs p.ccs sc b o a.op a.num a.name a.ptr a.cap k w1 (HCS.out.next B0.out) hcap (HX.out.next B0.out) HOK.out).mono ?_
 have EE2:Hid (expE c.cs sc want a k=if (typeOfT c.cs sc ⟨a.op,a.num,a.name,a.ptr,a.cap⟩ k).2=0∧(typeOfT c.cs sc ⟨a.op,a.num,a.name,a.ptr,a.cap⟩ k).1≠want then 9 else (typeOfT c.cs sc ⟨a.op,a.num,a.name,a.ptr,a.cap⟩ k).2):=EE.out
 clear EE
 generalize typeOfT c.cs sc ⟨a.op,a.num,a.name,a.ptr,a.cap⟩ k=R at *
 obtain ⟨z1,z2⟩:=R
 rintro e w2 ⟨rfl,hb⟩
 have B2:=Lib.hid (B0.out.trans (hb.mono B0.out.size))
 clear hb c7 e0 e1 e2 e3
 dsimp only at EE2 ⊢
 by_cases h0:z2=0
 · have b0:(z2==0)=true:=by simp [h0]
   by_cases h1:z1=want
   · have b1:(z1 != want)=false:=by simp [h1]
     have RQ:Hid (expE c.cs sc want a k=z2):=by unfold Hid;rw [EE2.out];simp [h1]
     clear h0 h1 EE2
     go_wp2
     go_ret
     exact ⟨ret_int RQ.out.symm,B2.out⟩
   · have b1:(z1 != want)=true:=by simp [h1]
     have RQ:Hid (expE c.cs sc want a k=9):=by unfold Hid;rw [EE2.out];simp [h0,h1]
     clear h0 h1 EE2
     go_wp2
     go_ret
     exact ⟨ret_int RQ.out.symm,B2.out⟩
 · have b0:(z2==0)=false:=by simp [h0]
   have RQ:Hid (expE c.cs sc want a k=z2):=by unfold Hid;rw [EE2.out];simp [h0]
   clear h0 EE2
   go_wp2
   go_ret
   exact ⟨ret_int RQ.out.symm,B2.out⟩
set_option maxHeartbeats 8000000 in
theorem rcheck_any (c:Ct) (p:Cp) (w:World) (hv:CtV w c p) :
 Calls Tryz.prog 8 #[.agg #[.int .i64 c.rep,.int .i64 c.rel,.int .i64 c.con,.int .i64 c.sit,.int .i64 c.lay,.int .i64 c.nf,.int .i64 c.nt,.slice p.cs c.cs.length p.ccs,.slice p.rs c.rs.length p.crs,.slice p.os c.os.length p.cos,.slice p.cr (len c.cr) p.ccr,.slice p.ls c.ls.length p.cls,.slice p.fs c.fs.length p.cfs,.int .i64 c.gua]] w fun e w'=>e=.returned (.int .i64 (tvalC c))∧Below w.heap.size w w':=by
 have HV:=Lib.hid hv
 clear hv
 obtain ⟨R,hR⟩:∃ R,tvalC c=R:=⟨_,rfl⟩
 rw [hR]
 obtain ⟨E0,hE0⟩:∃ E,gvalC c=E:=⟨_,rfl⟩
 obtain ⟨E1,hE1⟩:∃ E,fe (tcoAt c.cs) 0 c.cs.length=E:=⟨_,rfl⟩
 obtain ⟨E2,hE2⟩:∃ E,fe (truAt c.cs c.rs) 0 c.rs.length=E:=⟨_,rfl⟩
 obtain ⟨E3,hE3⟩:∃ E,fe (tosAt c.cs c.os) 0 c.os.length=E:=⟨_,rfl⟩
 obtain ⟨E4,hE4⟩:∃ E,tcrE c.cs c.cr=E:=⟨_,rfl⟩
 have G0:Hid (R=orE E0 (orE E1 (orE E2 (orE E3 E4)))):=by unfold Hid;rw [← hR,← hE0,← hE1,← hE2,← hE3,← hE4];rfl
 have HE0:=Lib.hid hE0
 have HE1:=Lib.hid hE1
 have HE2:=Lib.hid hE2
 have HE3:=Lib.hid hE3
 have HE4:=Lib.hid hE4
 clear hR hE0 hE1 hE2 hE3 hE4
 go_enter Tryz.func8,Tryz.ntmps8
 go_upto_region 1 with (fail)
 have X0:=Lib.hid (CtBox.start w c p)
 have B0:Hid (Below w.heap.size w (w.alloc (.cells #[.int .i64 c.rep,.int .i64 c.rel,.int .i64 c.con,.int .i64 c.sit,.int .i64 c.lay,.int .i64 c.nf,.int .i64 c.nt,.slice p.cs c.cs.length p.ccs,.slice p.rs c.rs.length p.crs,.slice p.os c.os.length p.cos,.slice p.cr (len c.cr) p.ccr,.slice p.ls c.ls.length p.cls,.slice p.fs c.fs.length p.cfs,.int .i64 c.gua] 30))):=(Below.refl _ _).alloc (Nat.le_refl _) _
 generalize w.alloc (.cells #[.int .i64 c.rep,.int .i64 c.rel,.int .i64 c.con,.int .i64 c.sit,.int .i64 c.lay,.int .i64 c.nf,.int .i64 c.nt,.slice p.cs c.cs.length p.ccs,.slice p.rs c.rs.length p.crs,.slice p.os c.os.length p.cos,.slice p.cr (len c.cr) p.ccr,.slice p.ls c.ls.length p.cls,.slice p.fs c.fs.length p.cfs,.int .i64 c.gua] 30)=w0 at *
 obtain ⟨c0,c1,c2,c3,c4,c5,c6,c7,c8,c9,c10,c11,c12,c13,hlt⟩:=X0.out
 go_wp2_with fail
 refine (rgval_any c p w0 (HV.out.next B0.out)).mono ?_
 rw [HE0.out]
 rintro e w1 ⟨rfl,hb⟩
 have B1:=Lib.hid (B0.out.trans (hb.mono B0.out.size))
 have X1:=Lib.hid (X0.out.next hb)
 clear hb c0 c1 c2 c3 c4 c5 c6 c7 c8 c9 c10 c11 c12 c13 hlt
 by_cases z1:E0=0
 case neg =>
  have b0:(E0 != 0)=true:=by simp [z1]
  have RQ:Hid (R=E0):=by unfold Hid;rw [G0.out,orE_ne z1]
  clear z1
  go_wp2
  go_ret
  exact ⟨ret_int RQ.out.symm,B1.out⟩
 subst z1
 obtain ⟨l0,l1,l2,l3,-,-⟩:=gval_zero c HE0.out
 have HCS:=Lib.hid (csv_of_row HV.out.cs l0)
 have G1:Hid (R=orE E1 (orE E2 (orE E3 E4))):=by unfold Hid;rw [G0.out,orE_zero]
 go_wp2_with fail
 go_loopw [4] (fun i wr=>∃ j:Nat,j≤c.cs.length∧i=.int .i64 j∧Hid (Below w.heap.size w wr∧CtBox wr w.heap.size c p∧fe (tcoAt c.cs) j (c.cs.length - j)=E1)) (fun i _=>c.cs.length - (intOf i).toNat)
 case atStart=>exact ⟨0,Nat.zero_le _,rfl,B1.out,X1.out,HE1.out⟩
 case round =>
  obtain ⟨j,hj,rfl,HR⟩:=hrel
  by_cases hlt:j < c.cs.length
  · obtain ⟨x,hc⟩:∃ x,c.cs[j]?=some x:=⟨_,List.getElem?_eq_getElem (by omega)⟩
    obtain ⟨-,BC,OC,hpp,hrow⟩:=HV.out.cs
    have HPcs:=Lib.hid (hpp (by intro q;rw [q] at hc;simp at hc))
    have PX:=Lib.hid (hrow j x hc)
    have d0:=cell_next PX.out.1 HR.out.1
    have hs:x.name.size≤9223372036854775807:=PX.out.2.2
    have hj1:(j:Int) < (c.cs.length:Int):=by omega
    have hj0:(0:Int)≤(j:Int):=by omega
    have hjc:(j:Int)≤(p.ccs:Int):=by have:=HV.out.cap;omega
    have FA:=Lib.hid ((fe_at (f:=tcoAt c.cs) hlt).symm.trans HR.out.2.2)
    have CA:=Lib.hid (tcoAt_eq c.cs j x hc)
    have RT:Hid (rowT c.cs j=tofN c.cs j 0 x.a x.k):=rowT_eq c.cs j x hc
    have c7:wr.cell? ⟨w.heap.size,7,none⟩=some (.slice (some ⟨BC,OC,none⟩) c.cs.length p.ccs):=by rw [← HPcs.out];exact (HR.out.2.1).c7
    clear hc hpp hrow
    go_wp2_with fail
    refine (rknown_any x.name wr hs).mono ?_
    rintro e w2 ⟨he,hb⟩
    have B2:=Lib.hid (HR.out.1.trans (hb.mono HR.out.1.size))
    have X2:=Lib.hid (HR.out.2.1.next hb)
    clear hb HR d0 c7
    cases hD:knB x.name
    case true =>
     rw [hD] at he
     subst he
     have RQ:Hid (R=7):=by unfold Hid;rw [G1.out,← FA.out,CA.out,hD];rfl
     clear hD
     go_wp2
     go_ret
     exact ⟨ret_int RQ.out.symm,B2.out⟩
    rw [hD] at he
    subst he
    have CB:Hid (tcoAt c.cs j=(rowT c.cs j).2):=by unfold Hid;rw [CA.out,hD];rfl
    clear hD
    go_upto_region 9 with (fail)
    obtain ⟨m1,m2,m3,m4⟩:=(PX.out.2.1.next B2.out).1
    have c7:w2.cell? ⟨w.heap.size,7,none⟩=some (.slice (some ⟨BC,OC,none⟩) c.cs.length p.ccs):=by rw [← HPcs.out];exact (X2.out).c7
    have e0:=fun d os=>cell_regrown c7 d os
    have e1:=fun d os=>cell_regrown m1 d os
    have e2:=fun d os=>cell_regrown m2 d os
    have e3:=fun d os=>cell_regrown m3 d os
    have e4:=fun d os=>cell_regrown m4 d os
    obtain ⟨q1,ve,hq⟩:∃ q1 ve,tofN c.cs j 0 x.a x.k=(q1,ve):=⟨_,_,rfl⟩
    have CQ:Hid (tcoAt c.cs j=ve):=by unfold Hid;rw [CB.out,RT.out,hq]
    have C:Hid (∀ dq os,Calls Tryz.prog 20 #[.slice (some ⟨BC,OC,none⟩) j p.ccs,.int .i64 0,.agg #[.int .i64 x.a.op,.int .i64 x.a.num,.string x.a.name,.slice x.a.ptr (len x.k) x.a.cap]] (Sort.grow (redrawn w2 dq) os)
     fun e w''=>e=.returned (.tuple #[.int .i64 q1,.int .i64 ve])∧∃ p:Regrown,w''=Sort.grow (redrawn w2 p.d) p.os):=by
     intro dq os
     have hb:=below_regrown w2 dq os
     have hbw:=B2.out.trans (hb.mono B2.out.size)
     have hl:(c.cs.take j).length=j:=by rw [List.length_take];omega
     have q:=rtypeof_any (c.cs.take j) (some ⟨BC,OC,none⟩) p.ccs 0 x.b x.o x.a.op x.a.num x.a.name x.a.ptr x.a.cap x.k (Sort.grow (redrawn w2 dq) os) (by rw [← HPcs.out];exact csv_take (HCS.out.next hbw) j) (by rw [hl];have:=HV.out.cap;omega) (PX.out.2.1.2.1.next hbw) PX.out.2.1.2.2
     rw [hl,show typeOfT (c.cs.take j) 0 ⟨x.a.op,x.a.num,x.a.name,x.a.ptr,x.a.cap⟩ x.k=(q1,ve) from (tof_take c.cs j 0 _ _ (by omega)).trans hq] at q
     exact Calls.regrown_of q
    clear hq
    refine wp_region_quiet_below (by kernel_rfl) (by kernel_rfl) ?_
    repeat (quiet_step (with_reducible exact C.out _ _))
    refine wpQuiet_nil ?_
    intro _ hw'
    obtain ⟨⟨dq,osq⟩,hw''⟩:=hw'
    subst hw''
    have hb:=below_regrown w2 dq osq
    clear e0 e1 e2 e3 e4 m1 m2 m3 m4 c7 C
    generalize Sort.grow (redrawn w2 dq) osq=w4 at *
    have B4:=Lib.hid (B2.out.trans (hb.mono B2.out.size))
    have X4:=Lib.hid (X2.out.next hb)
    clear hb
    by_cases h0:ve=0
    · have b0:(ve != 0)=false:=by simp [h0]
      have RQ:Hid (fe (tcoAt c.cs) (j+1) (c.cs.length - (j+1))=E1):=by unfold Hid;rw [← FA.out,CQ.out,h0,orE_zero]
      clear h0
      go_wp2
      go_roundw
      case rel=>exact ⟨j+1,by omega,by go_num,B4.out,X4.out,RQ.out⟩
      case measure=>simp [intOf];omega
    · have b0:(ve != 0)=true:=by simp [h0]
      have RQ:Hid (E1=ve):=by unfold Hid;rw [← FA.out,CQ.out,orE_ne h0]
      have RQ2:Hid (R=ve):=by unfold Hid;rw [G1.out,RQ.out,orE_ne h0]
      clear h0
      go_wp2
      go_ret
      exact ⟨ret_int RQ2.out.symm,B4.out⟩
  have hj1:¬ (j:Int) < (c.cs.length:Int):=by omega
  have RQ:Hid (E1=0):=by unfold Hid;rw [← HR.out.2.2,fe_end (by omega)]
  have G2:Hid (R=orE E2 (orE E3 E4)):=by unfold Hid;rw [G1.out,RQ.out,orE_zero]
  have BW:=Lib.hid HR.out.1
  have XW:=Lib.hid HR.out.2.1
  clear HR RQ hlt hj
  have c7:=XW.out.c7
  go_wp2_with fail
  clear c7
  go_loopw [7] (fun i wr=>∃ j:Nat,j≤c.rs.length∧i=.int .i64 j∧Hid (Below w.heap.size w wr∧CtBox wr w.heap.size c p∧fe (truAt c.cs c.rs) j (c.rs.length - j)=E2)) (fun i _=>c.rs.length - (intOf i).toNat)
  case atStart=>exact ⟨0,Nat.zero_le _,rfl,BW.out,XW.out,HE2.out⟩
  case round =>
   obtain ⟨j,hj,rfl,HR⟩:=hrel
   by_cases hlt:j < c.rs.length
   · obtain ⟨x,hc⟩:∃ x,c.rs[j]?=some x:=⟨_,List.getElem?_eq_getElem (by omega)⟩
     obtain ⟨-,BR,OR,hpp,hrow⟩:=HV.out.rs
     have HPr:=Lib.hid (hpp (by intro q;rw [q] at hc;simp at hc))
     have PX:=Lib.hid (hrow j x hc)
     obtain ⟨d0,-,⟨⟨d1,d2,d3,d4⟩,-,-⟩,-,-⟩:=PX.out.next HR.out.1
     have hj1:(j:Int) < (c.rs.length:Int):=by omega
     have hj0:(0:Int)≤(j:Int):=by omega
     have FA:=Lib.hid ((fe_at (f:=truAt c.cs c.rs) hlt).symm.trans HR.out.2.2)
     have CA:=Lib.hid (truAt_eq c.cs c.rs j x hc)
     obtain ⟨c0,c1,c2,c3,c4,c5,c6,c7,c8,c9,c10,c11,c12,c13,hltb⟩:=HR.out.2.1
     rw [HPr.out] at c8
     obtain ⟨ve,hve⟩:∃ ve,expE c.cs x.sc 4 x.a x.k=ve:=⟨_,rfl⟩
     have CQ:Hid (truAt c.cs c.rs j=ve):=by unfold Hid;rw [CA.out,hve]
     have C:Hid (∀ dq os,Calls Tryz.prog 21 #[.agg #[.int .i64 c.rep,.int .i64 c.rel,.int .i64 c.con,.int .i64 c.sit,.int .i64 c.lay,.int .i64 c.nf,.int .i64 c.nt,.slice p.cs c.cs.length p.ccs,.slice (some ⟨BR,OR,none⟩) c.rs.length p.crs,.slice p.os c.os.length p.cos,.slice p.cr (len c.cr) p.ccr,.slice p.ls c.ls.length p.cls,.slice p.fs c.fs.length p.cfs,.int .i64 c.gua],.int .i64 x.sc,.agg #[.int .i64 x.a.op,.int .i64 x.a.num,.string x.a.name,.slice x.a.ptr (len x.k) x.a.cap],.int .i64 4] (Sort.grow (redrawn wr dq) os)
      fun e w''=>e=.returned (.int .i64 ve)∧∃ p:Regrown,w''=Sort.grow (redrawn wr p.d) p.os):=by
      intro dq os
      have hb:=below_regrown wr dq os
      have hbw:=HR.out.1.trans (hb.mono HR.out.1.size)
      have q:=rexpect_any c p x.b x.o x.a x.k x.sc 4 (Sort.grow (redrawn wr dq) os) (HCS.out.next hbw) HV.out.cap (PX.out.2.2.1.2.1.next hbw) PX.out.2.2.1.2.2
      rw [hve,HPr.out] at q
      exact Calls.regrown_of q
     clear hc hpp hrow hve
     go_upto_region 15 with (fail)
     have e0:=fun d os=>cell_regrown c0 d os
     have e1:=fun d os=>cell_regrown c1 d os
     have e2:=fun d os=>cell_regrown c2 d os
     have e3:=fun d os=>cell_regrown c3 d os
     have e4:=fun d os=>cell_regrown c4 d os
     have e5:=fun d os=>cell_regrown c5 d os
     have e6:=fun d os=>cell_regrown c6 d os
     have e7:=fun d os=>cell_regrown c7 d os
     have e8:=fun d os=>cell_regrown c8 d os
     have e9:=fun d os=>cell_regrown c9 d os
     have e10:=fun d os=>cell_regrown c10 d os
     have e11:=fun d os=>cell_regrown c11 d os
     have e12:=fun d os=>cell_regrown c12 d os
     have e13:=fun d os=>cell_regrown c13 d os
     have r0:=fun d os=>cell_regrown d0 d os
     have r1:=fun d os=>cell_regrown d1 d os
     have r2:=fun d os=>cell_regrown d2 d os
     have r3:=fun d os=>cell_regrown d3 d os
     have r4:=fun d os=>cell_regrown d4 d os
     refine wp_region_quiet_below (by kernel_rfl) (by kernel_rfl) ?_
     repeat (quiet_step (with_reducible exact C.out _ _))
     refine wpQuiet_nil ?_
     intro _ hw'
     obtain ⟨⟨dq,osq⟩,hw''⟩:=hw'
     subst hw''
     have hb:=below_regrown wr dq osq
     clear e0 c0 e1 c1 e2 c2 e3 c3 e4 c4 e5 c5 e6 c6 e7 c7 e8 c8 e9 c9 e10 c10 e11 c11 e12 c12 e13 c13 r0 d0 r1 d1 r2 d2 r3 d3 r4 d4 C
     generalize Sort.grow (redrawn wr dq) osq=w4 at *
     have B4:=Lib.hid (HR.out.1.trans (hb.mono HR.out.1.size))
     have X4:=Lib.hid (HR.out.2.1.next hb)
     clear hb
     by_cases h0:ve=0
     · have b0:(ve != 0)=false:=by simp [h0]
       have RQ:Hid (fe (truAt c.cs c.rs) (j+1) (c.rs.length - (j+1))=E2):=by unfold Hid;rw [← FA.out,CQ.out,h0,orE_zero]
       clear h0
       go_wp2
       go_roundw
       case rel=>exact ⟨j+1,by omega,by go_num,B4.out,X4.out,RQ.out⟩
       case measure=>simp [intOf];omega
     · have b0:(ve != 0)=true:=by simp [h0]
       have RQ:Hid (E2=ve):=by unfold Hid;rw [← FA.out,CQ.out,orE_ne h0]
       have RQ2:Hid (R=ve):=by unfold Hid;rw [G2.out,RQ.out,orE_ne h0]
       clear h0
       go_wp2
       go_ret
       exact ⟨ret_int RQ2.out.symm,B4.out⟩
   have hj1:¬ (j:Int) < (c.rs.length:Int):=by omega
   have RQ:Hid (E2=0):=by unfold Hid;rw [← HR.out.2.2,fe_end (by omega)]
   have G3:Hid (R=orE E3 E4):=by unfold Hid;rw [G2.out,RQ.out,orE_zero]
   have BW:=Lib.hid HR.out.1
   have XW:=Lib.hid HR.out.2.1
   clear HR RQ hlt hj
   have c8:=XW.out.c8
   go_wp2_with fail
   clear c8
   go_loopw [9] (fun i wr=>∃ j:Nat,j≤c.os.length∧i=.int .i64 j∧Hid (Below w.heap.size w wr∧CtBox wr w.heap.size c p∧fe (tosAt c.cs c.os) j (c.os.length - j)=E3)) (fun i _=>c.os.length - (intOf i).toNat)
   case atStart=>exact ⟨0,Nat.zero_le _,rfl,BW.out,XW.out,HE3.out⟩
   case round =>
    obtain ⟨j,hj,rfl,HR⟩:=hrel
    by_cases hlt:j < c.os.length
    · obtain ⟨x,hc⟩:∃ x,c.os[j]?=some x:=⟨_,List.getElem?_eq_getElem (by omega)⟩
      obtain ⟨-,BO,OO,hpp,hrow⟩:=HV.out.os
      have HPr:=Lib.hid (hpp (by intro q;rw [q] at hc;simp at hc))
      have PX:=Lib.hid (hrow j x hc)
      obtain ⟨d0,⟨⟨d1,d2,d3,d4⟩,-,-⟩,-⟩:=PX.out.next HR.out.1
      have hj1:(j:Int) < (c.os.length:Int):=by omega
      have hj0:(0:Int)≤(j:Int):=by omega
      have FA:=Lib.hid ((fe_at (f:=tosAt c.cs c.os) hlt).symm.trans HR.out.2.2)
      have CA:=Lib.hid (tosAt_eq c.cs c.os j x hc)
      obtain ⟨c0,c1,c2,c3,c4,c5,c6,c7,c8,c9,c10,c11,c12,c13,hltb⟩:=HR.out.2.1
      rw [HPr.out] at c9
      obtain ⟨ve,hve⟩:∃ ve,expE c.cs x.sc 1 x.a x.k=ve:=⟨_,rfl⟩
      have CQ:Hid (tosAt c.cs c.os j=ve):=by unfold Hid;rw [CA.out,hve]
      have C:Hid (∀ dq os,Calls Tryz.prog 21 #[.agg #[.int .i64 c.rep,.int .i64 c.rel,.int .i64 c.con,.int .i64 c.sit,.int .i64 c.lay,.int .i64 c.nf,.int .i64 c.nt,.slice p.cs c.cs.length p.ccs,.slice p.rs c.rs.length p.crs,.slice (some ⟨BO,OO,none⟩) c.os.length p.cos,.slice p.cr (len c.cr) p.ccr,.slice p.ls c.ls.length p.cls,.slice p.fs c.fs.length p.cfs,.int .i64 c.gua],.int .i64 x.sc,.agg #[.int .i64 x.a.op,.int .i64 x.a.num,.string x.a.name,.slice x.a.ptr (len x.k) x.a.cap],.int .i64 1] (Sort.grow (redrawn wr dq) os)
       fun e w''=>e=.returned (.int .i64 ve)∧∃ p:Regrown,w''=Sort.grow (redrawn wr p.d) p.os):=by
       intro dq os
       have hb:=below_regrown wr dq os
       have hbw:=HR.out.1.trans (hb.mono HR.out.1.size)
       have q:=rexpect_any c p x.b x.o x.a x.k x.sc 1 (Sort.grow (redrawn wr dq) os) (HCS.out.next hbw) HV.out.cap (PX.out.2.1.2.1.next hbw) PX.out.2.1.2.2
       rw [hve,HPr.out] at q
       exact Calls.regrown_of q
      clear hc hpp hrow hve
      go_upto_region 21 with (fail)
      have e0:=fun d os=>cell_regrown c0 d os
      have e1:=fun d os=>cell_regrown c1 d os
      have e2:=fun d os=>cell_regrown c2 d os
      have e3:=fun d os=>cell_regrown c3 d os
      have e4:=fun d os=>cell_regrown c4 d os
      have e5:=fun d os=>cell_regrown c5 d os
      have e6:=fun d os=>cell_regrown c6 d os
      have e7:=fun d os=>cell_regrown c7 d os
      have e8:=fun d os=>cell_regrown c8 d os
      have e9:=fun d os=>cell_regrown c9 d os
      have e10:=fun d os=>cell_regrown c10 d os
      have e11:=fun d os=>cell_regrown c11 d os
      have e12:=fun d os=>cell_regrown c12 d os
      have e13:=fun d os=>cell_regrown c13 d os
      have r0:=fun d os=>cell_regrown d0 d os
      have r1:=fun d os=>cell_regrown d1 d os
      have r2:=fun d os=>cell_regrown d2 d os
      have r3:=fun d os=>cell_regrown d3 d os
      have r4:=fun d os=>cell_regrown d4 d os
      refine wp_region_quiet_below (by kernel_rfl) (by kernel_rfl) ?_
      repeat (quiet_step (with_reducible exact C.out _ _))
      refine wpQuiet_nil ?_
      intro _ hw'
      obtain ⟨⟨dq,osq⟩,hw''⟩:=hw'
      subst hw''
      have hb:=below_regrown wr dq osq
      clear e0 c0 e1 c1 e2 c2 e3 c3 e4 c4 e5 c5 e6 c6 e7 c7 e8 c8 e9 c9 e10 c10 e11 c11 e12 c12 e13 c13 r0 d0 r1 d1 r2 d2 r3 d3 r4 d4 C
      generalize Sort.grow (redrawn wr dq) osq=w4 at *
      have B4:=Lib.hid (HR.out.1.trans (hb.mono HR.out.1.size))
      have X4:=Lib.hid (HR.out.2.1.next hb)
      clear hb
      by_cases h0:ve=0
      · have b0:(ve != 0)=false:=by simp [h0]
        have RQ:Hid (fe (tosAt c.cs c.os) (j+1) (c.os.length - (j+1))=E3):=by unfold Hid;rw [← FA.out,CQ.out,h0,orE_zero]
        clear h0
        go_wp2
        go_roundw
        case rel=>exact ⟨j+1,by omega,by go_num,B4.out,X4.out,RQ.out⟩
        case measure=>simp [intOf];omega
      · have b0:(ve != 0)=true:=by simp [h0]
        have RQ:Hid (E3=ve):=by unfold Hid;rw [← FA.out,CQ.out,orE_ne h0]
        have RQ2:Hid (R=ve):=by unfold Hid;rw [G3.out,RQ.out,orE_ne h0]
        clear h0
        go_wp2
        go_ret
        exact ⟨ret_int RQ2.out.symm,B4.out⟩
    have hj1:¬ (j:Int) < (c.os.length:Int):=by omega
    have RQ:Hid (E3=0):=by unfold Hid;rw [← HR.out.2.2,fe_end (by omega)]
    have G4:Hid (R=E4):=by unfold Hid;rw [G3.out,RQ.out,orE_zero]
    have BW:=Lib.hid HR.out.1
    have XW:=Lib.hid HR.out.2.1
    clear HR RQ hlt hj
    have c9:=XW.out.c9
    go_wp2_with fail
    clear c9
    go_loopw [11] (fun i wr=>∃ (j:Nat) (r:Fo),i=.int .i64 j∧Hid (j+len r=len c.cr∧(∃ b o,(r≠.nil→p.cr=some ⟨b,o,none⟩)∧FoAt wr r b (o+j * 4))∧FoOk r∧tcrE c.cs r=E4∧Below w.heap.size w wr∧CtBox wr w.heap.size c p)) (fun i _=>len c.cr - (intOf i).toNat)
    case atStart =>
     obtain ⟨-,q1,b,o,q2,q3⟩:=(HV.out.next BW.out).cr
     exact ⟨0,c.cr,rfl,by omega,⟨b,o,q2,by rw [Nat.zero_mul,Nat.add_zero];exact q3⟩,q1,HE4.out,BW.out,XW.out⟩
    case round =>
     obtain ⟨j,r,rfl,HR⟩:=hrel
     cases r with
     | nil =>
       have hj:¬ (j:Int) < (len c.cr:Int):=by have:=HR.out.1;simp [len] at this;omega
       have RQ:Hid (R=0):=by unfold Hid;rw [G4.out,← HR.out.2.2.2.1];rfl
       have c10:=HR.out.2.2.2.2.2.c10
       go_wp2
       go_ret
       exact ⟨ret_int RQ.out.symm,HR.out.2.2.2.2.1⟩
     | node b1 o1 a1 k1 r1 =>
       have hj:j < len c.cr:=by have:=HR.out.1;simp [len] at this;omega
       obtain ⟨kb,ko,hkp,⟨d0,d1,d2,d3⟩,hp1,hk1,hr1⟩:=HR.out.2.1
       have HPr:=Lib.hid (hkp (by simp))
       have HX:Hid (ExAt wr b1 o1 a1 k1):=⟨hp1,hk1⟩
       have HN:=Lib.hid hr1
       have HOK:=Lib.hid HR.out.2.2.1
       obtain ⟨ve,hve⟩:∃ ve,expE c.cs 1 2 a1 k1=ve:=⟨_,rfl⟩
       have CQ:Hid (orE ve (tcrE c.cs r1)=E4):=by unfold Hid;rw [← hve];exact HR.out.2.2.2.1
       have hj1:(j:Int) < (len c.cr:Int):=by omega
       have hj0:(0:Int)≤(j:Int):=by omega
       obtain ⟨c0,c1,c2,c3,c4,c5,c6,c7,c8,c9,c10,c11,c12,c13,hltb⟩:=HR.out.2.2.2.2.2
       rw [HPr.out] at c10
       have C:Hid (∀ dq os,Calls Tryz.prog 21 #[.agg #[.int .i64 c.rep,.int .i64 c.rel,.int .i64 c.con,.int .i64 c.sit,.int .i64 c.lay,.int .i64 c.nf,.int .i64 c.nt,.slice p.cs c.cs.length p.ccs,.slice p.rs c.rs.length p.crs,.slice p.os c.os.length p.cos,.slice (some ⟨kb,ko,none⟩) (len c.cr) p.ccr,.slice p.ls c.ls.length p.cls,.slice p.fs c.fs.length p.cfs,.int .i64 c.gua],.int .i64 1,.agg #[.int .i64 a1.op,.int .i64 a1.num,.string a1.name,.slice a1.ptr (len k1) a1.cap],.int .i64 2] (Sort.grow (redrawn wr dq) os)
        fun e w''=>e=.returned (.int .i64 ve)∧∃ p:Regrown,w''=Sort.grow (redrawn wr p.d) p.os):=by
        intro dq os
        have hb:=below_regrown wr dq os
        have hbw:=HR.out.2.2.2.2.1.trans (hb.mono HR.out.2.2.2.2.1.size)
        have q:=rexpect_any c p b1 o1 a1 k1 1 2 (Sort.grow (redrawn wr dq) os) (HCS.out.next hbw) HV.out.cap (HX.out.next hb) ⟨HOK.out.1,HOK.out.2.1⟩
        rw [hve,HPr.out] at q
        exact Calls.regrown_of q
       clear hve hp1 hk1 hr1 hkp
       go_upto_region 27 with (fail)
       have e0:=fun d os=>cell_regrown c0 d os
       have e1:=fun d os=>cell_regrown c1 d os
       have e2:=fun d os=>cell_regrown c2 d os
       have e3:=fun d os=>cell_regrown c3 d os
       have e4:=fun d os=>cell_regrown c4 d os
       have e5:=fun d os=>cell_regrown c5 d os
       have e6:=fun d os=>cell_regrown c6 d os
       have e7:=fun d os=>cell_regrown c7 d os
       have e8:=fun d os=>cell_regrown c8 d os
       have e9:=fun d os=>cell_regrown c9 d os
       have e10:=fun d os=>cell_regrown c10 d os
       have e11:=fun d os=>cell_regrown c11 d os
       have e12:=fun d os=>cell_regrown c12 d os
       have e13:=fun d os=>cell_regrown c13 d os
       have r0:=fun d os=>cell_regrown d0 d os
       have r1:=fun d os=>cell_regrown d1 d os
       have r2:=fun d os=>cell_regrown d2 d os
       have r3:=fun d os=>cell_regrown d3 d os
       refine wp_region_quiet_below (by kernel_rfl) (by kernel_rfl) ?_
       repeat (quiet_step (with_reducible exact C.out _ _))
       refine wpQuiet_nil ?_
       intro _ hw'
       obtain ⟨⟨dq,osq⟩,hw''⟩:=hw'
       subst hw''
       have hb:=below_regrown wr dq osq
       clear e0 c0 e1 c1 e2 c2 e3 c3 e4 c4 e5 c5 e6 c6 e7 c7 e8 c8 e9 c9 e10 c10 e11 c11 e12 c12 e13 c13 r0 d0 r1 d1 r2 d2 r3 d3 C
       generalize Sort.grow (redrawn wr dq) osq=w4 at *
       have B4:=Lib.hid (HR.out.2.2.2.2.1.trans (hb.mono HR.out.2.2.2.2.1.size))
       have X4:=Lib.hid (HR.out.2.2.2.2.2.next hb)
       have N4:=Lib.hid (HN.out.next hb)
       clear hb
       by_cases h0:ve=0
       · have b0:(ve != 0)=false:=by simp [h0]
         have RQ:Hid (tcrE c.cs r1=E4):=by unfold Hid;rw [← CQ.out,h0,orE_zero]
         clear h0
         go_wp2
         go_roundw
         case rel =>
          have q1:=HR.out.1
          simp [len] at q1
          refine ⟨j+1,r1,by go_num,by omega,⟨kb,ko,fun _=>HPr.out,?_⟩,HOK.out.2.2,RQ.out,B4.out,X4.out⟩
          rw [Nat.add_mul,Nat.one_mul,← Nat.add_assoc];exact N4.out
         case measure=>simp [intOf];omega
       · have b0:(ve != 0)=true:=by simp [h0]
         have RQ2:Hid (R=ve):=by unfold Hid;rw [G4.out,← CQ.out,orE_ne h0]
         clear h0
         go_wp2
         go_ret
         exact ⟨ret_int RQ2.out.symm,B4.out⟩
end Go.Proofs.YtljdcpobomfnpaaGreat
namespace Go.Proofs.YtljdcpobomfnpaaGreat
set_option linter.unusedVariables false
set_option linter.unusedSimpArgs false
open Go.ChangeShapes Go.WideShapes Go.ChangeAt Go.RowKit
open Go.Deep (BT)
theorem csv_nil (w:World):CsV w [] none:=⟨⟨0,0,fun q=>absurd rfl q,trivial⟩,(fun c hc=>by cases hc),Nat.zero_le _⟩
def awkF:Fo:=.node 0 0 ⟨6,0,⟨#[115,112,97,110]⟩,none,0⟩ .nil (.node 0 0 ⟨1,2,⟨#[]⟩,none,0⟩ .nil .nil)
theorem awk_type (q:Option Addr):typeOfT [] 1 ⟨11,0,⟨#[]⟩,q,2⟩ awkF=(2,0):=by kernel_rfl
theorem awk_ok (q:Option Addr):ExOk ⟨11,0,⟨#[]⟩,q,2⟩ awkF:=by
 unfold awkF
 simp only [ExOk,FoOk,NdOk,len]
 decide
set_option maxHeartbeats 4000000 in
set_option maxRecDepth 100000 in
theorem awake_any (w:World):Calls Tryz.prog 9 #[] w fun e w'=>e=.returned (.bool true)∧Below w.heap.size w w':=by
 go_enter Tryz.func9,Tryz.ntmps9
 go_wp2_with fail
 have q:=typeof_any [] none 0 1 w.heap.size 0 11 0 ⟨#[]⟩ (some ⟨w.heap.size,0,none⟩) 2 awkF ((w.alloc (.cells #[.int .i64 6,.int .i64 0,.string ⟨#[115,112,97,110]⟩,.slice none 0 0,.int .i64 1,.int .i64 2,.string ⟨#[]⟩,.slice none 0 0] 34)).alloc (.cells #[.int .i64 11,.int .i64 0,.string ⟨#[]⟩,.slice (some ⟨w.heap.size,0,none⟩) 2 2] 34)) (csv_nil _)
  ⟨fun _=>rfl,⟨by simp [go_sem],by simp [go_sem],by simp [go_sem],by simp [go_sem,len]⟩,fun h=>absurd rfl h,trivial,⟨by simp [go_sem],by simp [go_sem],by simp [go_sem],by simp [go_sem,len]⟩,fun h=>absurd rfl h,trivial,trivial⟩ (awk_ok _)
 rw [awk_type] at q
 refine q.mono ?_
 clear q
 rintro e w1 ⟨rfl,hb⟩
 have B1:Hid (Below w.heap.size w w1):=(((Below.refl _ _).alloc (Nat.le_refl _) _).alloc (by simp) _).trans (hb.mono (by simp;omega))
 clear hb
 go_wp2
 go_ret
 exact ⟨rfl,B1.out⟩
end Go.Proofs.YtljdcpobomfnpaaGreat
