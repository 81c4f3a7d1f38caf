import Derived.Test.YtljdcpobomfnpaaGreatTye
namespace Go.Proofs.YtljdcpobomfnpaaGreat
set_option linter.unusedVariables false
set_option linter.unusedSimpArgs false
set_option maxRecDepth 100000
open Go.ChangeShapes Go.WideShapes Go.ChangeAt Go.RowKit
open Go.Deep (BT)
def knB (s:ByteArray):Bool:=decide (atE 1 s=0) || (decide (atE 2 s=0) || decide (atE 3 s=0))
theorem knB_true (s:ByteArray) (t:Nat) (h1:1≤t) (h2:t≤3) (h:atE (t:Int) s=0):knB s=true:=by
 have:t=1∨t=2∨t=3:=by omega
 unfold knB
 rcases this with rfl|rfl|rfl
 · rw [decide_eq_true (show atE 1 s=0 from h)];rfl
 · rw [decide_eq_true (show atE 2 s=0 from h)];simp
 · rw [decide_eq_true (show atE 3 s=0 from h)];simp
theorem knB_false (s:ByteArray) (t:Nat) (h1:4≤t) (h:∀ u:Nat,1≤u→u < t→atE (u:Int) s≠0):knB s=false:=by
 unfold knB
 rw [decide_eq_false (show ¬ atE 1 s=0 from h 1 (by omega) (by omega)),decide_eq_false (show ¬ atE 2 s=0 from h 2 (by omega) (by omega)),decide_eq_false (show ¬ atE 3 s=0 from h 3 (by omega) (by omega))]
 rfl
def tcoAt (cs:List Cn) (j:Nat):Int:=match cs[j]? with
 | none=>0
 | some c=>if knB c.name=true then 7 else (rowT cs j).2
theorem tcoAt_eq (cs:List Cn) (j:Nat) (c:Cn) (h:cs[j]?=some c):tcoAt cs j=if knB c.name=true then 7 else (rowT cs j).2:=by
 unfold tcoAt
 rw [h]
def expE (cs:List Cn) (sc kind:Int) (a:Nd) (k:Fo):Int:=if (tofN cs cs.length sc a k).2=0∧(tofN cs cs.length sc a k).1≠kind then 9 else (tofN cs cs.length sc a k).2
def truAt (cs:List Cn) (rs:List Ru) (j:Nat):Int:=match rs[j]? with
 | none=>0
 | some r=>expE cs r.sc 4 r.a r.k
theorem truAt_eq (cs:List Cn) (rs:List Ru) (j:Nat) (r:Ru) (h:rs[j]?=some r):truAt cs rs j=expE cs r.sc 4 r.a r.k:=by
 unfold truAt
 rw [h]
def tosAt (cs:List Cn) (rs:List Co) (j:Nat):Int:=match rs[j]? with
 | none=>0
 | some r=>expE cs r.sc 1 r.a r.k
theorem tosAt_eq (cs:List Cn) (rs:List Co) (j:Nat) (r:Co) (h:rs[j]?=some r):tosAt cs rs j=expE cs r.sc 1 r.a r.k:=by
 unfold tosAt
 rw [h]
def tcrE (cs:List Cn):Fo→Int
 | .nil=>0
 | .node _ _ a k r=>orE (expE cs 1 2 a k) (tcrE cs r)
def tvalC (c:Ct):Int:=orE (gvalC c) (orE (fe (tcoAt c.cs) 0 c.cs.length) (orE (fe (truAt c.cs c.rs) 0 c.rs.length) (orE (fe (tosAt c.cs c.os) 0 c.os.length) (tcrE c.cs c.cr))))
theorem gval_zero (c:Ct) (h:gvalC c=0):c.cs.length≤32∧c.rs.length≤40∧c.os.length≤16∧len c.cr≤1∧c.ls.length≤16∧c.fs.length≤16:=by
 unfold gvalC at h
 cases h1:rngB c
 · rw [h1] at h;simp at h
 · cases h2:lenB c
   · rw [h1,h2] at h;simp at h
   · exact of_decide_eq_true h2
set_option maxHeartbeats 8000000 in
theorem tval_any (c:Ct) (p:Cp) (w:World) (hv:CtV w c p) :
 Calls Tryz.prog 7 #[.agg #[.int .i64 c.rep,.int .i64 c.rel,.int .i64 c.con,.int .i64 c.sit,.int .i64 c.lay,.int .i64 c.nf,.int .i64 c.nt,.slice p.cs c.cs.length p.ccs,.slice p.rs c.rs.length p.crs,.slice p.os c.os.length p.cos,.slice p.cr (len c.cr) p.ccr,.slice p.ls c.ls.length p.cls,.slice p.fs c.fs.length p.cfs,.int .i64 c.gua]] w fun e w'=>e=.returned (.int .i64 (tvalC c))∧Below w.heap.size w w':=by
 have HV:=Lib.hid hv
 clear hv
 obtain ⟨R,hR⟩:∃ R,tvalC c=R:=⟨_,rfl⟩
 rw [hR]
 obtain ⟨E0,hE0⟩:∃ E,gvalC c=E:=⟨_,rfl⟩
 obtain ⟨E1,hE1⟩:∃ E,fe (tcoAt c.cs) 0 c.cs.length=E:=⟨_,rfl⟩
 obtain ⟨E2,hE2⟩:∃ E,fe (truAt c.cs c.rs) 0 c.rs.length=E:=⟨_,rfl⟩
 obtain ⟨E3,hE3⟩:∃ E,fe (tosAt c.cs c.os) 0 c.os.length=E:=⟨_,rfl⟩
 obtain ⟨E4,hE4⟩:∃ E,tcrE c.cs c.cr=E:=⟨_,rfl⟩
 have G0:Hid (R=orE E0 (orE E1 (orE E2 (orE E3 E4)))):=by unfold Hid;rw [← hR,← hE0,← hE1,← hE2,← hE3,← hE4];rfl
 have HE0:=Lib.hid hE0
 have HE1:=Lib.hid hE1
 have HE2:=Lib.hid hE2
 have HE3:=Lib.hid hE3
 have HE4:=Lib.hid hE4
 clear hR hE0 hE1 hE2 hE3 hE4
 go_enter Tryz.func7,Tryz.ntmps7
 go_upto_region 1 with (fail)
 have X0:=Lib.hid (CtBox.start w c p)
 have B0:Hid (Below w.heap.size w (w.alloc (.cells #[.int .i64 c.rep,.int .i64 c.rel,.int .i64 c.con,.int .i64 c.sit,.int .i64 c.lay,.int .i64 c.nf,.int .i64 c.nt,.slice p.cs c.cs.length p.ccs,.slice p.rs c.rs.length p.crs,.slice p.os c.os.length p.cos,.slice p.cr (len c.cr) p.ccr,.slice p.ls c.ls.length p.cls,.slice p.fs c.fs.length p.cfs,.int .i64 c.gua] 30))):=(Below.refl _ _).alloc (Nat.le_refl _) _
 have Z0:Hid ((w.alloc (.cells #[.int .i64 c.rep,.int .i64 c.rel,.int .i64 c.con,.int .i64 c.sit,.int .i64 c.lay,.int .i64 c.nf,.int .i64 c.nt,.slice p.cs c.cs.length p.ccs,.slice p.rs c.rs.length p.crs,.slice p.os c.os.length p.cos,.slice p.cr (len c.cr) p.ccr,.slice p.ls c.ls.length p.cls,.slice p.fs c.fs.length p.cfs,.int .i64 c.gua] 30)).heap.size=w.heap.size+1):=by unfold Hid;simp
 generalize w.alloc (.cells #[.int .i64 c.rep,.int .i64 c.rel,.int .i64 c.con,.int .i64 c.sit,.int .i64 c.lay,.int .i64 c.nf,.int .i64 c.nt,.slice p.cs c.cs.length p.ccs,.slice p.rs c.rs.length p.crs,.slice p.os c.os.length p.cos,.slice p.cr (len c.cr) p.ccr,.slice p.ls c.ls.length p.cls,.slice p.fs c.fs.length p.cfs,.int .i64 c.gua] 30)=w0 at *
 obtain ⟨c0,c1,c2,c3,c4,c5,c6,c7,c8,c9,c10,c11,c12,c13,hlt⟩:=X0.out
 go_wp2_with fail
 refine (gval_any c p w0 (HV.out.next B0.out)).mono ?_
 rw [HE0.out]
 rintro e w1 ⟨rfl,hb⟩
 have Z1:Hid (w.heap.size < w1.heap.size):=by have:=hb.size;have:=Z0.out;unfold Hid;omega
 have B1:=Lib.hid (B0.out.trans (hb.mono B0.out.size))
 have X1:=Lib.hid (X0.out.next hb)
 clear hb c0 c1 c2 c3 c4 c5 c6 c7 c8 c9 c10 c11 c12 c13 hlt
 by_cases z1:E0=0
 case neg =>
  have b0:(E0 != 0)=true:=by simp [z1]
  have RQ:Hid (R=E0):=by unfold Hid;rw [G0.out,orE_ne z1]
  clear z1
  go_wp2
  go_ret
  exact ⟨ret_int RQ.out.symm,B1.out⟩
 subst z1
 obtain ⟨l0,l1,l2,l3,-,-⟩:=gval_zero c HE0.out
 have HCS:=Lib.hid (csv_of_row HV.out.cs l0)
 have G1:Hid (R=orE E1 (orE E2 (orE E3 E4))):=by unfold Hid;rw [G0.out,orE_zero]
 have c7:=X1.out.c7
 go_wp2_with fail
 refine (newchk_ex c.cs p.cs p.ccs w1 (HCS.out.next B1.out)).mono ?_
 rintro e w2 ⟨kb,ib,mb,rfl,hch,hmb,hb⟩
 have CH:=Lib.hid hch
 have BW:=Lib.hid (B1.out.trans (hb.mono B1.out.size))
 have XW:=Lib.hid (X1.out.next hb)
 have HMB:Hid (w.heap.size < mb):=Nat.lt_of_lt_of_le Z1.out hmb
 clear hch hb hmb c7
 have c7:=XW.out.c7
 go_wp2_with fail
 clear c7
 go_loopw [33] (fun i wr=>∃ j:Nat,j≤c.cs.length∧i=.int .i64 j∧Hid (ChkJ Tryz.prog wr kb ib mb c.cs c.cs.length p.cs p.ccs∧Below w.heap.size w wr∧CtBox wr w.heap.size c p∧fe (tcoAt c.cs) j (c.cs.length - j)=E1)) (fun i _=>c.cs.length - (intOf i).toNat)
 case atStart=>exact ⟨0,Nat.zero_le _,rfl,CH.out,BW.out,XW.out,HE1.out⟩
 case round =>
  clear CH BW XW
  obtain ⟨j,hj,rfl,HR⟩:=hrel
  by_cases hlt:j < c.cs.length
  · obtain ⟨x,hc⟩:∃ x,c.cs[j]?=some x:=⟨_,List.getElem?_eq_getElem (by omega)⟩
    obtain ⟨B,O,hp,hP⟩:=(HV.out.cs).get hc
    obtain ⟨d0,⟨⟨d1,d2,d3,d4⟩,-,-⟩,hs⟩:=hP.next HR.out.2.1
    have hj1:(j:Int) < (c.cs.length:Int):=by omega
    have FA:=Lib.hid ((fe_at (f:=tcoAt c.cs) hlt).symm.trans HR.out.2.2.2)
    have CA:=Lib.hid (tcoAt_eq c.cs j x hc)
    have KT:=Lib.hid (knB_true x.name)
    have KF:=Lib.hid (knB_false x.name)
    clear hP hc
    have HPE:=Lib.hid hp
    rw [hp]
    go_upto_region 8 with (fail)
    have B1:Hid (Below w.heap.size w (wr.alloc (.cells #[.string x.name,.int .i64 x.a.op,.int .i64 x.a.num,.string x.a.name,.slice x.a.ptr (len x.k) x.a.cap] 43))):=HR.out.2.1.alloc HR.out.2.1.size _
    have X1:Hid (CtBox (wr.alloc (.cells #[.string x.name,.int .i64 x.a.op,.int .i64 x.a.num,.string x.a.name,.slice x.a.ptr (len x.k) x.a.cap] 43)) w.heap.size c p):=HR.out.2.2.1.next ((Below.refl _ _).alloc (Nat.le_refl _) _)
    have C1:Hid (ChkJ Tryz.prog (wr.alloc (.cells #[.string x.name,.int .i64 x.a.op,.int .i64 x.a.num,.string x.a.name,.slice x.a.ptr (len x.k) x.a.cap] 43)) kb ib mb c.cs c.cs.length p.cs p.ccs):=HR.out.1.next ((Below.refl _ _).alloc (Nat.le_refl _) _)
    have e0:(wr.alloc (.cells #[.string x.name,.int .i64 x.a.op,.int .i64 x.a.num,.string x.a.name,.slice x.a.ptr (len x.k) x.a.cap] 43)).cell? ⟨wr.heap.size,0,none⟩=some (.string x.name):=by simp [go_sem]
    generalize wr.alloc (.cells #[.string x.name,.int .i64 x.a.op,.int .i64 x.a.num,.string x.a.name,.slice x.a.ptr (len x.k) x.a.cap] 43)=w5 at *
    clear d0 d1 d2 d3 d4
    go_wp2_with fail
    go_loop [7] (fun s=>∃ t:Nat,1≤t∧t≤4∧s=.int .i64 t∧Hid (∀ u:Nat,1≤u→u < t→atE (u:Int) x.name≠0)) (fun s=>4 - (intOf s).toNat)
    case atStart=>exact ⟨1,by omega,by omega,rfl,fun u h1 h2=>by omega⟩
    case round =>
     obtain ⟨t,ht1,ht4,rfl,HU⟩:=hrel
     by_cases ht:t≤3
     · have ht':(t:Int)≤3:=by omega
       go_wp2_with fail
       refine (attr_any (t:Int) x.name w5).mono ?_
       rintro e w6 ⟨rfl,rfl⟩
       by_cases hz:atE (t:Int) x.name=0
       · have RQ:Hid (R=7):=by unfold Hid;rw [G1.out,← FA.out,CA.out,KT.out t ht1 ht hz];rfl
         have b0:(atE (t:Int) x.name==0)=true:=by simp [hz]
         clear hz
         generalize atE (t:Int) x.name=ze at *
         go_wp2
         go_ret
         exact ⟨ret_int RQ.out.symm,B1.out⟩
       · have b0:(atE (t:Int) x.name==0)=false:=by simp [hz]
         have HU2:Hid (∀ u:Nat,1≤u→u < t+1→atE (u:Int) x.name≠0):=fun u h1 h2=>by
          by_cases q:u=t
          · rw [q];exact hz
          · exact HU.out u h1 (by omega)
         clear hz HU
         generalize atE (t:Int) x.name=ze at b0 ⊢
         go_wp2
         go_round
         case rel=>exact ⟨t+1,by omega,by omega,by go_num,HU2.out⟩
         case measure=>simp [intOf];omega
     · have ht':¬ (t:Int)≤3:=by omega
       have CB:Hid (tcoAt c.cs j=(rowT c.cs j).2):=by unfold Hid;rw [CA.out,KF.out t (by omega) HU.out];rfl
       clear HU
       go_wp2_with fail
       refine (const_any j w5 c.cs (some ⟨B,O,none⟩) p.ccs kb ib mb hlt (by rw [← HPE.out];exact C1.out) (by rw [← HPE.out];exact HCS.out.next B1.out)).mono ?_
       obtain ⟨q1,ve,hq⟩:∃ q1 ve,rowT c.cs j=(q1,ve):=⟨_,_,rfl⟩
       rw [hq]
       rintro e w6 ⟨rfl,hch,hg⟩
       have C6:Hid (ChkJ Tryz.prog w6 kb ib mb c.cs c.cs.length p.cs p.ccs):=by unfold Hid;rw [HPE.out];exact hch
       have B6:Hid (Below w.heap.size w w6):=B1.out.grown hg B1.out.size (fun m hm=>by cases hm;exact Nat.le_of_lt HMB.out)
       have X6:Hid (CtBox w6 w.heap.size c p):=X1.out.grown hg (Nat.ne_of_lt HMB.out)
       have CQ:Hid (tcoAt c.cs j=ve):=by unfold Hid;rw [CB.out,hq]
       clear hch hg e0 hq
       dsimp only
       by_cases h0:ve=0
       · have b0:(ve != 0)=false:=by simp [h0]
         have RQ:Hid (fe (tcoAt c.cs) (j+1) (c.cs.length - (j+1))=E1):=by unfold Hid;rw [← FA.out,CQ.out,h0,orE_zero]
         clear h0
         go_wp2
         go_roundw
         case rel=>exact ⟨j+1,by omega,by go_num,by first|exact C6.out|(rw [← HPE.out];exact C6.out),B6.out,X6.out,RQ.out⟩
         case measure=>simp [intOf];omega
       · have b0:(ve != 0)=true:=by simp [h0]
         have RQ:Hid (E1=ve):=by unfold Hid;rw [← FA.out,CQ.out,orE_ne h0]
         have RQ2:Hid (R=ve):=by unfold Hid;rw [G1.out,RQ.out,orE_ne h0]
         clear h0
         go_wp2
         go_ret
         exact ⟨ret_int RQ2.out.symm,B6.out⟩
  have hj1:¬ (j:Int) < (c.cs.length:Int):=by omega
  have RQ:Hid (E1=0):=by unfold Hid;rw [← HR.out.2.2.2,fe_end (by omega)]
  have G2:Hid (R=orE E2 (orE E3 E4)):=by unfold Hid;rw [G1.out,RQ.out,orE_zero]
  have CH:=Lib.hid HR.out.1
  have BW:=Lib.hid HR.out.2.1
  have XW:=Lib.hid HR.out.2.2.1
  clear HR RQ hlt hj
  have c7:=XW.out.c7
  have c8:=XW.out.c8
  go_wp2_with fail
  clear c7 c8
  go_loopw [67] (fun i wr=>∃ j:Nat,j≤c.rs.length∧i=.int .i64 j∧Hid (ChkJ Tryz.prog wr kb ib mb c.cs c.cs.length p.cs p.ccs∧Below w.heap.size w wr∧CtBox wr w.heap.size c p∧fe (truAt c.cs c.rs) j (c.rs.length - j)=E2)) (fun i _=>c.rs.length - (intOf i).toNat)
  case atStart=>exact ⟨0,Nat.zero_le _,rfl,CH.out,BW.out,XW.out,HE2.out⟩
  case round =>
   clear CH BW XW
   obtain ⟨j,hj,rfl,HR⟩:=hrel
   by_cases hlt:j < c.rs.length
   · obtain ⟨x,hc⟩:∃ x,c.rs[j]?=some x:=⟨_,List.getElem?_eq_getElem (by omega)⟩
     obtain ⟨B,O,hp,hP⟩:=(HV.out.rs).get hc
     obtain ⟨d0,d1,⟨⟨d2,d3,d4,d5⟩,hx,hok⟩,-⟩:=hP.next HR.out.2.1
     have HX:=Lib.hid hP.2.2.1.2.1
     have HOK:=Lib.hid hok
     have hj1:(j:Int) < (c.rs.length:Int):=by omega
     have FA:=Lib.hid ((fe_at (f:=truAt c.cs c.rs) hlt).symm.trans HR.out.2.2.2)
     have CA:=Lib.hid (truAt_eq c.cs c.rs j x hc)
     clear hP hc hx hok
     rw [hp]
     go_upto_region 22 with (fail)
     have B1:Hid (Below w.heap.size w (wr.alloc (.cells #[.int .i64 x.sc,.string x.name,.int .i64 x.a.op,.int .i64 x.a.num,.string x.a.name,.slice x.a.ptr (len x.k) x.a.cap] 38))):=HR.out.2.1.alloc HR.out.2.1.size _
     have X1:Hid (CtBox (wr.alloc (.cells #[.int .i64 x.sc,.string x.name,.int .i64 x.a.op,.int .i64 x.a.num,.string x.a.name,.slice x.a.ptr (len x.k) x.a.cap] 38)) w.heap.size c p):=HR.out.2.2.1.next ((Below.refl _ _).alloc (Nat.le_refl _) _)
     have C1:Hid (ChkJ Tryz.prog (wr.alloc (.cells #[.int .i64 x.sc,.string x.name,.int .i64 x.a.op,.int .i64 x.a.num,.string x.a.name,.slice x.a.ptr (len x.k) x.a.cap] 38)) kb ib mb c.cs c.cs.length p.cs p.ccs):=HR.out.1.next ((Below.refl _ _).alloc (Nat.le_refl _) _)
     have e0:(wr.alloc (.cells #[.int .i64 x.sc,.string x.name,.int .i64 x.a.op,.int .i64 x.a.num,.string x.a.name,.slice x.a.ptr (len x.k) x.a.cap] 38)).cell? ⟨wr.heap.size,0,none⟩=some (.int .i64 x.sc):=by simp [go_sem]
     have e1:(wr.alloc (.cells #[.int .i64 x.sc,.string x.name,.int .i64 x.a.op,.int .i64 x.a.num,.string x.a.name,.slice x.a.ptr (len x.k) x.a.cap] 38)).cell? ⟨wr.heap.size,1,none⟩=some (.string x.name):=by simp [go_sem]
     have e2:(wr.alloc (.cells #[.int .i64 x.sc,.string x.name,.int .i64 x.a.op,.int .i64 x.a.num,.string x.a.name,.slice x.a.ptr (len x.k) x.a.cap] 38)).cell? ⟨wr.heap.size,2,none⟩=some (.int .i64 x.a.op):=by simp [go_sem]
     have e3:(wr.alloc (.cells #[.int .i64 x.sc,.string x.name,.int .i64 x.a.op,.int .i64 x.a.num,.string x.a.name,.slice x.a.ptr (len x.k) x.a.cap] 38)).cell? ⟨wr.heap.size,3,none⟩=some (.int .i64 x.a.num):=by simp [go_sem]
     have e4:(wr.alloc (.cells #[.int .i64 x.sc,.string x.name,.int .i64 x.a.op,.int .i64 x.a.num,.string x.a.name,.slice x.a.ptr (len x.k) x.a.cap] 38)).cell? ⟨wr.heap.size,4,none⟩=some (.string x.a.name):=by simp [go_sem]
     have e5:(wr.alloc (.cells #[.int .i64 x.sc,.string x.name,.int .i64 x.a.op,.int .i64 x.a.num,.string x.a.name,.slice x.a.ptr (len x.k) x.a.cap] 38)).cell? ⟨wr.heap.size,5,none⟩=some (.slice x.a.ptr (len x.k) x.a.cap):=by simp [go_sem]
     generalize wr.alloc (.cells #[.int .i64 x.sc,.string x.name,.int .i64 x.a.op,.int .i64 x.a.num,.string x.a.name,.slice x.a.ptr (len x.k) x.a.cap] 38)=w5 at *
     clear d0 d1 d2 d3 d4 d5
     go_wp2_with fail
     refine (expect_any c.cs.length x.b x.o x.a.op x.a.num x.a.name x.a.ptr x.a.cap x.k w5 c.cs p.cs p.ccs kb ib mb x.sc 4 (Nat.le_refl _) C1.out (HCS.out.next B1.out) (HX.out.next B1.out) HOK.out).mono ?_
     rintro e w6 ⟨he,hch,hg⟩
     have C6:=Lib.hid hch
     have B6:Hid (Below w.heap.size w w6):=B1.out.grown hg B1.out.size (fun m hm=>by cases hm;exact Nat.le_of_lt HMB.out)
     have X6:Hid (CtBox w6 w.heap.size c p):=X1.out.grown hg (Nat.ne_of_lt HMB.out)
     obtain ⟨ve,hve⟩:∃ ve,expE c.cs x.sc 4 x.a x.k=ve:=⟨_,rfl⟩
     have he':e=.returned (.int .i64 ve):=by rw [← hve];exact he
     subst he'
     have CQ:Hid (truAt c.cs c.rs j=ve):=by unfold Hid;rw [CA.out,hve]
     clear he hch hg e0 e1 e2 e3 e4 e5 hve
     by_cases h0:ve=0
     · have b0:(ve != 0)=false:=by simp [h0]
       have RQ:Hid (fe (truAt c.cs c.rs) (j+1) (c.rs.length - (j+1))=E2):=by unfold Hid;rw [← FA.out,CQ.out,h0,orE_zero]
       clear h0
       go_wp2
       go_roundw
       case rel=>exact ⟨j+1,by omega,by go_num,C6.out,B6.out,X6.out,RQ.out⟩
       case measure=>simp [intOf];omega
     · have b0:(ve != 0)=true:=by simp [h0]
       have RQ:Hid (E2=ve):=by unfold Hid;rw [← FA.out,CQ.out,orE_ne h0]
       have RQ2:Hid (R=ve):=by unfold Hid;rw [G2.out,RQ.out,orE_ne h0]
       clear h0
       go_wp2
       go_ret
       exact ⟨ret_int RQ2.out.symm,B6.out⟩
   have hj1:¬ (j:Int) < (c.rs.length:Int):=by omega
   have RQ:Hid (E2=0):=by unfold Hid;rw [← HR.out.2.2.2,fe_end (by omega)]
   have G3:Hid (R=orE E3 E4):=by unfold Hid;rw [G2.out,RQ.out,orE_zero]
   have CH:=Lib.hid HR.out.1
   have BW:=Lib.hid HR.out.2.1
   have XW:=Lib.hid HR.out.2.2.1
   clear HR RQ hlt hj
   have c9:=XW.out.c9
   go_wp2_with fail
   clear c9
   go_loopw [85] (fun i wr=>∃ j:Nat,j≤c.os.length∧i=.int .i64 j∧Hid (ChkJ Tryz.prog wr kb ib mb c.cs c.cs.length p.cs p.ccs∧Below w.heap.size w wr∧CtBox wr w.heap.size c p∧fe (tosAt c.cs c.os) j (c.os.length - j)=E3)) (fun i _=>c.os.length - (intOf i).toNat)
   case atStart=>exact ⟨0,Nat.zero_le _,rfl,CH.out,BW.out,XW.out,HE3.out⟩
   case round =>
    clear CH BW XW
    obtain ⟨j,hj,rfl,HR⟩:=hrel
    by_cases hlt:j < c.os.length
    · obtain ⟨x,hc⟩:∃ x,c.os[j]?=some x:=⟨_,List.getElem?_eq_getElem (by omega)⟩
      obtain ⟨B,O,hp,hP⟩:=(HV.out.os).get hc
      obtain ⟨d0,⟨⟨d1,d2,d3,d4⟩,hx,hok⟩,-⟩:=hP.next HR.out.2.1
      have HX:=Lib.hid hP.2.1.2.1
      have HOK:=Lib.hid hok
      have hj1:(j:Int) < (c.os.length:Int):=by omega
      have FA:=Lib.hid ((fe_at (f:=tosAt c.cs c.os) hlt).symm.trans HR.out.2.2.2)
      have CA:=Lib.hid (tosAt_eq c.cs c.os j x hc)
      clear hP hc hx hok
      rw [hp]
      go_upto_region 29 with (fail)
      have B1:Hid (Below w.heap.size w (wr.alloc (.cells #[.int .i64 x.sc,.int .i64 x.a.op,.int .i64 x.a.num,.string x.a.name,.slice x.a.ptr (len x.k) x.a.cap] 40))):=HR.out.2.1.alloc HR.out.2.1.size _
      have X1:Hid (CtBox (wr.alloc (.cells #[.int .i64 x.sc,.int .i64 x.a.op,.int .i64 x.a.num,.string x.a.name,.slice x.a.ptr (len x.k) x.a.cap] 40)) w.heap.size c p):=HR.out.2.2.1.next ((Below.refl _ _).alloc (Nat.le_refl _) _)
      have C1:Hid (ChkJ Tryz.prog (wr.alloc (.cells #[.int .i64 x.sc,.int .i64 x.a.op,.int .i64 x.a.num,.string x.a.name,.slice x.a.ptr (len x.k) x.a.cap] 40)) kb ib mb c.cs c.cs.length p.cs p.ccs):=HR.out.1.next ((Below.refl _ _).alloc (Nat.le_refl _) _)
      have e0:(wr.alloc (.cells #[.int .i64 x.sc,.int .i64 x.a.op,.int .i64 x.a.num,.string x.a.name,.slice x.a.ptr (len x.k) x.a.cap] 40)).cell? ⟨wr.heap.size,0,none⟩=some (.int .i64 x.sc):=by simp [go_sem]
      have e1:(wr.alloc (.cells #[.int .i64 x.sc,.int .i64 x.a.op,.int .i64 x.a.num,.string x.a.name,.slice x.a.ptr (len x.k) x.a.cap] 40)).cell? ⟨wr.heap.size,1,none⟩=some (.int .i64 x.a.op):=by simp [go_sem]
      have e2:(wr.alloc (.cells #[.int .i64 x.sc,.int .i64 x.a.op,.int .i64 x.a.num,.string x.a.name,.slice x.a.ptr (len x.k) x.a.cap] 40)).cell? ⟨wr.heap.size,2,none⟩=some (.int .i64 x.a.num):=by simp [go_sem]
      have e3:(wr.alloc (.cells #[.int .i64 x.sc,.int .i64 x.a.op,.int .i64 x.a.num,.string x.a.name,.slice x.a.ptr (len x.k) x.a.cap] 40)).cell? ⟨wr.heap.size,3,none⟩=some (.string x.a.name):=by simp [go_sem]
      have e4:(wr.alloc (.cells #[.int .i64 x.sc,.int .i64 x.a.op,.int .i64 x.a.num,.string x.a.name,.slice x.a.ptr (len x.k) x.a.cap] 40)).cell? ⟨wr.heap.size,4,none⟩=some (.slice x.a.ptr (len x.k) x.a.cap):=by simp [go_sem]
      generalize wr.alloc (.cells #[.int .i64 x.sc,.int .i64 x.a.op,.int .i64 x.a.num,.string x.a.name,.slice x.a.ptr (len x.k) x.a.cap] 40)=w5 at *
      clear d0 d1 d2 d3 d4
      go_wp2_with fail
      refine (expect_any c.cs.length x.b x.o x.a.op x.a.num x.a.name x.a.ptr x.a.cap x.k w5 c.cs p.cs p.ccs kb ib mb x.sc 1 (Nat.le_refl _) C1.out (HCS.out.next B1.out) (HX.out.next B1.out) HOK.out).mono ?_
      rintro e w6 ⟨he,hch,hg⟩
      have C6:=Lib.hid hch
      have B6:Hid (Below w.heap.size w w6):=B1.out.grown hg B1.out.size (fun m hm=>by cases hm;exact Nat.le_of_lt HMB.out)
      have X6:Hid (CtBox w6 w.heap.size c p):=X1.out.grown hg (Nat.ne_of_lt HMB.out)
      obtain ⟨ve,hve⟩:∃ ve,expE c.cs x.sc 1 x.a x.k=ve:=⟨_,rfl⟩
      have he':e=.returned (.int .i64 ve):=by rw [← hve];exact he
      subst he'
      have CQ:Hid (tosAt c.cs c.os j=ve):=by unfold Hid;rw [CA.out,hve]
      clear he hch hg e0 e1 e2 e3 e4 hve
      by_cases h0:ve=0
      · have b0:(ve != 0)=false:=by simp [h0]
        have RQ:Hid (fe (tosAt c.cs c.os) (j+1) (c.os.length - (j+1))=E3):=by unfold Hid;rw [← FA.out,CQ.out,h0,orE_zero]
        clear h0
        go_wp2
        go_roundw
        case rel=>exact ⟨j+1,by omega,by go_num,C6.out,B6.out,X6.out,RQ.out⟩
        case measure=>simp [intOf];omega
      · have b0:(ve != 0)=true:=by simp [h0]
        have RQ:Hid (E3=ve):=by unfold Hid;rw [← FA.out,CQ.out,orE_ne h0]
        have RQ2:Hid (R=ve):=by unfold Hid;rw [G3.out,RQ.out,orE_ne h0]
        clear h0
        go_wp2
        go_ret
        exact ⟨ret_int RQ2.out.symm,B6.out⟩
    have hj1:¬ (j:Int) < (c.os.length:Int):=by omega
    have RQ:Hid (E3=0):=by unfold Hid;rw [← HR.out.2.2.2,fe_end (by omega)]
    have G4:Hid (R=E4):=by unfold Hid;rw [G3.out,RQ.out,orE_zero]
    have CH:=Lib.hid HR.out.1
    have BW:=Lib.hid HR.out.2.1
    have XW:=Lib.hid HR.out.2.2.1
    clear HR RQ hlt hj
    have c10:=XW.out.c10
    go_wp2_with fail
    clear c10
    go_loopw [103] (fun i wr=>∃ (j:Nat) (r:Fo),i=.int .i64 j∧Hid (j+len r=len c.cr∧(∃ b o,(r≠.nil→p.cr=some ⟨b,o,none⟩)∧FoAt wr r b (o+j * 4)∧FoLt w.heap.size r b)∧FoOk r∧tcrE c.cs r=E4∧ChkJ Tryz.prog wr kb ib mb c.cs c.cs.length p.cs p.ccs∧Below w.heap.size w wr∧CtBox wr w.heap.size c p)) (fun i _=>len c.cr - (intOf i).toNat)
    case atStart =>
     obtain ⟨-,q1,b,o,q2,q3⟩:=HV.out.cr
     exact ⟨0,c.cr,rfl,by omega,⟨b,o,q2,by rw [Nat.zero_mul,Nat.add_zero];exact q3.next BW.out,q3.lt⟩,q1,HE4.out,CH.out,BW.out,XW.out⟩
    case round =>
     clear CH BW XW
     obtain ⟨j,r,rfl,HR⟩:=hrel
     cases r with
     | nil =>
       have hj:¬ (j:Int) < (len c.cr:Int):=by have:=HR.out.1;simp [len] at this;omega
       have RQ:Hid (R=0):=by unfold Hid;rw [G4.out,← HR.out.2.2.2.1];rfl
       go_wp2
       go_ret
       exact ⟨ret_int RQ.out.symm,HR.out.2.2.2.2.2.1⟩
     | node b1 o1 a1 k1 r1 =>
       have hj:j < len c.cr:=by have:=HR.out.1;simp [len] at this;omega
       obtain ⟨kb1,ko1,hkp,⟨⟨d0,d1,d2,d3⟩,hp1,hk1,hr1⟩,hfl⟩:=HR.out.2.1
       have hpe:p.cr=some ⟨kb1,ko1,none⟩:=hkp (by simp)
       rw [hpe]
       have HX:Hid (ExAt wr b1 o1 a1 k1):=⟨hp1,hk1⟩
       have HN:=Lib.hid hr1
       have HFL:=Lib.hid hfl
       have HOK:=Lib.hid HR.out.2.2.1
       have CQ:Hid (orE (expE c.cs 1 2 a1 k1) (tcrE c.cs r1)=E4):=HR.out.2.2.2.1
       have hj1:(j:Int) < (len c.cr:Int):=by omega
       clear hp1 hk1 hr1 hkp hfl
       have B5:Hid (Below wr.heap.size wr (wr.alloc (.cells #[.int .i64 a1.op,.int .i64 a1.num,.string a1.name,.slice a1.ptr (len k1) a1.cap] 34))):=(Below.refl _ _).alloc (Nat.le_refl _) _
       have B1:Hid (Below w.heap.size w (wr.alloc (.cells #[.int .i64 a1.op,.int .i64 a1.num,.string a1.name,.slice a1.ptr (len k1) a1.cap] 34))):=HR.out.2.2.2.2.2.1.alloc HR.out.2.2.2.2.2.1.size _
       go_wp2_with fail
       refine (expect_any c.cs.length b1 o1 a1.op a1.num a1.name a1.ptr a1.cap k1 _ c.cs p.cs p.ccs kb ib mb 1 2 (Nat.le_refl _) (HR.out.2.2.2.2.1.next B5.out) (HCS.out.next B1.out) (HX.out.next B5.out) ⟨HOK.out.1,HOK.out.2.1⟩).mono ?_
       rintro e w6 ⟨he,hch,hg⟩
       have C6:=Lib.hid hch
       have B6:Hid (Below w.heap.size w w6):=B1.out.grown hg B1.out.size (fun m hm=>by cases hm;exact Nat.le_of_lt HMB.out)
       have X6:Hid (CtBox w6 w.heap.size c p):=(HR.out.2.2.2.2.2.2.next B5.out).grown hg (Nat.ne_of_lt HMB.out)
       have N6:=Lib.hid ((HN.out.next B5.out).grown (HFL.out.2.2.mono (Nat.le_of_lt HMB.out)) hg)
       obtain ⟨ve,hve⟩:∃ ve,expE c.cs 1 2 a1 k1=ve:=⟨_,rfl⟩
       have he':e=.returned (.int .i64 ve):=by rw [← hve];exact he
       subst he'
       have CQ2:Hid (orE ve (tcrE c.cs r1)=E4):=by unfold Hid;rw [← hve];exact CQ.out
       clear he hch hg d0 d1 d2 d3 hve
       by_cases h0:ve=0
       · have b0:(ve != 0)=false:=by simp [h0]
         have RQ:Hid (tcrE c.cs r1=E4):=by unfold Hid;rw [← CQ2.out,h0,orE_zero]
         clear h0
         go_wp2
         go_roundw
         case rel =>
          have q1:=HR.out.1
          simp [len] at q1
          refine ⟨j+1,r1,by go_num,by omega,⟨kb1,ko1,fun _=>rfl,?_,HFL.out.2.2⟩,HOK.out.2.2,RQ.out,C6.out,B6.out,X6.out⟩
          rw [Nat.add_mul,Nat.one_mul,← Nat.add_assoc];exact N6.out
         case measure=>simp [intOf];omega
       · have b0:(ve != 0)=true:=by simp [h0]
         have RQ2:Hid (R=ve):=by unfold Hid;rw [G4.out,← CQ2.out,orE_ne h0]
         clear h0
         go_wp2
         go_ret
         exact ⟨ret_int RQ2.out.symm,B6.out⟩
end Go.Proofs.YtljdcpobomfnpaaGreat
