import Derived.Test.YtfoedbfkddoibaaGreatGg
import Derived.Test.YtfoedbfkddoibaaGreatCrC
import Derived.Test.YtfoedbfkddoibaaGreatTyo
namespace Go.Proofs.YtfoedbfkddoibaaGreat
section
set_option linter.unusedVariables false
set_option linter.unusedSimpArgs false
open Go.ChangeShapes Go.WideShapes Go.ChangeAt Go.RowKit
open Go.Deep (BT)
set_option maxHeartbeats 2000000 in
set_option maxRecDepth 100000 in
theorem size_any (b o:Nat) (a:Nd) (k:Fo):∀ w:World,ExAt w b o a k→ExOk a k→Calls Tryz.prog 19 #[.agg #[.int .i64 a.op,.int .i64 a.num,.string a.name,.slice a.ptr (len k) a.cap]] w (SomeI w):=by
 refine tree_of (P:=fun b o a k=>∀ w:World,ExAt w b o a k→ExOk a k→Calls Tryz.prog 19 #[.agg #[.int .i64 a.op,.int .i64 a.num,.string a.name,.slice a.ptr (len k) a.cap]] w (SomeI w)) ?_ b o a k
 clear b o a k
 intro b o a k ih w hx hok
 have IH:=Lib.hid ih
 have HX:=Lib.hid hx
 have HOK:=Lib.hid hok
 clear ih hx hok
 have hk:len k≤9223372036854775807:=HOK.out.1.2.2.2
 go_enter Tryz.func19,Tryz.ntmps19
 go_wp2_with fail
 go_loopw [3,4] (fun n i wr=>∃ (j:Nat) (r:Fo) (m:Int),i=.int .i64 j∧n=.int .i64 m∧(-9223372036854775808≤m∧m≤9223372036854775807)∧wr.cell? ⟨w.heap.size,3,none⟩=some (.slice a.ptr (len k) a.cap)∧w.heap.size < wr.heap.size ∧
  Hid (j+len r=len k∧FoAt wr r b (o+j * 4)∧FoOk r∧AllT (fun b o a k=>∀ w:World,ExAt w b o a k→ExOk a k→Calls Tryz.prog 19 #[.agg #[.int .i64 a.op,.int .i64 a.num,.string a.name,.slice a.ptr (len k) a.cap]] w (SomeI w)) r∧Below w.heap.size w wr)) (fun _ i _=>len k - (intOf i).toNat)
 case atStart =>
  refine ⟨0,k,1,rfl,rfl,by omega,by simp,by simp,by omega,?_,HOK.out.2,IH.out,(Below.refl _ _).alloc (Nat.le_refl _) _⟩
  rw [Nat.zero_mul,Nat.add_zero]
  exact HX.out.2.next ((Below.refl _ _).alloc (Nat.le_refl _) _)
 case round =>
  obtain ⟨j,r,m,rfl,rfl,hm,hc,hsz,HR⟩:=hrel
  cases r with
  | nil =>
    have hj:¬ (j:Int) < (len k:Int):=by have:=HR.out.1;simp [len] at this;omega
    go_wp2
    go_ret
    exact ⟨m,hm,rfl,HR.out.2.2.2.2⟩
  | node b1 o1 a1 k1 r1 =>
    have hj:j < len k:=by have:=HR.out.1;simp [len] at this;omega
    have hp:a.ptr=some ⟨b,o,none⟩:=HX.out.1 (by rintro rfl;simp [len] at hj)
    rw [hp] at hc
    clear hp
    obtain ⟨⟨c0,c1,c2,c3⟩,hp1,hk1,hr1⟩:=HR.out.2.1
    have X1:Hid (ExAt wr b1 o1 a1 k1):=⟨hp1,hk1⟩
    have N1:=Lib.hid hr1
    clear hp1 hk1 hr1
    have hj1:(j:Int) < (len k:Int):=by omega
    by_cases hm1:m < 1000
    · go_wp2_with fail
      refine (HR.out.2.2.2.1.1 _ X1.out ⟨HR.out.2.2.1.1,HR.out.2.2.1.2.1⟩).mono ?_
      rintro e w1 ⟨m1,hm2,rfl,hb⟩
      have hc':w1.cell? ⟨w.heap.size,3,none⟩=some (.slice a.ptr (len k) a.cap):=by
       rw [hb.cell (p:=⟨w.heap.size,3,none⟩) hsz,hc,HX.out.1 (by rintro rfl;simp [len] at hj)]
      have hz':w.heap.size < w1.heap.size:=Nat.lt_of_lt_of_le hsz hb.size
      have N2:=Lib.hid (N1.out.next hb)
      have B2:=Lib.hid (HR.out.2.2.2.2.trans (hb.mono (Nat.le_of_lt hsz)))
      clear hc c0 c1 c2 c3 hb hsz X1 N1
      go_wp2
      go_roundw
      case rel =>
       refine ⟨j+1,r1,wrap64 (m+m1),by go_num,rfl,wrap_bd _,hc',hz',?_,?_,HR.out.2.2.1.2.2,HR.out.2.2.2.1.2,B2.out⟩
       · have:=HR.out.1;simp [len] at this;omega
       · rw [Nat.add_mul,Nat.one_mul,← Nat.add_assoc];exact N2.out
      case measure=>simp [intOf];omega
    · go_wp2
      go_ret
      exact ⟨m,hm,rfl,HR.out.2.2.2.2⟩
end
section
set_option linter.unusedVariables false
set_option linter.unusedSimpArgs false
set_option maxRecDepth 100000
open Go.ChangeShapes Go.WideShapes Go.ChangeAt Go.RowKit
open Go.Deep (BT)
set_option maxHeartbeats 8000000 in
theorem light_any (c : Ct) (p:Cp) (w:World) (hv:CtV w c p):Calls Tryz.prog 15 #[.agg #[.int .i64 c.rep,.int .i64 c.rel,.int .i64 c.con,.int .i64 c.sit,.int .i64 c.lay,.int .i64 c.nf,.int .i64 c.nt,.slice p.cs c.cs.length p.ccs,.slice p.rs c.rs.length p.crs,.slice p.os c.os.length p.cos,.slice p.cr (len c.cr) p.ccr,.slice p.ls c.ls.length p.cls,.slice p.fs c.fs.length p.cfs,.int .i64 c.gua]] w (SomeB w):=by
 have HV:=Lib.hid hv
 have n1:=hv.cs.1
 have n2:=hv.rs.1
 have n3:=hv.os.1
 have n4:=hv.cr.1
 clear hv
 go_enter Tryz.func15,Tryz.ntmps15
 go_upto_region 1 with (fail)
 have XW:=Lib.hid (CtBox.start w c p)
 have BW:Hid (Below w.heap.size w (w.alloc (.cells #[.int .i64 c.rep,.int .i64 c.rel,.int .i64 c.con,.int .i64 c.sit,.int .i64 c.lay,.int .i64 c.nf,.int .i64 c.nt,.slice p.cs c.cs.length p.ccs,.slice p.rs c.rs.length p.crs,.slice p.os c.os.length p.cos,.slice p.cr (len c.cr) p.ccr,.slice p.ls c.ls.length p.cls,.slice p.fs c.fs.length p.cfs,.int .i64 c.gua] 44))):=(Below.refl _ _).alloc (Nat.le_refl _) _
 generalize w.alloc (.cells #[.int .i64 c.rep,.int .i64 c.rel,.int .i64 c.con,.int .i64 c.sit,.int .i64 c.lay,.int .i64 c.nf,.int .i64 c.nt,.slice p.cs c.cs.length p.ccs,.slice p.rs c.rs.length p.crs,.slice p.os c.os.length p.cos,.slice p.cr (len c.cr) p.ccr,.slice p.ls c.ls.length p.cls,.slice p.fs c.fs.length p.cfs,.int .i64 c.gua] 44)=w0 at *
 have c11:=XW.out.c11
 have c12:=XW.out.c12
 go_wp2_with fail
 clear c11 c12
 go_loopw [3,4] (fun n i wr=>∃ (j:Nat) (m:Int),j≤c.cs.length∧i=.int .i64 j∧n=.int .i64 m∧Hid (Below w.heap.size w wr∧CtBox wr w.heap.size c p)) (fun _ i _=>c.cs.length - (intOf i).toNat)
 case atStart=>exact ⟨0,_,Nat.zero_le _,rfl,rfl,BW.out,XW.out⟩
 case round =>
  clear BW XW
  obtain ⟨j,m,hj,rfl,rfl,HR⟩:=hrel
  by_cases hgo:j < c.cs.length∧m < 3000
  · obtain ⟨hlt,hm⟩:=hgo
    obtain ⟨x,hc⟩:∃ x,c.cs[j]?=some x:=⟨_,List.getElem?_eq_getElem (by omega)⟩
    obtain ⟨-,BC,OC,hpp,hrow⟩:=HV.out.cs
    have HPr:=Lib.hid (hpp (by intro q;rw [q] at hc;simp at hc))
    have PX:=Lib.hid (hrow j x hc)
    obtain ⟨d1,d2,d3,d4⟩:=(PX.out.2.1.next HR.out.1).1
    have hj1:(j:Int) < (c.cs.length:Int):=by omega
    have hj0:(0:Int)≤(j:Int):=by omega
    have c7:wr.cell? ⟨w.heap.size,7,none⟩=some (.slice (some ⟨BC,OC,none⟩) c.cs.length p.ccs):=by rw [← HPr.out];exact HR.out.2.c7
    clear hc hpp hrow
    go_wp2_with fail
    refine (size_any x.b x.o x.a x.k wr (PX.out.2.1.2.1.next HR.out.1) PX.out.2.1.2.2).mono ?_
    rintro e w1 ⟨m1,-,rfl,hb⟩
    have B1:=Lib.hid (HR.out.1.trans (hb.mono HR.out.1.size))
    have X1:=Lib.hid (HR.out.2.next hb)
    clear hb d1 d2 d3 d4 c7
    go_wp2
    go_roundw
    case rel=>exact ⟨j+1,_,by omega,by go_num,rfl,B1.out,X1.out⟩
    case measure=>simp [intOf];omega
  have BW:=Lib.hid HR.out.1
  have XW:=Lib.hid HR.out.2
  have c7:=XW.out.c7
  clear HR
  obtain ⟨bb,hbb⟩:∃ bb:Bool,decide ((j:Int) < (c.cs.length:Int))=bb:=⟨_,rfl⟩
  have hq:¬ ((j:Int) < (c.cs.length:Int))∨((j:Int) < (c.cs.length:Int)∧¬ m < 3000):=by omega
  clear hgo hbb
  rcases hq with hq|⟨hq,hq2⟩
  · go_wp2_with fail
    clear c7
    go_loopw [3,5] (fun n i wr=>∃ (j:Nat) (m:Int),j≤c.rs.length∧i=.int .i64 j∧n=.int .i64 m∧Hid (Below w.heap.size w wr∧CtBox wr w.heap.size c p)) (fun _ i _=>c.rs.length - (intOf i).toNat)
    case atStart=>exact ⟨0,_,Nat.zero_le _,rfl,rfl,BW.out,XW.out⟩
    case round =>
     clear BW XW
     obtain ⟨j,m,hj,rfl,rfl,HR⟩:=hrel
     by_cases hgo:j < c.rs.length∧m < 3000
     · obtain ⟨hlt,hm⟩:=hgo
       obtain ⟨x,hc⟩:∃ x,c.rs[j]?=some x:=⟨_,List.getElem?_eq_getElem (by omega)⟩
       obtain ⟨-,BR,OR,hpp,hrow⟩:=HV.out.rs
       have HPr:=Lib.hid (hpp (by intro q;rw [q] at hc;simp at hc))
       have PX:=Lib.hid (hrow j x hc)
       obtain ⟨d1,d2,d3,d4⟩:=(PX.out.2.2.1.next HR.out.1).1
       have hj1:(j:Int) < (c.rs.length:Int):=by omega
       have hj0:(0:Int)≤(j:Int):=by omega
       have c8:wr.cell? ⟨w.heap.size,8,none⟩=some (.slice (some ⟨BR,OR,none⟩) c.rs.length p.crs):=by rw [← HPr.out];exact HR.out.2.c8
       clear hc hpp hrow
       go_wp2_with fail
       refine (size_any x.b x.o x.a x.k wr (PX.out.2.2.1.2.1.next HR.out.1) PX.out.2.2.1.2.2).mono ?_
       rintro e w1 ⟨m1,-,rfl,hb⟩
       have B1:=Lib.hid (HR.out.1.trans (hb.mono HR.out.1.size))
       have X1:=Lib.hid (HR.out.2.next hb)
       clear hb d1 d2 d3 d4 c8
       go_wp2
       go_roundw
       case rel=>exact ⟨j+1,_,by omega,by go_num,rfl,B1.out,X1.out⟩
       case measure=>simp [intOf];omega
     have BW:=Lib.hid HR.out.1
     have XW:=Lib.hid HR.out.2
     have c8:=XW.out.c8
     clear HR
     obtain ⟨bb,hbb⟩:∃ bb:Bool,decide ((j:Int) < (c.rs.length:Int))=bb:=⟨_,rfl⟩
     have hq:¬ ((j:Int) < (c.rs.length:Int))∨((j:Int) < (c.rs.length:Int)∧¬ m < 3000):=by omega
     clear hgo hbb
     rcases hq with hq|⟨hq,hq2⟩
     · go_wp2_with fail
       clear c8
       go_loopw [3,6] (fun n i wr=>∃ (j:Nat) (m:Int),j≤c.os.length∧i=.int .i64 j∧n=.int .i64 m∧Hid (Below w.heap.size w wr∧CtBox wr w.heap.size c p)) (fun _ i _=>c.os.length - (intOf i).toNat)
       case atStart=>exact ⟨0,_,Nat.zero_le _,rfl,rfl,BW.out,XW.out⟩
       case round =>
        clear BW XW
        obtain ⟨j,m,hj,rfl,rfl,HR⟩:=hrel
        by_cases hgo:j < c.os.length∧m < 3000
        · obtain ⟨hlt,hm⟩:=hgo
          obtain ⟨x,hc⟩:∃ x,c.os[j]?=some x:=⟨_,List.getElem?_eq_getElem (by omega)⟩
          obtain ⟨-,BO,OO,hpp,hrow⟩:=HV.out.os
          have HPr:=Lib.hid (hpp (by intro q;rw [q] at hc;simp at hc))
          have PX:=Lib.hid (hrow j x hc)
          obtain ⟨d1,d2,d3,d4⟩:=(PX.out.2.1.next HR.out.1).1
          have hj1:(j:Int) < (c.os.length:Int):=by omega
          have hj0:(0:Int)≤(j:Int):=by omega
          have c9:wr.cell? ⟨w.heap.size,9,none⟩=some (.slice (some ⟨BO,OO,none⟩) c.os.length p.cos):=by rw [← HPr.out];exact HR.out.2.c9
          clear hc hpp hrow
          go_wp2_with fail
          refine (size_any x.b x.o x.a x.k wr (PX.out.2.1.2.1.next HR.out.1) PX.out.2.1.2.2).mono ?_
          rintro e w1 ⟨m1,-,rfl,hb⟩
          have B1:=Lib.hid (HR.out.1.trans (hb.mono HR.out.1.size))
          have X1:=Lib.hid (HR.out.2.next hb)
          clear hb d1 d2 d3 d4 c9
          go_wp2
          go_roundw
          case rel=>exact ⟨j+1,_,by omega,by go_num,rfl,B1.out,X1.out⟩
          case measure=>simp [intOf];omega
        have BW:=Lib.hid HR.out.1
        have XW:=Lib.hid HR.out.2
        have c9:=XW.out.c9
        clear HR
        obtain ⟨bb,hbb⟩:∃ bb:Bool,decide ((j:Int) < (c.os.length:Int))=bb:=⟨_,rfl⟩
        have hq:¬ ((j:Int) < (c.os.length:Int))∨((j:Int) < (c.os.length:Int)∧¬ m < 3000):=by omega
        clear hgo hbb
        rcases hq with hq|⟨hq,hq2⟩
        · go_wp2_with fail
          clear c9
          go_loopw [3,7] (fun n i wr=>∃ (j:Nat) (r:Fo) (m:Int),i=.int .i64 j∧n=.int .i64 m∧Hid (j+len r=len c.cr∧(∃ b o,(r≠.nil→p.cr=some ⟨b,o,none⟩)∧FoAt wr r b (o+j * 4))∧FoOk r∧Below w.heap.size w wr∧CtBox wr w.heap.size c p)) (fun _ i _=>len c.cr - (intOf i).toNat)
          case atStart =>
           obtain ⟨-,q1,b,o,q2,q3⟩:=(HV.out.next BW.out).cr
           exact ⟨0,c.cr,_,rfl,rfl,by omega,⟨b,o,q2,by rw [Nat.zero_mul,Nat.add_zero];exact q3⟩,q1,BW.out,XW.out⟩
          case round =>
           obtain ⟨j,r,m,rfl,rfl,HR⟩:=hrel
           cases r with
           | nil =>
             have hj:¬ (j:Int) < (len c.cr:Int):=by have:=HR.out.1;simp [len] at this;omega
             have c10:=HR.out.2.2.2.2.c10
             go_wp2
             go_ret
             exact ⟨_,rfl,HR.out.2.2.2.1⟩
           | node b1 o1 a1 k1 r1 =>
             have hj:j < len c.cr:=by have:=HR.out.1;simp [len] at this;omega
             have hj1:(j:Int) < (len c.cr:Int):=by omega
             have hj0:(0:Int)≤(j:Int):=by omega
             obtain ⟨kb,ko,hkp,⟨d0,d1,d2,d3⟩,hp1,hk1,hr1⟩:=HR.out.2.1
             have HPr:=Lib.hid (hkp (by simp))
             have HX:Hid (ExAt wr b1 o1 a1 k1):=⟨hp1,hk1⟩
             have HN:=Lib.hid hr1
             have HOK:=Lib.hid HR.out.2.2.1
             have c10:wr.cell? ⟨w.heap.size,10,none⟩=some (.slice (some ⟨kb,ko,none⟩) (len c.cr) p.ccr):=by rw [← HPr.out];exact HR.out.2.2.2.2.c10
             clear hkp hp1 hk1 hr1
             by_cases hm:m < 3000
             · go_wp2_with fail
               refine (size_any b1 o1 a1 k1 wr HX.out ⟨HOK.out.1,HOK.out.2.1⟩).mono ?_
               rintro e w1 ⟨m1,-,rfl,hb⟩
               have B1:=Lib.hid (HR.out.2.2.2.1.trans (hb.mono HR.out.2.2.2.1.size))
               have X1:=Lib.hid (HR.out.2.2.2.2.next hb)
               have N1:=Lib.hid (HN.out.next hb)
               clear hb d0 d1 d2 d3 c10
               go_wp2
               go_roundw
               case rel =>
                have q1:=HR.out.1
                simp [len] at q1
                refine ⟨j+1,r1,_,by go_num,rfl,by omega,⟨kb,ko,fun _=>HPr.out,?_⟩,HOK.out.2.2,B1.out,X1.out⟩
                rw [Nat.add_mul,Nat.one_mul,← Nat.add_assoc];exact N1.out
               case measure=>simp [intOf];omega
             · go_wp2
               go_ret
               exact ⟨_,rfl,HR.out.2.2.2.1⟩
        · go_wp2_with fail
          clear c9
          go_loopw [3,7] (fun n i wr=>∃ (j:Nat) (r:Fo) (m:Int),i=.int .i64 j∧n=.int .i64 m∧Hid (j+len r=len c.cr∧(∃ b o,(r≠.nil→p.cr=some ⟨b,o,none⟩)∧FoAt wr r b (o+j * 4))∧FoOk r∧Below w.heap.size w wr∧CtBox wr w.heap.size c p)) (fun _ i _=>len c.cr - (intOf i).toNat)
          case atStart =>
           obtain ⟨-,q1,b,o,q2,q3⟩:=(HV.out.next BW.out).cr
           exact ⟨0,c.cr,_,rfl,rfl,by omega,⟨b,o,q2,by rw [Nat.zero_mul,Nat.add_zero];exact q3⟩,q1,BW.out,XW.out⟩
          case round =>
           obtain ⟨j,r,m,rfl,rfl,HR⟩:=hrel
           cases r with
           | nil =>
             have hj:¬ (j:Int) < (len c.cr:Int):=by have:=HR.out.1;simp [len] at this;omega
             have c10:=HR.out.2.2.2.2.c10
             go_wp2
             go_ret
             exact ⟨_,rfl,HR.out.2.2.2.1⟩
           | node b1 o1 a1 k1 r1 =>
             have hj:j < len c.cr:=by have:=HR.out.1;simp [len] at this;omega
             have hj1:(j:Int) < (len c.cr:Int):=by omega
             have hj0:(0:Int)≤(j:Int):=by omega
             obtain ⟨kb,ko,hkp,⟨d0,d1,d2,d3⟩,hp1,hk1,hr1⟩:=HR.out.2.1
             have HPr:=Lib.hid (hkp (by simp))
             have HX:Hid (ExAt wr b1 o1 a1 k1):=⟨hp1,hk1⟩
             have HN:=Lib.hid hr1
             have HOK:=Lib.hid HR.out.2.2.1
             have c10:wr.cell? ⟨w.heap.size,10,none⟩=some (.slice (some ⟨kb,ko,none⟩) (len c.cr) p.ccr):=by rw [← HPr.out];exact HR.out.2.2.2.2.c10
             clear hkp hp1 hk1 hr1
             by_cases hm:m < 3000
             · go_wp2_with fail
               refine (size_any b1 o1 a1 k1 wr HX.out ⟨HOK.out.1,HOK.out.2.1⟩).mono ?_
               rintro e w1 ⟨m1,-,rfl,hb⟩
               have B1:=Lib.hid (HR.out.2.2.2.1.trans (hb.mono HR.out.2.2.2.1.size))
               have X1:=Lib.hid (HR.out.2.2.2.2.next hb)
               have N1:=Lib.hid (HN.out.next hb)
               clear hb d0 d1 d2 d3 c10
               go_wp2
               go_roundw
               case rel =>
                have q1:=HR.out.1
                simp [len] at q1
                refine ⟨j+1,r1,_,by go_num,rfl,by omega,⟨kb,ko,fun _=>HPr.out,?_⟩,HOK.out.2.2,B1.out,X1.out⟩
                rw [Nat.add_mul,Nat.one_mul,← Nat.add_assoc];exact N1.out
               case measure=>simp [intOf];omega
             · go_wp2
               go_ret
               exact ⟨_,rfl,HR.out.2.2.2.1⟩
     · go_wp2_with fail
       clear c8
       go_loopw [3,6] (fun n i wr=>∃ (j:Nat) (m:Int),j≤c.os.length∧i=.int .i64 j∧n=.int .i64 m∧Hid (Below w.heap.size w wr∧CtBox wr w.heap.size c p)) (fun _ i _=>c.os.length - (intOf i).toNat)
       case atStart=>exact ⟨0,_,Nat.zero_le _,rfl,rfl,BW.out,XW.out⟩
       case round =>
        clear BW XW
        obtain ⟨j,m,hj,rfl,rfl,HR⟩:=hrel
        by_cases hgo:j < c.os.length∧m < 3000
        · obtain ⟨hlt,hm⟩:=hgo
          obtain ⟨x,hc⟩:∃ x,c.os[j]?=some x:=⟨_,List.getElem?_eq_getElem (by omega)⟩
          obtain ⟨-,BO,OO,hpp,hrow⟩:=HV.out.os
          have HPr:=Lib.hid (hpp (by intro q;rw [q] at hc;simp at hc))
          have PX:=Lib.hid (hrow j x hc)
          obtain ⟨d1,d2,d3,d4⟩:=(PX.out.2.1.next HR.out.1).1
          have hj1:(j:Int) < (c.os.length:Int):=by omega
          have hj0:(0:Int)≤(j:Int):=by omega
          have c9:wr.cell? ⟨w.heap.size,9,none⟩=some (.slice (some ⟨BO,OO,none⟩) c.os.length p.cos):=by rw [← HPr.out];exact HR.out.2.c9
          clear hc hpp hrow
          go_wp2_with fail
          refine (size_any x.b x.o x.a x.k wr (PX.out.2.1.2.1.next HR.out.1) PX.out.2.1.2.2).mono ?_
          rintro e w1 ⟨m1,-,rfl,hb⟩
          have B1:=Lib.hid (HR.out.1.trans (hb.mono HR.out.1.size))
          have X1:=Lib.hid (HR.out.2.next hb)
          clear hb d1 d2 d3 d4 c9
          go_wp2
          go_roundw
          case rel=>exact ⟨j+1,_,by omega,by go_num,rfl,B1.out,X1.out⟩
          case measure=>simp [intOf];omega
        have BW:=Lib.hid HR.out.1
        have XW:=Lib.hid HR.out.2
        have c9:=XW.out.c9
        clear HR
        obtain ⟨bb,hbb⟩:∃ bb:Bool,decide ((j:Int) < (c.os.length:Int))=bb:=⟨_,rfl⟩
        have hq:¬ ((j:Int) < (c.os.length:Int))∨((j:Int) < (c.os.length:Int)∧¬ m < 3000):=by omega
        clear hgo hbb
        rcases hq with hq|⟨hq,hq2⟩
        · go_wp2_with fail
          clear c9
          go_loopw [3,7] (fun n i wr=>∃ (j:Nat) (r:Fo) (m:Int),i=.int .i64 j∧n=.int .i64 m∧Hid (j+len r=len c.cr∧(∃ b o,(r≠.nil→p.cr=some ⟨b,o,none⟩)∧FoAt wr r b (o+j * 4))∧FoOk r∧Below w.heap.size w wr∧CtBox wr w.heap.size c p)) (fun _ i _=>len c.cr - (intOf i).toNat)
          case atStart =>
           obtain ⟨-,q1,b,o,q2,q3⟩:=(HV.out.next BW.out).cr
           exact ⟨0,c.cr,_,rfl,rfl,by omega,⟨b,o,q2,by rw [Nat.zero_mul,Nat.add_zero];exact q3⟩,q1,BW.out,XW.out⟩
          case round =>
           obtain ⟨j,r,m,rfl,rfl,HR⟩:=hrel
           cases r with
           | nil =>
             have hj:¬ (j:Int) < (len c.cr:Int):=by have:=HR.out.1;simp [len] at this;omega
             have c10:=HR.out.2.2.2.2.c10
             go_wp2
             go_ret
             exact ⟨_,rfl,HR.out.2.2.2.1⟩
           | node b1 o1 a1 k1 r1 =>
             have hj:j < len c.cr:=by have:=HR.out.1;simp [len] at this;omega
             have hj1:(j:Int) < (len c.cr:Int):=by omega
             have hj0:(0:Int)≤(j:Int):=by omega
             obtain ⟨kb,ko,hkp,⟨d0,d1,d2,d3⟩,hp1,hk1,hr1⟩:=HR.out.2.1
             have HPr:=Lib.hid (hkp (by simp))
             have HX:Hid (ExAt wr b1 o1 a1 k1):=⟨hp1,hk1⟩
             have HN:=Lib.hid hr1
             have HOK:=Lib.hid HR.out.2.2.1
             have c10:wr.cell? ⟨w.heap.size,10,none⟩=some (.slice (some ⟨kb,ko,none⟩) (len c.cr) p.ccr):=by rw [← HPr.out];exact HR.out.2.2.2.2.c10
             clear hkp hp1 hk1 hr1
             by_cases hm:m < 3000
             · go_wp2_with fail
               refine (size_any b1 o1 a1 k1 wr HX.out ⟨HOK.out.1,HOK.out.2.1⟩).mono ?_
               rintro e w1 ⟨m1,-,rfl,hb⟩
               have B1:=Lib.hid (HR.out.2.2.2.1.trans (hb.mono HR.out.2.2.2.1.size))
               have X1:=Lib.hid (HR.out.2.2.2.2.next hb)
               have N1:=Lib.hid (HN.out.next hb)
               clear hb d0 d1 d2 d3 c10
               go_wp2
               go_roundw
               case rel =>
                have q1:=HR.out.1
                simp [len] at q1
                refine ⟨j+1,r1,_,by go_num,rfl,by omega,⟨kb,ko,fun _=>HPr.out,?_⟩,HOK.out.2.2,B1.out,X1.out⟩
                rw [Nat.add_mul,Nat.one_mul,← Nat.add_assoc];exact N1.out
               case measure=>simp [intOf];omega
             · go_wp2
               go_ret
               exact ⟨_,rfl,HR.out.2.2.2.1⟩
        · go_wp2_with fail
          clear c9
          go_loopw [3,7] (fun n i wr=>∃ (j:Nat) (r:Fo) (m:Int),i=.int .i64 j∧n=.int .i64 m∧Hid (j+len r=len c.cr∧(∃ b o,(r≠.nil→p.cr=some ⟨b,o,none⟩)∧FoAt wr r b (o+j * 4))∧FoOk r∧Below w.heap.size w wr∧CtBox wr w.heap.size c p)) (fun _ i _=>len c.cr - (intOf i).toNat)
          case atStart =>
           obtain ⟨-,q1,b,o,q2,q3⟩:=(HV.out.next BW.out).cr
           exact ⟨0,c.cr,_,rfl,rfl,by omega,⟨b,o,q2,by rw [Nat.zero_mul,Nat.add_zero];exact q3⟩,q1,BW.out,XW.out⟩
          case round =>
           obtain ⟨j,r,m,rfl,rfl,HR⟩:=hrel
           cases r with
           | nil =>
             have hj:¬ (j:Int) < (len c.cr:Int):=by have:=HR.out.1;simp [len] at this;omega
             have c10:=HR.out.2.2.2.2.c10
             go_wp2
             go_ret
             exact ⟨_,rfl,HR.out.2.2.2.1⟩
           | node b1 o1 a1 k1 r1 =>
             have hj:j < len c.cr:=by have:=HR.out.1;simp [len] at this;omega
             have hj1:(j:Int) < (len c.cr:Int):=by omega
             have hj0:(0:Int)≤(j:Int):=by omega
             obtain ⟨kb,ko,hkp,⟨d0,d1,d2,d3⟩,hp1,hk1,hr1⟩:=HR.out.2.1
             have HPr:=Lib.hid (hkp (by simp))
             have HX:Hid (ExAt wr b1 o1 a1 k1):=⟨hp1,hk1⟩
             have HN:=Lib.hid hr1
             have HOK:=Lib.hid HR.out.2.2.1
             have c10:wr.cell? ⟨w.heap.size,10,none⟩=some (.slice (some ⟨kb,ko,none⟩) (len c.cr) p.ccr):=by rw [← HPr.out];exact HR.out.2.2.2.2.c10
             clear hkp hp1 hk1 hr1
             by_cases hm:m < 3000
             · go_wp2_with fail
               refine (size_any b1 o1 a1 k1 wr HX.out ⟨HOK.out.1,HOK.out.2.1⟩).mono ?_
               rintro e w1 ⟨m1,-,rfl,hb⟩
               have B1:=Lib.hid (HR.out.2.2.2.1.trans (hb.mono HR.out.2.2.2.1.size))
               have X1:=Lib.hid (HR.out.2.2.2.2.next hb)
               have N1:=Lib.hid (HN.out.next hb)
               clear hb d0 d1 d2 d3 c10
               go_wp2
               go_roundw
               case rel =>
                have q1:=HR.out.1
                simp [len] at q1
                refine ⟨j+1,r1,_,by go_num,rfl,by omega,⟨kb,ko,fun _=>HPr.out,?_⟩,HOK.out.2.2,B1.out,X1.out⟩
                rw [Nat.add_mul,Nat.one_mul,← Nat.add_assoc];exact N1.out
               case measure=>simp [intOf];omega
             · go_wp2
               go_ret
               exact ⟨_,rfl,HR.out.2.2.2.1⟩
  · go_wp2_with fail
    clear c7
    go_loopw [3,5] (fun n i wr=>∃ (j:Nat) (m:Int),j≤c.rs.length∧i=.int .i64 j∧n=.int .i64 m∧Hid (Below w.heap.size w wr∧CtBox wr w.heap.size c p)) (fun _ i _=>c.rs.length - (intOf i).toNat)
    case atStart=>exact ⟨0,_,Nat.zero_le _,rfl,rfl,BW.out,XW.out⟩
    case round =>
     clear BW XW
     obtain ⟨j,m,hj,rfl,rfl,HR⟩:=hrel
     by_cases hgo:j < c.rs.length∧m < 3000
     · obtain ⟨hlt,hm⟩:=hgo
       obtain ⟨x,hc⟩:∃ x,c.rs[j]?=some x:=⟨_,List.getElem?_eq_getElem (by omega)⟩
       obtain ⟨-,BR,OR,hpp,hrow⟩:=HV.out.rs
       have HPr:=Lib.hid (hpp (by intro q;rw [q] at hc;simp at hc))
       have PX:=Lib.hid (hrow j x hc)
       obtain ⟨d1,d2,d3,d4⟩:=(PX.out.2.2.1.next HR.out.1).1
       have hj1:(j:Int) < (c.rs.length:Int):=by omega
       have hj0:(0:Int)≤(j:Int):=by omega
       have c8:wr.cell? ⟨w.heap.size,8,none⟩=some (.slice (some ⟨BR,OR,none⟩) c.rs.length p.crs):=by rw [← HPr.out];exact HR.out.2.c8
       clear hc hpp hrow
       go_wp2_with fail
       refine (size_any x.b x.o x.a x.k wr (PX.out.2.2.1.2.1.next HR.out.1) PX.out.2.2.1.2.2).mono ?_
       rintro e w1 ⟨m1,-,rfl,hb⟩
       have B1:=Lib.hid (HR.out.1.trans (hb.mono HR.out.1.size))
       have X1:=Lib.hid (HR.out.2.next hb)
       clear hb d1 d2 d3 d4 c8
       go_wp2
       go_roundw
       case rel=>exact ⟨j+1,_,by omega,by go_num,rfl,B1.out,X1.out⟩
       case measure=>simp [intOf];omega
     have BW:=Lib.hid HR.out.1
     have XW:=Lib.hid HR.out.2
     have c8:=XW.out.c8
     clear HR
     obtain ⟨bb,hbb⟩:∃ bb:Bool,decide ((j:Int) < (c.rs.length:Int))=bb:=⟨_,rfl⟩
     have hq:¬ ((j:Int) < (c.rs.length:Int))∨((j:Int) < (c.rs.length:Int)∧¬ m < 3000):=by omega
     clear hgo hbb
     rcases hq with hq|⟨hq,hq2⟩
     · go_wp2_with fail
       clear c8
       go_loopw [3,6] (fun n i wr=>∃ (j:Nat) (m:Int),j≤c.os.length∧i=.int .i64 j∧n=.int .i64 m∧Hid (Below w.heap.size w wr∧CtBox wr w.heap.size c p)) (fun _ i _=>c.os.length - (intOf i).toNat)
       case atStart=>exact ⟨0,_,Nat.zero_le _,rfl,rfl,BW.out,XW.out⟩
       case round =>
        clear BW XW
        obtain ⟨j,m,hj,rfl,rfl,HR⟩:=hrel
        by_cases hgo:j < c.os.length∧m < 3000
        · obtain ⟨hlt,hm⟩:=hgo
          obtain ⟨x,hc⟩:∃ x,c.os[j]?=some x:=⟨_,List.getElem?_eq_getElem (by omega)⟩
          obtain ⟨-,BO,OO,hpp,hrow⟩:=HV.out.os
          have HPr:=Lib.hid (hpp (by intro q;rw [q] at hc;simp at hc))
          have PX:=Lib.hid (hrow j x hc)
          obtain ⟨d1,d2,d3,d4⟩:=(PX.out.2.1.next HR.out.1).1
          have hj1:(j:Int) < (c.os.length:Int):=by omega
          have hj0:(0:Int)≤(j:Int):=by omega
          have c9:wr.cell? ⟨w.heap.size,9,none⟩=some (.slice (some ⟨BO,OO,none⟩) c.os.length p.cos):=by rw [← HPr.out];exact HR.out.2.c9
          clear hc hpp hrow
          go_wp2_with fail
          refine (size_any x.b x.o x.a x.k wr (PX.out.2.1.2.1.next HR.out.1) PX.out.2.1.2.2).mono ?_
          rintro e w1 ⟨m1,-,rfl,hb⟩
          have B1:=Lib.hid (HR.out.1.trans (hb.mono HR.out.1.size))
          have X1:=Lib.hid (HR.out.2.next hb)
          clear hb d1 d2 d3 d4 c9
          go_wp2
          go_roundw
          case rel=>exact ⟨j+1,_,by omega,by go_num,rfl,B1.out,X1.out⟩
          case measure=>simp [intOf];omega
        have BW:=Lib.hid HR.out.1
        have XW:=Lib.hid HR.out.2
        have c9:=XW.out.c9
        clear HR
        obtain ⟨bb,hbb⟩:∃ bb:Bool,decide ((j:Int) < (c.os.length:Int))=bb:=⟨_,rfl⟩
        have hq:¬ ((j:Int) < (c.os.length:Int))∨((j:Int) < (c.os.length:Int)∧¬ m < 3000):=by omega
        clear hgo hbb
        rcases hq with hq|⟨hq,hq2⟩
        · go_wp2_with fail
          clear c9
          go_loopw [3,7] (fun n i wr=>∃ (j:Nat) (r:Fo) (m:Int),i=.int .i64 j∧n=.int .i64 m∧Hid (j+len r=len c.cr∧(∃ b o,(r≠.nil→p.cr=some ⟨b,o,none⟩)∧FoAt wr r b (o+j * 4))∧FoOk r∧Below w.heap.size w wr∧CtBox wr w.heap.size c p)) (fun _ i _=>len c.cr - (intOf i).toNat)
          case atStart =>
           obtain ⟨-,q1,b,o,q2,q3⟩:=(HV.out.next BW.out).cr
           exact ⟨0,c.cr,_,rfl,rfl,by omega,⟨b,o,q2,by rw [Nat.zero_mul,Nat.add_zero];exact q3⟩,q1,BW.out,XW.out⟩
          case round =>
           obtain ⟨j,r,m,rfl,rfl,HR⟩:=hrel
           cases r with
           | nil =>
             have hj:¬ (j:Int) < (len c.cr:Int):=by have:=HR.out.1;simp [len] at this;omega
             have c10:=HR.out.2.2.2.2.c10
             go_wp2
             go_ret
             exact ⟨_,rfl,HR.out.2.2.2.1⟩
           | node b1 o1 a1 k1 r1 =>
             have hj:j < len c.cr:=by have:=HR.out.1;simp [len] at this;omega
             have hj1:(j:Int) < (len c.cr:Int):=by omega
             have hj0:(0:Int)≤(j:Int):=by omega
             obtain ⟨kb,ko,hkp,⟨d0,d1,d2,d3⟩,hp1,hk1,hr1⟩:=HR.out.2.1
             have HPr:=Lib.hid (hkp (by simp))
             have HX:Hid (ExAt wr b1 o1 a1 k1):=⟨hp1,hk1⟩
             have HN:=Lib.hid hr1
             have HOK:=Lib.hid HR.out.2.2.1
             have c10:wr.cell? ⟨w.heap.size,10,none⟩=some (.slice (some ⟨kb,ko,none⟩) (len c.cr) p.ccr):=by rw [← HPr.out];exact HR.out.2.2.2.2.c10
             clear hkp hp1 hk1 hr1
             by_cases hm:m < 3000
             · go_wp2_with fail
               refine (size_any b1 o1 a1 k1 wr HX.out ⟨HOK.out.1,HOK.out.2.1⟩).mono ?_
               rintro e w1 ⟨m1,-,rfl,hb⟩
               have B1:=Lib.hid (HR.out.2.2.2.1.trans (hb.mono HR.out.2.2.2.1.size))
               have X1:=Lib.hid (HR.out.2.2.2.2.next hb)
               have N1:=Lib.hid (HN.out.next hb)
               clear hb d0 d1 d2 d3 c10
               go_wp2
               go_roundw
               case rel =>
                have q1:=HR.out.1
                simp [len] at q1
                refine ⟨j+1,r1,_,by go_num,rfl,by omega,⟨kb,ko,fun _=>HPr.out,?_⟩,HOK.out.2.2,B1.out,X1.out⟩
                rw [Nat.add_mul,Nat.one_mul,← Nat.add_assoc];exact N1.out
               case measure=>simp [intOf];omega
             · go_wp2
               go_ret
               exact ⟨_,rfl,HR.out.2.2.2.1⟩
        · go_wp2_with fail
          clear c9
          go_loopw [3,7] (fun n i wr=>∃ (j:Nat) (r:Fo) (m:Int),i=.int .i64 j∧n=.int .i64 m∧Hid (j+len r=len c.cr∧(∃ b o,(r≠.nil→p.cr=some ⟨b,o,none⟩)∧FoAt wr r b (o+j * 4))∧FoOk r∧Below w.heap.size w wr∧CtBox wr w.heap.size c p)) (fun _ i _=>len c.cr - (intOf i).toNat)
          case atStart =>
           obtain ⟨-,q1,b,o,q2,q3⟩:=(HV.out.next BW.out).cr
           exact ⟨0,c.cr,_,rfl,rfl,by omega,⟨b,o,q2,by rw [Nat.zero_mul,Nat.add_zero];exact q3⟩,q1,BW.out,XW.out⟩
          case round =>
           obtain ⟨j,r,m,rfl,rfl,HR⟩:=hrel
           cases r with
           | nil =>
             have hj:¬ (j:Int) < (len c.cr:Int):=by have:=HR.out.1;simp [len] at this;omega
             have c10:=HR.out.2.2.2.2.c10
             go_wp2
             go_ret
             exact ⟨_,rfl,HR.out.2.2.2.1⟩
           | node b1 o1 a1 k1 r1 =>
             have hj:j < len c.cr:=by have:=HR.out.1;simp [len] at this;omega
             have hj1:(j:Int) < (len c.cr:Int):=by omega
             have hj0:(0:Int)≤(j:Int):=by omega
             obtain ⟨kb,ko,hkp,⟨d0,d1,d2,d3⟩,hp1,hk1,hr1⟩:=HR.out.2.1
             have HPr:=Lib.hid (hkp (by simp))
             have HX:Hid (ExAt wr b1 o1 a1 k1):=⟨hp1,hk1⟩
             have HN:=Lib.hid hr1
             have HOK:=Lib.hid HR.out.2.2.1
             have c10:wr.cell? ⟨w.heap.size,10,none⟩=some (.slice (some ⟨kb,ko,none⟩) (len c.cr) p.ccr):=by rw [← HPr.out];exact HR.out.2.2.2.2.c10
             clear hkp hp1 hk1 hr1
             by_cases hm:m < 3000
             · go_wp2_with fail
               refine (size_any b1 o1 a1 k1 wr HX.out ⟨HOK.out.1,HOK.out.2.1⟩).mono ?_
               rintro e w1 ⟨m1,-,rfl,hb⟩
               have B1:=Lib.hid (HR.out.2.2.2.1.trans (hb.mono HR.out.2.2.2.1.size))
               have X1:=Lib.hid (HR.out.2.2.2.2.next hb)
               have N1:=Lib.hid (HN.out.next hb)
               clear hb d0 d1 d2 d3 c10
               go_wp2
               go_roundw
               case rel =>
                have q1:=HR.out.1
                simp [len] at q1
                refine ⟨j+1,r1,_,by go_num,rfl,by omega,⟨kb,ko,fun _=>HPr.out,?_⟩,HOK.out.2.2,B1.out,X1.out⟩
                rw [Nat.add_mul,Nat.one_mul,← Nat.add_assoc];exact N1.out
               case measure=>simp [intOf];omega
             · go_wp2
               go_ret
               exact ⟨_,rfl,HR.out.2.2.2.1⟩
     · go_wp2_with fail
       clear c8
       go_loopw [3,6] (fun n i wr=>∃ (j:Nat) (m:Int),j≤c.os.length∧i=.int .i64 j∧n=.int .i64 m∧Hid (Below w.heap.size w wr∧CtBox wr w.heap.size c p)) (fun _ i _=>c.os.length - (intOf i).toNat)
       case atStart=>exact ⟨0,_,Nat.zero_le _,rfl,rfl,BW.out,XW.out⟩
       case round =>
        clear BW XW
        obtain ⟨j,m,hj,rfl,rfl,HR⟩:=hrel
        by_cases hgo:j < c.os.length∧m < 3000
        · obtain ⟨hlt,hm⟩:=hgo
          obtain ⟨x,hc⟩:∃ x,c.os[j]?=some x:=⟨_,List.getElem?_eq_getElem (by omega)⟩
          obtain ⟨-,BO,OO,hpp,hrow⟩:=HV.out.os
          have HPr:=Lib.hid (hpp (by intro q;rw [q] at hc;simp at hc))
          have PX:=Lib.hid (hrow j x hc)
          obtain ⟨d1,d2,d3,d4⟩:=(PX.out.2.1.next HR.out.1).1
          have hj1:(j:Int) < (c.os.length:Int):=by omega
          have hj0:(0:Int)≤(j:Int):=by omega
          have c9:wr.cell? ⟨w.heap.size,9,none⟩=some (.slice (some ⟨BO,OO,none⟩) c.os.length p.cos):=by rw [← HPr.out];exact HR.out.2.c9
          clear hc hpp hrow
          go_wp2_with fail
          refine (size_any x.b x.o x.a x.k wr (PX.out.2.1.2.1.next HR.out.1) PX.out.2.1.2.2).mono ?_
          rintro e w1 ⟨m1,-,rfl,hb⟩
          have B1:=Lib.hid (HR.out.1.trans (hb.mono HR.out.1.size))
          have X1:=Lib.hid (HR.out.2.next hb)
          clear hb d1 d2 d3 d4 c9
          go_wp2
          go_roundw
          case rel=>exact ⟨j+1,_,by omega,by go_num,rfl,B1.out,X1.out⟩
          case measure=>simp [intOf];omega
        have BW:=Lib.hid HR.out.1
        have XW:=Lib.hid HR.out.2
        have c9:=XW.out.c9
        clear HR
        obtain ⟨bb,hbb⟩:∃ bb:Bool,decide ((j:Int) < (c.os.length:Int))=bb:=⟨_,rfl⟩
        have hq:¬ ((j:Int) < (c.os.length:Int))∨((j:Int) < (c.os.length:Int)∧¬ m < 3000):=by omega
        clear hgo hbb
        rcases hq with hq|⟨hq,hq2⟩
        · go_wp2_with fail
          clear c9
          go_loopw [3,7] (fun n i wr=>∃ (j:Nat) (r:Fo) (m:Int),i=.int .i64 j∧n=.int .i64 m∧Hid (j+len r=len c.cr∧(∃ b o,(r≠.nil→p.cr=some ⟨b,o,none⟩)∧FoAt wr r b (o+j * 4))∧FoOk r∧Below w.heap.size w wr∧CtBox wr w.heap.size c p)) (fun _ i _=>len c.cr - (intOf i).toNat)
          case atStart =>
           obtain ⟨-,q1,b,o,q2,q3⟩:=(HV.out.next BW.out).cr
           exact ⟨0,c.cr,_,rfl,rfl,by omega,⟨b,o,q2,by rw [Nat.zero_mul,Nat.add_zero];exact q3⟩,q1,BW.out,XW.out⟩
          case round =>
           obtain ⟨j,r,m,rfl,rfl,HR⟩:=hrel
           cases r with
           | nil =>
             have hj:¬ (j:Int) < (len c.cr:Int):=by have:=HR.out.1;simp [len] at this;omega
             have c10:=HR.out.2.2.2.2.c10
             go_wp2
             go_ret
             exact ⟨_,rfl,HR.out.2.2.2.1⟩
           | node b1 o1 a1 k1 r1 =>
             have hj:j < len c.cr:=by have:=HR.out.1;simp [len] at this;omega
             have hj1:(j:Int) < (len c.cr:Int):=by omega
             have hj0:(0:Int)≤(j:Int):=by omega
             obtain ⟨kb,ko,hkp,⟨d0,d1,d2,d3⟩,hp1,hk1,hr1⟩:=HR.out.2.1
             have HPr:=Lib.hid (hkp (by simp))
             have HX:Hid (ExAt wr b1 o1 a1 k1):=⟨hp1,hk1⟩
             have HN:=Lib.hid hr1
             have HOK:=Lib.hid HR.out.2.2.1
             have c10:wr.cell? ⟨w.heap.size,10,none⟩=some (.slice (some ⟨kb,ko,none⟩) (len c.cr) p.ccr):=by rw [← HPr.out];exact HR.out.2.2.2.2.c10
             clear hkp hp1 hk1 hr1
             by_cases hm:m < 3000
             · go_wp2_with fail
               refine (size_any b1 o1 a1 k1 wr HX.out ⟨HOK.out.1,HOK.out.2.1⟩).mono ?_
               rintro e w1 ⟨m1,-,rfl,hb⟩
               have B1:=Lib.hid (HR.out.2.2.2.1.trans (hb.mono HR.out.2.2.2.1.size))
               have X1:=Lib.hid (HR.out.2.2.2.2.next hb)
               have N1:=Lib.hid (HN.out.next hb)
               clear hb d0 d1 d2 d3 c10
               go_wp2
               go_roundw
               case rel =>
                have q1:=HR.out.1
                simp [len] at q1
                refine ⟨j+1,r1,_,by go_num,rfl,by omega,⟨kb,ko,fun _=>HPr.out,?_⟩,HOK.out.2.2,B1.out,X1.out⟩
                rw [Nat.add_mul,Nat.one_mul,← Nat.add_assoc];exact N1.out
               case measure=>simp [intOf];omega
             · go_wp2
               go_ret
               exact ⟨_,rfl,HR.out.2.2.2.1⟩
        · go_wp2_with fail
          clear c9
          go_loopw [3,7] (fun n i wr=>∃ (j:Nat) (r:Fo) (m:Int),i=.int .i64 j∧n=.int .i64 m∧Hid (j+len r=len c.cr∧(∃ b o,(r≠.nil→p.cr=some ⟨b,o,none⟩)∧FoAt wr r b (o+j * 4))∧FoOk r∧Below w.heap.size w wr∧CtBox wr w.heap.size c p)) (fun _ i _=>len c.cr - (intOf i).toNat)
          case atStart =>
           obtain ⟨-,q1,b,o,q2,q3⟩:=(HV.out.next BW.out).cr
           exact ⟨0,c.cr,_,rfl,rfl,by omega,⟨b,o,q2,by rw [Nat.zero_mul,Nat.add_zero];exact q3⟩,q1,BW.out,XW.out⟩
          case round =>
           obtain ⟨j,r,m,rfl,rfl,HR⟩:=hrel
           cases r with
           | nil =>
             have hj:¬ (j:Int) < (len c.cr:Int):=by have:=HR.out.1;simp [len] at this;omega
             have c10:=HR.out.2.2.2.2.c10
             go_wp2
             go_ret
             exact ⟨_,rfl,HR.out.2.2.2.1⟩
           | node b1 o1 a1 k1 r1 =>
             have hj:j < len c.cr:=by have:=HR.out.1;simp [len] at this;omega
             have hj1:(j:Int) < (len c.cr:Int):=by omega
             have hj0:(0:Int)≤(j:Int):=by omega
             obtain ⟨kb,ko,hkp,⟨d0,d1,d2,d3⟩,hp1,hk1,hr1⟩:=HR.out.2.1
             have HPr:=Lib.hid (hkp (by simp))
             have HX:Hid (ExAt wr b1 o1 a1 k1):=⟨hp1,hk1⟩
             have HN:=Lib.hid hr1
             have HOK:=Lib.hid HR.out.2.2.1
             have c10:wr.cell? ⟨w.heap.size,10,none⟩=some (.slice (some ⟨kb,ko,none⟩) (len c.cr) p.ccr):=by rw [← HPr.out];exact HR.out.2.2.2.2.c10
             clear hkp hp1 hk1 hr1
             by_cases hm:m < 3000
             · go_wp2_with fail
               refine (size_any b1 o1 a1 k1 wr HX.out ⟨HOK.out.1,HOK.out.2.1⟩).mono ?_
               rintro e w1 ⟨m1,-,rfl,hb⟩
               have B1:=Lib.hid (HR.out.2.2.2.1.trans (hb.mono HR.out.2.2.2.1.size))
               have X1:=Lib.hid (HR.out.2.2.2.2.next hb)
               have N1:=Lib.hid (HN.out.next hb)
               clear hb d0 d1 d2 d3 c10
               go_wp2
               go_roundw
               case rel =>
                have q1:=HR.out.1
                simp [len] at q1
                refine ⟨j+1,r1,_,by go_num,rfl,by omega,⟨kb,ko,fun _=>HPr.out,?_⟩,HOK.out.2.2,B1.out,X1.out⟩
                rw [Nat.add_mul,Nat.one_mul,← Nat.add_assoc];exact N1.out
               case measure=>simp [intOf];omega
             · go_wp2
               go_ret
               exact ⟨_,rfl,HR.out.2.2.2.1⟩
end
end Go.Proofs.YtfoedbfkddoibaaGreat
