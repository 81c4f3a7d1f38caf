import Derived.Test.YtcejjdmnlejbaaaGreatDoorBPz
import Derived.Test.YtcejjdmnlejbaaaGreatDoorBGa
import Derived.Test.YtcejjdmnlejbaaaGreatDoorBGb
import Derived.Lib.QuietBelow
namespace Go.Proofs.YtcejjdmnlejbaaaGreatDoor
set_option linter.unusedVariables false
set_option linter.unusedSimpArgs false
open Go.ChangeShapes Go.WideShapes Go.ChangeAt Go.RowKit
open Go.Deep (BT)
def SameC (b o:Nat) (a:Nd) (k:Fo):Prop:=∀ (b' o':Nat) (a':Nd) (k':Fo) (w:World),ExAt w b o a k→ExAt w b' o' a' k'→ExOk a k→a.op=a'.op→a.num=a'.num→a.name=a'.name→Pz.nrm k=Pz.nrm k' →
 Calls Tryz.prog 15 #[.agg #[.int .i64 a.op,.int .i64 a.num,.string a.name,.slice a.ptr (len k) a.cap],.agg #[.int .i64 a'.op,.int .i64 a'.num,.string a'.name,.slice a'.ptr (len k') a'.cap]] w
  fun e w'=>e=.returned (.bool true)∧Below w.heap.size w w'
theorem nrm_len {k k':Fo} (h:Pz.nrm k=Pz.nrm k'):len k=len k':=by
 have e:∀ T:Fo,len (Pz.nrm T)=len T:=by
  intro T
  induction T with
  | nil=>rfl
  | node b o a k r ihk ihr=>simp only [Pz.nrm,len,ihr]
 rw [← e k,← e k',h]
set_option maxHeartbeats 2000000 in
set_option maxRecDepth 100000 in
theorem same_tree (b o:Nat) (a:Nd) (k:Fo):SameC b o a k:=by
 refine tree_of (P:=SameC) ?_ b o a k
 clear b o a k
 intro b o a k ih b' o' a' k' w hx hy hok h0 h1 h2 hk
 obtain ⟨op,num,name,ptr,cap⟩:=a
 obtain ⟨op',num',name',ptr',cap'⟩:=a'
 dsimp only at h0 h1 h2
 subst h0 h1 h2
 have hl:=nrm_len hk
 have HX:=Lib.hid hx
 have HY:=Lib.hid hy
 have HOK:=Lib.hid hok
 have IH:=Lib.hid ih
 have HK:=Lib.hid hk
 have hlk:len k≤9223372036854775807:=hok.1.2.2.2
 rw [← hl]
 clear hx hy hok ih hk
 have HL:=Lib.hid hl
 clear hl
 show Calls Tryz.prog 15 #[.agg #[.int .i64 op,.int .i64 num,.string name,.slice ptr (len k) cap],.agg #[.int .i64 op,.int .i64 num,.string name,.slice ptr' (len k) cap']] w _
 have B0:Hid (Below w.heap.size w ((w.alloc (.cells #[.int .i64 op,.int .i64 num,.string name,.slice ptr (len k) cap] 24)).alloc (.cells #[.int .i64 op,.int .i64 num,.string name,.slice ptr' (len k) cap'] 24))):=((Below.refl _ _).alloc (Nat.le_refl _) _).alloc (by simp) _
 have p3:((w.alloc (.cells #[.int .i64 op,.int .i64 num,.string name,.slice ptr (len k) cap] 24)).alloc (.cells #[.int .i64 op,.int .i64 num,.string name,.slice ptr' (len k) cap'] 24)).cell? ⟨w.heap.size,3,none⟩=some (.slice ptr (len k) cap):=by simp [go_sem]
 have q3:((w.alloc (.cells #[.int .i64 op,.int .i64 num,.string name,.slice ptr (len k) cap] 24)).alloc (.cells #[.int .i64 op,.int .i64 num,.string name,.slice ptr' (len k) cap'] 24)).cell? ⟨w.heap.size+1,3,none⟩=some (.slice ptr' (len k) cap'):=by simp [go_sem]
 have P3:=Lib.hid (And.intro p3 q3)
 have hz0:w.heap.size+1 < ((w.alloc (.cells #[.int .i64 op,.int .i64 num,.string name,.slice ptr (len k) cap] 24)).alloc (.cells #[.int .i64 op,.int .i64 num,.string name,.slice ptr' (len k) cap'] 24)).heap.size:=by simp
 clear p3 q3
 go_enter Tryz.func15,Tryz.ntmps15
 go_wp2_with fail
 generalize (w.alloc (.cells #[.int .i64 op,.int .i64 num,.string name,.slice ptr (len k) cap] 24)).alloc (.cells #[.int .i64 op,.int .i64 num,.string name,.slice ptr' (len k) cap'] 24)=w0 at *
 go_loopg [5] (len k) (fun g i wr=>∃ (j:Nat) (r r':Fo),i=.int .i64 j∧Hid (g=len k - j∧j+len r=len k∧FoAt wr r b (o+j * 4)∧FoAt wr r' b' (o'+j * 4)∧Pz.nrm r=Pz.nrm r'∧FoOk r∧AllT SameC r∧Below w0.heap.size w0 wr))
 case atStart=>exact ⟨0,k,k',rfl,by simp,by simp,by rw [Nat.zero_mul,Nat.add_zero];exact (HX.out.next B0.out).2,by rw [Nat.zero_mul,Nat.add_zero];exact (HY.out.next B0.out).2,HK.out,HOK.out.2,IH.out,Below.refl _ _⟩
 case round =>
  obtain ⟨j,r,r',rfl,HR⟩:=hrel
  obtain ⟨hg0,hjk,hA,hB,hN,hO,hI,hW⟩:=HR.out
  have BW:=Lib.hid hW
  have HG:=Lib.hid hg0
  have hz1:w.heap.size+1 < wr.heap.size:=Nat.lt_of_lt_of_le hz0 hW.size
  have p3:wr.cell? ⟨w.heap.size,3,none⟩=some (.slice ptr (len k) cap):=by rw [hW.cell (p:=⟨w.heap.size,3,none⟩) (by show w.heap.size < _;omega)];exact P3.out.1
  have q3:wr.cell? ⟨w.heap.size+1,3,none⟩=some (.slice ptr' (len k) cap'):=by rw [hW.cell (p:=⟨w.heap.size+1,3,none⟩) (by show w.heap.size+1 < _;omega)];exact P3.out.2
  clear hW hg0 HR
  cases r with
  | nil =>
    have hj:¬ (j:Int) < (len k:Int):=by simp [len] at hjk;omega
    clear hA hB hN hO hI hjk
    go_wp2
    go_ret
    exact ⟨rfl,B0.out.trans (BW.out.mono B0.out.size)⟩
  | node b1 o1 a1 k1 r1 =>
    cases r' with
    | nil=>simp [Pz.nrm] at hN
    | node b2 o2 a2 k2 r2 =>
      have hj:j < len k:=by simp [len] at hjk;omega
      have hj1:(j:Int) < (len k:Int):=by omega
      have hj0:(0:Int)≤(j:Int):=by omega
      obtain rfl:ptr=some ⟨b,o,none⟩:=HX.out.1 (by rintro rfl;simp [len] at hj)
      obtain rfl:ptr'=some ⟨b',o',none⟩:=HY.out.1 (by rintro rfl;rw [HL.out] at hj;simp [len] at hj)
      obtain ⟨⟨c0,c1,c2,c3⟩,hp1,hk1,hr1⟩:=hA
      obtain ⟨⟨d0,d1,d2,d3⟩,hp2,hk2,hr2⟩:=hB
      have X1:Hid (ExAt wr b1 o1 a1 k1):=⟨hp1,hk1⟩
      have Y1:Hid (ExAt wr b2 o2 a2 k2):=⟨hp2,hk2⟩
      have N1:=Lib.hid (And.intro hr1 hr2)
      have HN:Hid (a1.op=a2.op∧a1.num=a2.num∧a1.name=a2.name∧Pz.nrm k1=Pz.nrm k2∧Pz.nrm r1=Pz.nrm r2):=by
       unfold Pz.nrm at hN
       injection hN with n1 n2 n3 n4 n5
       injection n3 with m1 m2 m3
       exact ⟨m1,m2,m3,n4,n5⟩
      have HO:=Lib.hid hO
      have HI:=Lib.hid hI
      have HJ:=Lib.hid hjk
      clear hp1 hk1 hr1 hp2 hk2 hr2 hN hO hI hjk
      have C:Hid (∀ dq os,Calls Tryz.prog 15 #[.agg #[.int .i64 a1.op,.int .i64 a1.num,.string a1.name,.slice a1.ptr (len k1) a1.cap],.agg #[.int .i64 a2.op,.int .i64 a2.num,.string a2.name,.slice a2.ptr (len k2) a2.cap]] (Sort.grow (redrawn wr dq) os)
       fun e w''=>e=.returned (.bool true)∧∃ p:Regrown,w''=Sort.grow (redrawn wr p.d) p.os):=by
       intro dq os
       have hb:=below_regrown wr dq os
       exact Calls.regrown_of (HI.out.1 b2 o2 a2 k2 _ (X1.out.next hb) (Y1.out.next hb) ⟨HO.out.1,HO.out.2.1⟩ HN.out.1 HN.out.2.1 HN.out.2.2.1 HN.out.2.2.2.1)
      have e0:=fun d os=>cell_regrown p3 d os
      have e1:=fun d os=>cell_regrown q3 d os
      have e3:=fun d os=>cell_regrown c0 d os
      have e4:=fun d os=>cell_regrown c1 d os
      have e5:=fun d os=>cell_regrown c2 d os
      have e6:=fun d os=>cell_regrown c3 d os
      have g3:=fun d os=>cell_regrown d0 d os
      have g4:=fun d os=>cell_regrown d1 d os
      have g5:=fun d os=>cell_regrown d2 d os
      have g6:=fun d os=>cell_regrown d3 d os
      go_upto_region 6 with (fail)
      refine wp_region_quiet_below (by kernel_rfl) (by kernel_rfl) ?_
      repeat (quiet_step (with_reducible exact C.out _ _))
      refine wpQuiet_nil ?_
      intro _ hw'
      obtain ⟨⟨dq,osq⟩,hw''⟩:=hw'
      subst hw''
      have hb:=below_regrown wr dq osq
      clear e0 e1 e3 e4 e5 e6 g3 g4 g5 g6 C p3 q3 c0 c1 c2 c3 d0 d1 d2 d3
      generalize Sort.grow (redrawn wr dq) osq=w1 at *
      have B1:=Lib.hid (BW.out.trans (hb.mono BW.out.size))
      have N2:Hid (FoAt w1 r1 b (o+j * 4+4)∧FoAt w1 r2 b' (o'+j * 4+4)):=⟨N1.out.1.next hb,N1.out.2.next hb⟩
      clear hb
      go_wp2
      go_roundg (len k - (j+1))
      case rel =>
       refine ⟨j+1,r1,r2,by go_num,rfl,?_,?_,?_,HN.out.2.2.2.2,HO.out.2.2,HI.out.2,B1.out⟩
       · have:=HJ.out;simp [len] at this;omega
       · rw [Nat.add_mul,Nat.one_mul,← Nat.add_assoc];exact N2.out.1
       · rw [Nat.add_mul,Nat.one_mul,← Nat.add_assoc];exact N2.out.2
      case measure=>have:=HG.out;omega
theorem same_any17 (c d:Ch) (w:World) (hc:ExAt w c.b c.o c.a c.k) (hd:ExAt w d.b d.o d.a d.k) (hok:ExOk c.a c.k) (h:Pz.nr c=Pz.nr d) :
 Calls Tryz.prog 15 #[.agg #[.int .i64 c.a.op,.int .i64 c.a.num,.string c.a.name,.slice c.a.ptr (len c.k) c.a.cap],.agg #[.int .i64 d.a.op,.int .i64 d.a.num,.string d.a.name,.slice d.a.ptr (len d.k) d.a.cap]] w
  fun e w'=>e=.returned (.bool true)∧Below w.heap.size w w':=by
 unfold Pz.nr at h
 injection h with n1 n2 n3 n4
 injection n3 with m1 m2 m3
 exact same_tree c.b c.o c.a c.k d.b d.o d.a d.k w hc hd hok m1 m2 m3 n4
end Go.Proofs.YtcejjdmnlejbaaaGreatDoor
