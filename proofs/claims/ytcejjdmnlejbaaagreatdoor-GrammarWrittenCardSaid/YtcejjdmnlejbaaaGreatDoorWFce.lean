import Derived.Test.YtcejjdmnlejbaaaGreatDoorWCrV
namespace Go.Proofs.YtcejjdmnlejbaaaGreatDoor
open Lib(hid)
set_option linter.unusedVariables false
set_option linter.unusedSimpArgs false
open Go.ChangeShapes Go.WideShapes Go.ChangeAt Go.RowKit
open Go.Deep (BT)
set_option maxHeartbeats 8000000
set_option maxRecDepth 100000
def Ky(b o:Nat)(a:Nd)(k:Fo):Prop:=∀(b' o':Nat)(a':Nd)(k':Fo)(w:World),ExAt w b o a k→ExAt w b' o' a' k'→yN a k→a.op=a'.op→a.num=a'.num→a.name=a'.name→Pz.nrm k=Pz.nrm k'→
 Calls Tryz.prog 15 #[.agg #[.int .i64 a.op,.int .i64 a.num,.string a.name,.slice a.ptr (len k) a.cap],.agg #[.int .i64 a'.op,.int .i64 a'.num,.string a'.name,.slice a'.ptr (len k') a'.cap]] w
  fun e w'=>e=.returned (.bool true)∧Below w.heap.size w w'
theorem U8{k k':Fo}(h:Pz.nrm k=Pz.nrm k'):len k=len k':=by
 have e:∀T:Fo,len (Pz.nrm T)=len T:=by
  intro T
  induction T with
  | nil=>rfl
  | node b o a k r ihk ihr=>simp only[Pz.nrm,len,ihr]
 rw[← e k,← e k',h]
theorem YE(b o:Nat)(a:Nd)(k:Fo):Ky b o a k:=by
 refine jf (P:=Ky) ?_ b o a k;clear b o a k;intro b o a k ih b' o' a' k' w hx hy hok h0 h1 h2 hk;obtain⟨op,num,name,ptr,cap⟩:=a;obtain⟨op',num',name',ptr',cap'⟩:=a';dsimp only at h0 h1 h2;subst h0 h1 h2;have hl:=U8 hk;have HX:=hid hx;have HY:=hid hy;have HOK:=hid hok;have IH:=hid ih;have HK:=hid hk;have hlk:len k≤9223372036854775807:=hok.1.2.2.2;rw[← hl];clear hx hy hok ih hk;have HL:=hid hl;clear hl
 show Calls Tryz.prog 15 #[.agg #[.int .i64 op,.int .i64 num,.string name,.slice ptr (len k) cap],.agg #[.int .i64 op,.int .i64 num,.string name,.slice ptr' (len k) cap']] w _
 have B0:Hid (Below w.heap.size w ((w.alloc (.cells #[.int .i64 op,.int .i64 num,.string name,.slice ptr (len k) cap] 24)).alloc (.cells #[.int .i64 op,.int .i64 num,.string name,.slice ptr' (len k) cap'] 24))):=ba1.alloc (by simp) _;have p3:((w.alloc (.cells #[.int .i64 op,.int .i64 num,.string name,.slice ptr (len k) cap] 24)).alloc (.cells #[.int .i64 op,.int .i64 num,.string name,.slice ptr' (len k) cap'] 24)).cell? ⟨w.heap.size,3,none⟩=some (.slice ptr (len k) cap):=by simp[go_sem]
 have q3:((w.alloc (.cells #[.int .i64 op,.int .i64 num,.string name,.slice ptr (len k) cap] 24)).alloc (.cells #[.int .i64 op,.int .i64 num,.string name,.slice ptr' (len k) cap'] 24)).cell? ⟨w.heap.size+1,3,none⟩=some (.slice ptr' (len k) cap'):=by simp[go_sem]
 have P3:=hid (And.intro p3 q3);have hz0:w.heap.size+1 < ((w.alloc (.cells #[.int .i64 op,.int .i64 num,.string name,.slice ptr (len k) cap] 24)).alloc (.cells #[.int .i64 op,.int .i64 num,.string name,.slice ptr' (len k) cap'] 24)).heap.size:=by simp
 clear p3 q3;go_enter Tryz.func15,Tryz.ntmps15;go_wp2_with fail;generalize (w.alloc (.cells #[.int .i64 op,.int .i64 num,.string name,.slice ptr (len k) cap] 24)).alloc (.cells #[.int .i64 op,.int .i64 num,.string name,.slice ptr' (len k) cap'] 24)=w0 at *
 go_loopg [5] (len k) (fun g i wr=>∃(j:Nat) (r r':Fo),i=.int .i64 j∧Hid (g=len k - j∧j+len r=len k∧FoAt wr r b (o+j * 4)∧FoAt wr r' b' (o'+j * 4)∧Pz.nrm r=Pz.nrm r'∧je r∧xo Ky r∧Below w0.heap.size w0 wr))
 case atStart=>exact⟨0,k,k',rfl,by simp,by simp,by rw[Nat.zero_mul,Nat.add_zero];exact(HX.out.next B0.out).2,by rw[Nat.zero_mul,Nat.add_zero];exact(HY.out.next B0.out).2,HK.out,HOK.out.2,IH.out,Below.refl _ _⟩
 case round =>
  obtain⟨j,r,r',rfl,HR⟩:=hrel;obtain⟨hg0,hjk,hA,hB,hN,hO,hI,hW⟩:=HR.out;have BW:=hid hW;have HG:=hid hg0;have hz1:w.heap.size+1 < wr.heap.size:=Nat.lt_of_lt_of_le hz0 hW.size;have p3:wr.cell? ⟨w.heap.size,3,none⟩=some (.slice ptr (len k) cap):=by rw[hW.cell (p:=⟨w.heap.size,3,none⟩) (by show w.heap.size < _;omega)];exact P3.out.1
  have q3:wr.cell? ⟨w.heap.size+1,3,none⟩=some (.slice ptr' (len k) cap'):=by rw[hW.cell (p:=⟨w.heap.size+1,3,none⟩) (by show w.heap.size+1 < _;omega)];exact P3.out.2
  clear hW hg0 HR;cases r with
  | nil =>
    have hj:¬(j:Int) < (len k:Int):=(by simp[len] at hjk;omega);clear hA hB hN hO hI hjk;go_wp2;go_ret;exact⟨rfl,B0.out.trans (BW.out.mono B0.out.size)⟩
  | node b1 o1 a1 k1 r1 =>
    cases r' with
    | nil=>simp[Pz.nrm] at hN
    | node b2 o2 a2 k2 r2 =>
      have hj:j < len k:=(by simp[len] at hjk;omega);have hj1:(j:Int) < (len k:Int):=(by omega);have hj0:(0:Int)≤(j:Int):=(by omega);obtain rfl:ptr=some ⟨b,o,none⟩:=HX.out.1 (by rintro rfl;simp[len] at hj);obtain rfl:ptr'=some ⟨b',o',none⟩:=HY.out.1 (by rintro rfl;rw[HL.out] at hj;simp[len] at hj);obtain⟨⟨c0,c1,c2,c3⟩,hp1,hk1,hr1⟩:=hA;obtain⟨⟨d0,d1,d2,d3⟩,hp2,hk2,hr2⟩:=hB;have X1:Hid (ExAt wr b1 o1 a1 k1):=⟨hp1,hk1⟩;have Y1:Hid (ExAt wr b2 o2 a2 k2):=⟨hp2,hk2⟩;have N1:=hid (And.intro hr1 hr2)
      have HN:Hid (a1.op=a2.op∧a1.num=a2.num∧a1.name=a2.name∧Pz.nrm k1=Pz.nrm k2∧Pz.nrm r1=Pz.nrm r2):=by
       unfold Pz.nrm at hN;injection hN with n1 n2 n3 n4 n5
       injection n3 with m1 m2 m3
       exact⟨m1,m2,m3,n4,n5⟩
      have HO:=hid hO;have HI:=hid hI;have HJ:=hid hjk;clear hp1 hk1 hr1 hp2 hk2 hr2 hN hO hI hjk
      have C:Hid (∀dq os,Calls Tryz.prog 15 #[.agg #[.int .i64 a1.op,.int .i64 a1.num,.string a1.name,.slice a1.ptr (len k1) a1.cap],.agg #[.int .i64 a2.op,.int .i64 a2.num,.string a2.name,.slice a2.ptr (len k2) a2.cap]] (Sort.grow (redrawn wr dq) os)
       fun e w''=>e=.returned (.bool true)∧∃p:Regrown,w''=Sort.grow (redrawn wr p.d) p.os):=by
       intro dq os;have hb:=below_regrown wr dq os;exact Calls.regrown_of (HI.out.1 b2 o2 a2 k2 _ (X1.out.next hb) (Y1.out.next hb) ⟨HO.out.1,HO.out.2.1⟩ HN.out.1 HN.out.2.1 HN.out.2.2.1 HN.out.2.2.2.1)
      have e0:=fun d os=>cell_regrown p3 d os;have e1:=fun d os=>cell_regrown q3 d os;have e3:=fun d os=>cell_regrown c0 d os;have e4:=fun d os=>cell_regrown c1 d os;have e5:=fun d os=>cell_regrown c2 d os;have e6:=fun d os=>cell_regrown c3 d os;have g3:=fun d os=>cell_regrown d0 d os;have g4:=fun d os=>cell_regrown d1 d os;have g5:=fun d os=>cell_regrown d2 d os;have g6:=fun d os=>cell_regrown d3 d os;go_upto_region 6 with (fail);refine wp_region_quiet_below (by kernel_rfl) (by kernel_rfl) ?_
      repeat (quiet_step (with_reducible exact C.out _ _))
      refine wpQuiet_nil ?_;intro _ hw';obtain⟨⟨dq,osq⟩,hw''⟩:=hw';subst hw'';have hb:=below_regrown wr dq osq;clear e0 e1 e3 e4 e5 e6 g3 g4 g5 g6 C p3 q3 c0 c1 c2 c3 d0 d1 d2 d3;generalize Sort.grow (redrawn wr dq) osq=w1 at *;have B1:=hid (bt9 BW hb);have N2:Hid (FoAt w1 r1 b (o+j * 4+4)∧FoAt w1 r2 b' (o'+j * 4+4)):=⟨N1.out.1.next hb,N1.out.2.next hb⟩;clear hb;go_wp2
      go_roundg (len k - (j+1))
      case rel =>
       refine⟨j+1,r1,r2,by go_num,rfl,?_,?_,?_,HN.out.2.2.2.2,HO.out.2.2,HI.out.2,B1.out⟩
       ·have:=HJ.out;simp[len] at this;omega
       ·rw[Nat.add_mul,Nat.one_mul,← Nat.add_assoc];exact N2.out.1
       ·rw[Nat.add_mul,Nat.one_mul,← Nat.add_assoc];exact N2.out.2
      case measure=>have:=HG.out;omega
theorem jJ(c d:Ch)(w:World)(hc:ExAt w c.b c.o c.a c.k)(hd:ExAt w d.b d.o d.a d.k)(hok:yN c.a c.k)(h:Pz.nr c=Pz.nr d) :
 Calls Tryz.prog 15 #[.agg #[.int .i64 c.a.op,.int .i64 c.a.num,.string c.a.name,.slice c.a.ptr (len c.k) c.a.cap],.agg #[.int .i64 d.a.op,.int .i64 d.a.num,.string d.a.name,.slice d.a.ptr (len d.k) d.a.cap]] w
  fun e w'=>e=.returned (.bool true)∧Below w.heap.size w w':=by
 unfold Pz.nr at h;injection h with n1 n2 n3 n4
 injection n3 with m1 m2 m3
 exact YE c.b c.o c.a c.k d.b d.o d.a d.k w hc hd hok m1 m2 m3 n4
theorem K5{w:World}{T:Fo}{b o:Nat}(h:FoAt w T b o)(hok:je T){j:Nat}{x:Ch}(hj:(yv T)[j]?=some x):X4 w b (o+j * 4) x.b x.o x.a x.k:=by
 induction T generalizing o j with
 | nil=>cases hj
 | node b1 o1 a k r _ ih =>
   cases j with
   | zero =>
     obtain rfl:=Option.some.inj hj;rw[Nat.zero_mul,Nat.add_zero];exact⟨h.1,⟨h.2.1,h.2.2.1⟩,hok.1,hok.2.1⟩
   | succ j =>
     have:=ih h.2.2.2 hok.2.2 (j:=j) (by simpa [yv] using hj);rw[show o+(j+1) * 4=o+4+j * 4 by omega];exact this
theorem CrV.get{w:World}{T:Fo}{p:Option Addr}(h:CrV w T p){j:Nat}{x:Ch}(hj:(yv T)[j]?=some x):∃b o,p=some ⟨b,o,none⟩∧X4 w b (o+j * 4) x.b x.o x.a x.k:=by
 obtain⟨-,h1,b,o,h2,h3⟩:=h;exact⟨b,o,h2 (by rintro rfl;cases hj),K5 h3 h1 hj⟩
def zN(c:Ct)(p:Cp):Array Value:=#[.int .i64 c.rep,.int .i64 c.rel,.int .i64 c.con,.int .i64 c.sit,.int .i64 c.lay,.int .i64 c.nf,.int .i64 c.nt,.slice p.cs c.cs.length p.ccs,.slice p.rs c.rs.length p.crs,.slice p.os c.os.length p.cos,.slice p.cr (len c.cr) p.ccr,.slice p.ls c.ls.length p.cls,.slice p.fs c.fs.length p.cfs,.int .i64 c.gua]
def C14(W:World)(g:Nat)(A:Array Value):Prop:=∀i u,A[i]?=some u→W.cell? ⟨g,i,none⟩=some u
theorem C14.next{w W:World}{g:Nat}{A:Array Value}(h:C14 w g A)(hb:Below w.heap.size w W):C14 W g A:=fun i u hi=>by rw[hb.cell (block_lt_of_cell (h i u hi))];exact h i u hi
theorem C14.lit{W:World}{g:Nat}{c:Ct}{p:Cp}(h:C14 W g (zN c p)):C14 W g #[.int .i64 c.rep,.int .i64 c.rel,.int .i64 c.con,.int .i64 c.sit,.int .i64 c.lay,.int .i64 c.nf,.int .i64 c.nt,.slice p.cs c.cs.length p.ccs,.slice p.rs c.rs.length p.crs,.slice p.os c.os.length p.cos,.slice p.cr (len c.cr) p.ccr,.slice p.ls c.ls.length p.cls,.slice p.fs c.fs.length p.cfs,.int .i64 c.gua]:=h
theorem jo(w:World)(A:Array Value)(t:TypeId):C14 (w.alloc (.cells A t)) w.heap.size A:=fun i u hi=>by rw[World.cell?_alloc_new];exact hi
theorem Qo(c d : Ct)(p q:Cp)(w:World)(hc:CtV w c p)(hd:CtV w d q)(h:SmC c d) :
 Calls Tryz.prog 19 #[.agg (zN c p),.agg (zN d q)] w fun e w'=>e=.returned (.bool true)∧Below w.heap.size w w':=by
 obtain⟨n0,n1,n2,n3,n4,n5,n6,n7,ecs,ers,eos,ecr,els,efs⟩:=h;have ECS:=hid ecs;have ERS:=hid ers;have EOS:=hid eos;have ECR:=hid ecr;have l0:d.cs.length=c.cs.length:=zR ecs;have l1:d.rs.length=c.rs.length:=zR ers;have l2:d.os.length=c.os.length:=zR eos;have l3:len d.cr=len c.cr:=by rw[← yK,← yK];exact zR ecr
 have l4:d.ls.length=c.ls.length:=by rw[els]
 have l5:d.fs.length=c.fs.length:=by rw[efs]
 have ELS:=hid els;have EFS:=hid efs;have b0:c.cs.length≤9223372036854775807:=hc.cs.1;have b1:c.rs.length≤9223372036854775807:=hc.rs.1;have b2:c.os.length≤9223372036854775807:=hc.os.1;have b3:len c.cr≤9223372036854775807:=hc.cr.1;have b4:c.ls.length≤9223372036854775807:=hc.ls.1;have b5:c.fs.length≤9223372036854775807:=hc.fs.1;have HC:Hid (∀W,Below w.heap.size w W→CtV W c p):=fun W hb=>hc.next hb
 have HD:Hid (∀W,Below w.heap.size w W→CtV W d q):=fun W hb=>hd.next hb
 have BA:Below w.heap.size w (w.alloc (.cells (zN c p) 43)):=ba1;have BB:Hid (Below w.heap.size w ((w.alloc (.cells (zN c p) 43)).alloc (.cells (zN d q) 43))):=BA.alloc (by simp) _;have CA:Hid (C14 ((w.alloc (.cells (zN c p) 43)).alloc (.cells (zN d q) 43)) w.heap.size (zN c p)):=(jo w (zN c p) _).next ba1
 have CB:Hid (C14 ((w.alloc (.cells (zN c p) 43)).alloc (.cells (zN d q) 43)) (w.heap.size+1) (zN d q)):=by
  have q:=jo (w.alloc (.cells (zN c p) 43)) (zN d q) 43;rw[World.size_alloc] at q;exact q
 unfold zN at BB CA CB;unfold zN;rw[n0,n1,n2,n3,n4,n5,n6,n7,l0,l1,l2,l3,l4,l5] at BB CA CB;rw[n0,n1,n2,n3,n4,n5,n6,n7,l0,l1,l2,l3,l4,l5];clear hc hd n0 n1 n2 n3 n4 n5 n6 n7 ecs ers eos ecr els efs l0 l1 l2 l3 l4 l5 BA;go_enter Tryz.func19,Tryz.ntmps19;go_upto_region 1 with (fail);obtain⟨ga,hga⟩:∃z,w.heap.size=z:=⟨_,rfl⟩;rw[hga] at CA CB;have HGA:=hid hga;obtain⟨w0,hw0⟩:∃z,((w.alloc (.cells #[.int .i64 c.rep,.int .i64 c.rel,.int .i64 c.con,.int .i64 c.sit,.int .i64 c.lay,.int .i64 c.nf,.int .i64 c.nt,.slice p.cs c.cs.length p.ccs,.slice p.rs c.rs.length p.crs,.slice p.os c.os.length p.cos,.slice p.cr (len c.cr) p.ccr,.slice p.ls c.ls.length p.cls,.slice p.fs c.fs.length p.cfs,.int .i64 c.gua] 43)).alloc (.cells #[.int .i64 c.rep,.int .i64 c.rel,.int .i64 c.con,.int .i64 c.sit,.int .i64 c.lay,.int .i64 c.nf,.int .i64 c.nt,.slice q.cs c.cs.length q.ccs,.slice q.rs c.rs.length q.crs,.slice q.os c.os.length q.cos,.slice q.cr (len c.cr) q.ccr,.slice q.ls c.ls.length q.cls,.slice q.fs c.fs.length q.cfs,.int .i64 c.gua] 43))=z:=⟨_,rfl⟩;have EW:=hid hw0;rw[hw0] at BB CA CB
 have A14:Hid (∀W,Below w0.heap.size w0 W→W.cell? ⟨ga,0,none⟩=some (.int .i64 c.rep)∧W.cell? ⟨ga,1,none⟩=some (.int .i64 c.rel)∧W.cell? ⟨ga,2,none⟩=some (.int .i64 c.con)∧W.cell? ⟨ga,3,none⟩=some (.int .i64 c.sit)∧W.cell? ⟨ga,4,none⟩=some (.int .i64 c.lay)∧W.cell? ⟨ga,5,none⟩=some (.int .i64 c.nf)∧W.cell? ⟨ga,6,none⟩=some (.int .i64 c.nt)∧W.cell? ⟨ga,13,none⟩=some (.int .i64 c.gua)∧W.cell? ⟨ga+1,0,none⟩=some (.int .i64 c.rep)∧W.cell? ⟨ga+1,1,none⟩=some (.int .i64 c.rel)∧W.cell? ⟨ga+1,2,none⟩=some (.int .i64 c.con)∧W.cell? ⟨ga+1,3,none⟩=some (.int .i64 c.sit)∧W.cell? ⟨ga+1,4,none⟩=some (.int .i64 c.lay)∧W.cell? ⟨ga+1,5,none⟩=some (.int .i64 c.nf)∧W.cell? ⟨ga+1,6,none⟩=some (.int .i64 c.nt)∧W.cell? ⟨ga+1,13,none⟩=some (.int .i64 c.gua)):=fun W hb=>by
  refine⟨?_,?_,?_,?_,?_,?_,?_,?_,?_,?_,?_,?_,?_,?_,?_,?_⟩
  all_goals first
   | exact qa (CA.out _ _ (by rfl)) hb
   | exact qa (CB.out _ _ (by rfl)) hb
 have S0:Hid (∀W,Below w0.heap.size w0 W→W.cell? ⟨ga,7,none⟩=some (.slice p.cs c.cs.length p.ccs)∧W.cell? ⟨ga+1,7,none⟩=some (.slice q.cs c.cs.length q.ccs)):=fun W hb=>⟨qa (CA.out 7 _ (by rfl)) hb,qa (CB.out 7 _ (by rfl)) hb⟩;have S1:Hid (∀W,Below w0.heap.size w0 W→W.cell? ⟨ga,8,none⟩=some (.slice p.rs c.rs.length p.crs)∧W.cell? ⟨ga+1,8,none⟩=some (.slice q.rs c.rs.length q.crs)):=fun W hb=>⟨qa (CA.out 8 _ (by rfl)) hb,qa (CB.out 8 _ (by rfl)) hb⟩;have S2:Hid (∀W,Below w0.heap.size w0 W→W.cell? ⟨ga,9,none⟩=some (.slice p.os c.os.length p.cos)∧W.cell? ⟨ga+1,9,none⟩=some (.slice q.os c.os.length q.cos)):=fun W hb=>⟨qa (CA.out 9 _ (by rfl)) hb,qa (CB.out 9 _ (by rfl)) hb⟩;have S3:Hid (∀W,Below w0.heap.size w0 W→W.cell? ⟨ga,10,none⟩=some (.slice p.cr (len c.cr) p.ccr)∧W.cell? ⟨ga+1,10,none⟩=some (.slice q.cr (len c.cr) q.ccr)):=fun W hb=>⟨qa (CA.out 10 _ (by rfl)) hb,qa (CB.out 10 _ (by rfl)) hb⟩;have S4:Hid (∀W,Below w0.heap.size w0 W→W.cell? ⟨ga,11,none⟩=some (.slice p.ls c.ls.length p.cls)∧W.cell? ⟨ga+1,11,none⟩=some (.slice q.ls c.ls.length q.cls)):=fun W hb=>⟨qa (CA.out 11 _ (by rfl)) hb,qa (CB.out 11 _ (by rfl)) hb⟩;have S5:Hid (∀W,Below w0.heap.size w0 W→W.cell? ⟨ga,12,none⟩=some (.slice p.fs c.fs.length p.cfs)∧W.cell? ⟨ga+1,12,none⟩=some (.slice q.fs c.fs.length q.cfs)):=fun W hb=>⟨qa (CA.out 12 _ (by rfl)) hb,qa (CB.out 12 _ (by rfl)) hb⟩;clear CA CB;simp only[hga] at hw0 ⊢
 try rw[hw0]
 clear hw0 hga;obtain⟨a0,a1,a2,a3,a4,a5,a6,a7,d0,d1,d2,d3,d4,d5,d6,d7⟩:=A14.out w0 (Below.refl _ _);obtain⟨s0,t0⟩:=S0.out w0 (Below.refl _ _);obtain⟨s1,t1⟩:=S1.out w0 (Below.refl _ _);obtain⟨s2,t2⟩:=S2.out w0 (Below.refl _ _);obtain⟨s3,t3⟩:=S3.out w0 (Below.refl _ _);obtain⟨s4,t4⟩:=S4.out w0 (Below.refl _ _);obtain⟨s5,t5⟩:=S5.out w0 (Below.refl _ _);go_upto_region 5 with (fail);clear a0 a1 a2 a3 a4 a5 a6 a7 d0 d1 d2 d3 d4 d5 d6 d7 s0 t0 s1 t1 s2 t2 s3 t3 s4 t4 s5 t5 A14;go_wp2_with fail
 go_loopw [5] (fun i wr=>∃j:Nat,j≤c.cs.length∧i=.int .i64 j∧Hid (Below w0.heap.size w0 wr)) (fun i _=>c.cs.length - (intOf i).toNat)
 case atStart=>exact⟨0,Nat.zero_le _,rfl,Below.refl _ _⟩
 case round =>
  obtain⟨wp,hwp⟩:∃z,z=wr:=⟨_,rfl⟩;subst hwp;obtain⟨j,hj,rfl,HB0⟩:=hrel;obtain⟨s0,t0⟩:=S0.out wp HB0.out
  by_cases qD:j < c.cs.length
  ·have hj1:(j:Int) < (c.cs.length:Int):=by omega
   have hj0:(0:Int)≤(j:Int):=(by omega);have BW:=hid (BB.out.trans (HB0.out.mono BB.out.size));obtain⟨x,hx⟩:∃x,c.cs[j]?=some x:=⟨_,List.getElem?_eq_getElem (by exact qD)⟩;obtain⟨y,hy,hxy⟩:=kG ECS.out hx;obtain⟨Bx,Ox,hpx,hX⟩:=(HC.out _ BW.out).cs.get hx;obtain⟨By,Oy,hpy,hY⟩:=(HD.out _ BW.out).cs.get hy;rw[hpx] at s0;rw[hpy] at t0;have hnm:y.name=x.name:=congrArg Prod.fst hxy;have hE:Pz.nr (⟨x.b,x.o,x.a,x.k⟩:Ch)=Pz.nr ⟨y.b,y.o,y.a,y.k⟩:=(congrArg Prod.snd hxy).symm;obtain⟨x0,⟨⟨x1,x2,x3,x4⟩,hxx,hxo⟩,-⟩:=hX;obtain⟨y0,⟨⟨y1,y2,y3,y4⟩,hyy,-⟩,-⟩:=hY;rw[hnm] at y0
   skip
   have X0:=hid x0;have Y0:=hid y0;have X1:=hid x1;have Y1:=hid y1;have X2:=hid x2;have Y2:=hid y2;have X3:=hid x3;have Y3:=hid y3;have X4:=hid x4;have Y4:=hid y4;have SX:=hid s0;have SY:=hid t0;have SE:Hid (∀dq os,Calls Tryz.prog 15 #[.agg #[.int .i64 x.a.op,.int .i64 x.a.num,.string x.a.name,.slice x.a.ptr (len x.k) x.a.cap],.agg #[.int .i64 y.a.op,.int .i64 y.a.num,.string y.a.name,.slice y.a.ptr (len y.k) y.a.cap]] (Sort.grow (redrawn wp dq) os) fun e w''=>e=.returned (.bool true)∧∃p:Regrown,w''=Sort.grow (redrawn wp p.d) p.os):=fun dq os=>Calls.regrown_of (jJ ⟨x.b,x.o,x.a,x.k⟩ ⟨y.b,y.o,y.a,y.k⟩ _ (ExAt.next hxx (below_regrown wp dq os)) (ExAt.next hyy (below_regrown wp dq os)) hxo hE);clear hx hy hpx hpy qD hxy hE hxx hyy hxo x0 y0 x1 y1 x2 y2 x3 y3 x4 y4 hnm;go_upto_region 8 with (fail);clear s0 t0;have es:=fun d os=>cell_regrown SX.out d os;have et:=fun d os=>cell_regrown SY.out d os;have ex0:=fun d os=>cell_regrown X0.out d os;have ey0:=fun d os=>cell_regrown Y0.out d os;have ex1:=fun d os=>cell_regrown X1.out d os;have ey1:=fun d os=>cell_regrown Y1.out d os;have ex2:=fun d os=>cell_regrown X2.out d os;have ey2:=fun d os=>cell_regrown Y2.out d os;have ex3:=fun d os=>cell_regrown X3.out d os;have ey3:=fun d os=>cell_regrown Y3.out d os;have ex4:=fun d os=>cell_regrown X4.out d os;have ey4:=fun d os=>cell_regrown Y4.out d os;refine wp_region_quiet_below (by kernel_rfl) (by kernel_rfl) ?_
   repeat (quiet_step (with_reducible exact SE.out _ _))
   refine wpQuiet_nil ?_;intro _ hw';obtain⟨⟨dq,osq⟩,hw''⟩:=hw';subst hw'';have B9:=hid (HB0.out.trans ((below_regrown wp dq osq).mono HB0.out.size));clear es et ex0 ey0 ex1 ey1 ex2 ey2 ex3 ey3 ex4 ey4 SE SX SY X0 Y0 X1 Y1 X2 Y2 X3 Y3 X4 Y4;generalize Sort.grow (redrawn wp dq) osq=w9 at *;go_wp2
   go_roundw
   case rel=>exact⟨j+1,by omega,by go_num,B9.out⟩
   case measure=>simp[intOf];omega
  ·obtain rfl : j = c.cs.length:=by omega
   have hj1:¬(c.cs.length:Int) < (c.cs.length:Int):=(by omega);clear qD hj;go_wp2_with fail;clear hj1 s0 t0
   go_loopw [6] (fun i wr=>∃j:Nat,j≤c.rs.length∧i=.int .i64 j∧Hid (Below w0.heap.size w0 wr)) (fun i _=>c.rs.length - (intOf i).toNat)
   case atStart=>exact⟨0,Nat.zero_le _,rfl,HB0.out⟩
   case round =>
    obtain⟨wp,hwp⟩:∃z,z=wr:=⟨_,rfl⟩;subst hwp;obtain⟨j,hj,rfl,HB1⟩:=hrel;obtain⟨s1,t1⟩:=S1.out wp HB1.out
    by_cases qD:j < c.rs.length
    ·have hj1:(j:Int) < (c.rs.length:Int):=by omega
     have hj0:(0:Int)≤(j:Int):=(by omega);have BW:=hid (BB.out.trans (HB1.out.mono BB.out.size));obtain⟨x,hx⟩:∃x,c.rs[j]?=some x:=⟨_,List.getElem?_eq_getElem (by exact qD)⟩;obtain⟨y,hy,hxy⟩:=kG ERS.out hx;obtain⟨Bx,Ox,hpx,hX⟩:=(HC.out _ BW.out).rs.get hx;obtain⟨By,Oy,hpy,hY⟩:=(HD.out _ BW.out).rs.get hy;rw[hpx] at s1;rw[hpy] at t1;have hsc:y.sc=x.sc:=congrArg Prod.fst hxy;have hnm:y.name=x.name:=congrArg (fun z=>z.2.1) hxy;have hE:Pz.nr (⟨x.b,x.o,x.a,x.k⟩:Ch)=Pz.nr ⟨y.b,y.o,y.a,y.k⟩:=(congrArg (fun z=>z.2.2) hxy).symm;obtain⟨x0,x5,⟨⟨x1,x2,x3,x4⟩,hxx,hxo⟩,-⟩:=hX;obtain⟨y0,y5,⟨⟨y1,y2,y3,y4⟩,hyy,-⟩,-⟩:=hY;rw[hsc] at y0;rw[hnm] at y5;have X0:=hid x0;have Y0:=hid y0;have X1:=hid x1;have Y1:=hid y1;have X2:=hid x2;have Y2:=hid y2;have X3:=hid x3;have Y3:=hid y3;have X4:=hid x4;have Y4:=hid y4;have X5:=hid x5;have Y5:=hid y5;have SX:=hid s1;have SY:=hid t1;have SE:Hid (∀dq os,Calls Tryz.prog 15 #[.agg #[.int .i64 x.a.op,.int .i64 x.a.num,.string x.a.name,.slice x.a.ptr (len x.k) x.a.cap],.agg #[.int .i64 y.a.op,.int .i64 y.a.num,.string y.a.name,.slice y.a.ptr (len y.k) y.a.cap]] (Sort.grow (redrawn wp dq) os) fun e w''=>e=.returned (.bool true)∧∃p:Regrown,w''=Sort.grow (redrawn wp p.d) p.os):=fun dq os=>Calls.regrown_of (jJ ⟨x.b,x.o,x.a,x.k⟩ ⟨y.b,y.o,y.a,y.k⟩ _ (ExAt.next hxx (below_regrown wp dq os)) (ExAt.next hyy (below_regrown wp dq os)) hxo hE);clear hx hy hpx hpy qD hxy hE hxx hyy hxo x0 y0 x1 y1 x2 y2 x3 y3 x4 y4 x5 y5 hnm hsc;go_upto_region 13 with (fail);clear s1 t1;have es:=fun d os=>cell_regrown SX.out d os;have et:=fun d os=>cell_regrown SY.out d os;have ex0:=fun d os=>cell_regrown X0.out d os;have ey0:=fun d os=>cell_regrown Y0.out d os;have ex1:=fun d os=>cell_regrown X1.out d os;have ey1:=fun d os=>cell_regrown Y1.out d os;have ex2:=fun d os=>cell_regrown X2.out d os;have ey2:=fun d os=>cell_regrown Y2.out d os;have ex3:=fun d os=>cell_regrown X3.out d os;have ey3:=fun d os=>cell_regrown Y3.out d os;have ex4:=fun d os=>cell_regrown X4.out d os;have ey4:=fun d os=>cell_regrown Y4.out d os;have ex5:=fun d os=>cell_regrown X5.out d os;have ey5:=fun d os=>cell_regrown Y5.out d os;refine wp_region_quiet_below (by kernel_rfl) (by kernel_rfl) ?_
     repeat (quiet_step (with_reducible exact SE.out _ _))
     refine wpQuiet_nil ?_;intro _ hw';obtain⟨⟨dq,osq⟩,hw''⟩:=hw';subst hw'';have B9:=hid (HB1.out.trans ((below_regrown wp dq osq).mono HB1.out.size));clear es et ex0 ey0 ex1 ey1 ex2 ey2 ex3 ey3 ex4 ey4 ex5 ey5 SE SX SY X0 Y0 X1 Y1 X2 Y2 X3 Y3 X4 Y4 X5 Y5;generalize Sort.grow (redrawn wp dq) osq=w9 at *;go_wp2
     go_roundw
     case rel=>exact⟨j+1,by omega,by go_num,B9.out⟩
     case measure=>simp[intOf];omega
    ·obtain rfl : j = c.rs.length:=by omega
     have hj1:¬(c.rs.length:Int) < (c.rs.length:Int):=(by omega);clear qD hj;go_wp2_with fail;clear hj1 s1 t1
     go_loopw [7] (fun i wr=>∃j:Nat,j≤c.os.length∧i=.int .i64 j∧Hid (Below w0.heap.size w0 wr)) (fun i _=>c.os.length - (intOf i).toNat)
     case atStart=>exact⟨0,Nat.zero_le _,rfl,HB1.out⟩
     case round =>
      obtain⟨wp,hwp⟩:∃z,z=wr:=⟨_,rfl⟩;subst hwp;obtain⟨j,hj,rfl,HB2⟩:=hrel;obtain⟨s2,t2⟩:=S2.out wp HB2.out
      by_cases qD:j < c.os.length
      ·have hj1:(j:Int) < (c.os.length:Int):=by omega
       have hj0:(0:Int)≤(j:Int):=(by omega);have BW:=hid (BB.out.trans (HB2.out.mono BB.out.size));obtain⟨x,hx⟩:∃x,c.os[j]?=some x:=⟨_,List.getElem?_eq_getElem (by exact qD)⟩;obtain⟨y,hy,hxy⟩:=kG EOS.out hx;obtain⟨Bx,Ox,hpx,hX⟩:=(HC.out _ BW.out).os.get hx;obtain⟨By,Oy,hpy,hY⟩:=(HD.out _ BW.out).os.get hy;rw[hpx] at s2;rw[hpy] at t2;have hsc:y.sc=x.sc:=congrArg Prod.fst hxy;have hE:Pz.nr (⟨x.b,x.o,x.a,x.k⟩:Ch)=Pz.nr ⟨y.b,y.o,y.a,y.k⟩:=(congrArg Prod.snd hxy).symm;obtain⟨x0,⟨⟨x1,x2,x3,x4⟩,hxx,hxo⟩,-⟩:=hX;obtain⟨y0,⟨⟨y1,y2,y3,y4⟩,hyy,-⟩,-⟩:=hY;rw[hsc] at y0
       skip
       have X0:=hid x0;have Y0:=hid y0;have X1:=hid x1;have Y1:=hid y1;have X2:=hid x2;have Y2:=hid y2;have X3:=hid x3;have Y3:=hid y3;have X4:=hid x4;have Y4:=hid y4;have SX:=hid s2;have SY:=hid t2;have SE:Hid (∀dq os,Calls Tryz.prog 15 #[.agg #[.int .i64 x.a.op,.int .i64 x.a.num,.string x.a.name,.slice x.a.ptr (len x.k) x.a.cap],.agg #[.int .i64 y.a.op,.int .i64 y.a.num,.string y.a.name,.slice y.a.ptr (len y.k) y.a.cap]] (Sort.grow (redrawn wp dq) os) fun e w''=>e=.returned (.bool true)∧∃p:Regrown,w''=Sort.grow (redrawn wp p.d) p.os):=fun dq os=>Calls.regrown_of (jJ ⟨x.b,x.o,x.a,x.k⟩ ⟨y.b,y.o,y.a,y.k⟩ _ (ExAt.next hxx (below_regrown wp dq os)) (ExAt.next hyy (below_regrown wp dq os)) hxo hE);clear hx hy hpx hpy qD hxy hE hxx hyy hxo x0 y0 x1 y1 x2 y2 x3 y3 x4 y4 hsc;go_upto_region 18 with (fail);clear s2 t2;have es:=fun d os=>cell_regrown SX.out d os;have et:=fun d os=>cell_regrown SY.out d os;have ex0:=fun d os=>cell_regrown X0.out d os;have ey0:=fun d os=>cell_regrown Y0.out d os;have ex1:=fun d os=>cell_regrown X1.out d os;have ey1:=fun d os=>cell_regrown Y1.out d os;have ex2:=fun d os=>cell_regrown X2.out d os;have ey2:=fun d os=>cell_regrown Y2.out d os;have ex3:=fun d os=>cell_regrown X3.out d os;have ey3:=fun d os=>cell_regrown Y3.out d os;have ex4:=fun d os=>cell_regrown X4.out d os;have ey4:=fun d os=>cell_regrown Y4.out d os;refine wp_region_quiet_below (by kernel_rfl) (by kernel_rfl) ?_
       repeat (quiet_step (with_reducible exact SE.out _ _))
       refine wpQuiet_nil ?_;intro _ hw';obtain⟨⟨dq,osq⟩,hw''⟩:=hw';subst hw'';have B9:=hid (HB2.out.trans ((below_regrown wp dq osq).mono HB2.out.size));clear es et ex0 ey0 ex1 ey1 ex2 ey2 ex3 ey3 ex4 ey4 SE SX SY X0 Y0 X1 Y1 X2 Y2 X3 Y3 X4 Y4;generalize Sort.grow (redrawn wp dq) osq=w9 at *;go_wp2
       go_roundw
       case rel=>exact⟨j+1,by omega,by go_num,B9.out⟩
       case measure=>simp[intOf];omega
      ·obtain rfl : j=c.os.length:=by omega
       have hj1:¬(c.os.length:Int) < (c.os.length:Int):=(by omega);clear qD hj;go_wp2_with fail;clear hj1 s2 t2
       go_loopw [8] (fun i wr=>∃j:Nat,j≤(len c.cr)∧i=.int .i64 j∧Hid (Below w0.heap.size w0 wr)) (fun i _=>(len c.cr) - (intOf i).toNat)
       case atStart=>exact⟨0,Nat.zero_le _,rfl,HB2.out⟩
       case round =>
        obtain⟨wp,hwp⟩:∃z,z=wr:=⟨_,rfl⟩;subst hwp;obtain⟨j,hj,rfl,HB3⟩:=hrel;obtain⟨s3,t3⟩:=S3.out wp HB3.out
        by_cases qD:j < (len c.cr)
        ·have hj1:(j:Int) < ((len c.cr):Int):=by omega
         have hj0:(0:Int)≤(j:Int):=(by omega);have BW:=hid (BB.out.trans (HB3.out.mono BB.out.size));obtain⟨x,hx⟩:∃x,(yv c.cr)[j]?=some x:=⟨_,List.getElem?_eq_getElem (by rw[yK];exact qD)⟩;obtain⟨y,hy,hxy⟩:=kG ECR.out hx;obtain⟨Bx,Ox,hpx,hX⟩:=(HC.out _ BW.out).cr.get hx;obtain⟨By,Oy,hpy,hY⟩:=(HD.out _ BW.out).cr.get hy;rw[hpx] at s3;rw[hpy] at t3;have hE:Pz.nr (⟨x.b,x.o,x.a,x.k⟩:Ch)=Pz.nr ⟨y.b,y.o,y.a,y.k⟩:=hxy.symm;obtain⟨⟨x0,x1,x2,x3⟩,hxx,hxo⟩:=hX;obtain⟨⟨y0,y1,y2,y3⟩,hyy,-⟩:=hY;have X0:=hid x0;have Y0:=hid y0;have X1:=hid x1;have Y1:=hid y1;have X2:=hid x2;have Y2:=hid y2;have X3:=hid x3;have Y3:=hid y3;have SX:=hid s3;have SY:=hid t3;have SE:Hid (∀dq os,Calls Tryz.prog 15 #[.agg #[.int .i64 x.a.op,.int .i64 x.a.num,.string x.a.name,.slice x.a.ptr (len x.k) x.a.cap],.agg #[.int .i64 y.a.op,.int .i64 y.a.num,.string y.a.name,.slice y.a.ptr (len y.k) y.a.cap]] (Sort.grow (redrawn wp dq) os) fun e w''=>e=.returned (.bool true)∧∃p:Regrown,w''=Sort.grow (redrawn wp p.d) p.os):=fun dq os=>Calls.regrown_of (jJ ⟨x.b,x.o,x.a,x.k⟩ ⟨y.b,y.o,y.a,y.k⟩ _ (ExAt.next hxx (below_regrown wp dq os)) (ExAt.next hyy (below_regrown wp dq os)) hxo hE);clear hx hy hpx hpy qD hxy hE hxx hyy hxo x0 y0 x1 y1 x2 y2 x3 y3;go_upto_region 23 with (fail);clear s3 t3;have es:=fun d os=>cell_regrown SX.out d os;have et:=fun d os=>cell_regrown SY.out d os;have ex0:=fun d os=>cell_regrown X0.out d os;have ey0:=fun d os=>cell_regrown Y0.out d os;have ex1:=fun d os=>cell_regrown X1.out d os;have ey1:=fun d os=>cell_regrown Y1.out d os;have ex2:=fun d os=>cell_regrown X2.out d os;have ey2:=fun d os=>cell_regrown Y2.out d os;have ex3:=fun d os=>cell_regrown X3.out d os;have ey3:=fun d os=>cell_regrown Y3.out d os;refine wp_region_quiet_below (by kernel_rfl) (by kernel_rfl) ?_
         repeat (quiet_step (with_reducible exact SE.out _ _))
         refine wpQuiet_nil ?_;intro _ hw';obtain⟨⟨dq,osq⟩,hw''⟩:=hw';subst hw'';have B9:=hid (HB3.out.trans ((below_regrown wp dq osq).mono HB3.out.size));clear es et ex0 ey0 ex1 ey1 ex2 ey2 ex3 ey3 SE SX SY X0 Y0 X1 Y1 X2 Y2 X3 Y3;generalize Sort.grow (redrawn wp dq) osq=w9 at *;go_wp2
         go_roundw
         case rel=>exact⟨j+1,by omega,by go_num,B9.out⟩
         case measure=>simp[intOf];omega
        ·have hjj : j=(len c.cr):=by omega
         have hj1:¬(j:Int) < ((len c.cr):Int):=(by omega);clear qD hj;go_wp2_with fail;clear hj1 s3 t3
         go_loopw [9] (fun i wr=>∃j:Nat,j≤c.ls.length∧i=.int .i64 j∧Hid (Below w0.heap.size w0 wr)) (fun i _=>c.ls.length - (intOf i).toNat)
         case atStart=>exact⟨0,Nat.zero_le _,rfl,HB3.out⟩
         case round =>
          obtain⟨wp,hwp⟩:∃z,z=wr:=⟨_,rfl⟩;subst hwp;obtain⟨j,hj,rfl,HB4⟩:=hrel;obtain⟨s4,t4⟩:=S4.out wp HB4.out
          by_cases qD:j < c.ls.length
          ·have hj1:(j:Int) < (c.ls.length:Int):=by omega
           have hj0:(0:Int)≤(j:Int):=(by omega);have BW:=hid (BB.out.trans (HB4.out.mono BB.out.size));obtain⟨x,hx⟩:∃x,c.ls[j]?=some x:=⟨_,List.getElem?_eq_getElem (by exact qD)⟩;have hy:d.ls[j]?=some x:=(by rw[ELS.out];exact hx);obtain⟨Bx,Ox,hpx,hX⟩:=(HC.out _ BW.out).ls.get hx;obtain⟨By,Oy,hpy,hY⟩:=(HD.out _ BW.out).ls.get hy;rw[hpx] at s4;rw[hpy] at t4;obtain⟨x0,x1,x2,x3,-⟩:=hX;obtain⟨y0,y1,y2,y3,-⟩:=hY;clear hx hy hpx hpy qD;go_upto_region 28 with (fail)
           go_quiet (fail)
           go_wp2
           go_roundw
           case rel=>exact⟨j+1,by omega,by go_num,below_drewN HB4.out _⟩
           case measure=>simp[intOf];omega
          ·obtain rfl:j=c.ls.length:=by omega
           have hj1:¬(c.ls.length:Int) < (c.ls.length:Int):=(by omega);clear qD hj;go_wp2_with fail;clear hj1 s4 t4
           go_loopw [10] (fun i wr=>∃j:Nat,j≤c.fs.length∧i=.int .i64 j∧Hid (Below w0.heap.size w0 wr)) (fun i _=>c.fs.length - (intOf i).toNat)
           case atStart=>exact⟨0,Nat.zero_le _,rfl,HB4.out⟩
           case round =>
            obtain⟨wp,hwp⟩:∃z,z=wr:=⟨_,rfl⟩;subst hwp;obtain⟨j,hj,rfl,HB5⟩:=hrel;obtain⟨s5,t5⟩:=S5.out wp HB5.out
            by_cases qD:j < c.fs.length
            ·have hj1:(j:Int) < (c.fs.length:Int):=by omega
             have hj0:(0:Int)≤(j:Int):=(by omega);have BW:=hid (BB.out.trans (HB5.out.mono BB.out.size));obtain⟨x,hx⟩:∃x,c.fs[j]?=some x:=⟨_,List.getElem?_eq_getElem (by exact qD)⟩;have hy:d.fs[j]?=some x:=(by rw[EFS.out];exact hx);obtain⟨Bx,Ox,hpx,hX⟩:=(HC.out _ BW.out).fs.get hx;obtain⟨By,Oy,hpy,hY⟩:=(HD.out _ BW.out).fs.get hy;rw[hpx] at s5;rw[hpy] at t5;obtain⟨x0,x1,x2,-⟩:=hX;obtain⟨y0,y1,y2,-⟩:=hY;clear hx hy hpx hpy qD;go_upto_region 33 with (fail)
             go_quiet (fail)
             go_wp2
             go_roundw
             case rel=>exact⟨j+1,by omega,by go_num,below_drewN HB5.out _⟩
             case measure=>simp[intOf];omega
            ·obtain rfl:j=c.fs.length:=by omega
             have hj1:¬(c.fs.length:Int) < (c.fs.length:Int):=(by omega);clear qD hj;go_wp2;go_ret;exact⟨rfl,BB.out.trans (HB5.out.mono BB.out.size)⟩
theorem Jt{t:Tk.T3}(h:VT t):OkT (qY t.kind t.text t.num) t.kind t.text t.num:=(kR t.kind t.text t.num).2 h
theorem zB(n:Int)(w:World)(ht:Tab w)(hn:0≤n∧n≤1000000):Calls Tryz.prog 51 #[.int .i64 n] w fun e w'=>e=.returned (.string (zg n))∧Below w.heap.size w w':=by
 have T:Hid (Calls Tryz.prog 69 #[.agg #[.int .i64 3,.string ⟨#[]⟩,.int .i64 n,.int .i64 0]] w fun e w'=>e=.returned (.string (zg n))∧Below w.heap.size w w'):=(ju 3 ⟨#[]⟩ n 0 w ht (by omega) (by omega) (by decide)).mono fun e w' h=>by
  obtain⟨⟨r,rfl,h1,-⟩,hb⟩:=h;rw[h1 (Jt (Fp.vt_dur hn))];exact⟨rfl,hb⟩
 clear ht hn;go_enter Tryz.func51,Tryz.ntmps51;go_wp2_with fail;refine T.out.mono ?_;rintro e w1 ⟨rfl,hb⟩;have B:=hid hb;clear hb;go_wp2;go_ret;exact⟨rfl,B.out⟩
theorem ue(n:Int)(w:World)(ht:Tab w)(hn:0≤n∧n≤1439):Calls Tryz.prog 52 #[.int .i64 n] w fun e w'=>e=.returned (.string (⟨#[64]⟩++ja n))∧Below w.heap.size w w':=by
 have T:Hid (Calls Tryz.prog 69 #[.agg #[.int .i64 4,.string ⟨#[]⟩,.int .i64 n,.int .i64 0]] w fun e w'=>e=.returned (.string (⟨#[64]⟩++ja n))∧Below w.heap.size w w'):=(ju 4 ⟨#[]⟩ n 0 w ht (by omega) (by omega) (by decide)).mono fun e w' h=>by
  obtain⟨⟨r,rfl,h1,-⟩,hb⟩:=h;rw[h1 (Jt (Fp.vt_clk hn))];exact⟨rfl,hb⟩
 clear ht hn;go_enter Tryz.func52,Tryz.ntmps52;go_wp2_with fail;refine T.out.mono ?_;rintro e w1 ⟨rfl,hb⟩;have B:=hid hb;clear hb;go_wp2;go_ret;exact⟨rfl,B.out⟩
theorem vG(n:Int)(w:World)(h:1≤n∧n≤3):Calls Tryz.prog 53 #[.int .i64 n] w fun e w'=>e=.returned (.string (Fp.scW n))∧Below w.heap.size w w':=by
 rcases(show n=1∨n=2∨n=3 by omega) with rfl|rfl|rfl
 all_goals
  clear h;go_enter Tryz.func53,Tryz.ntmps53;go_wp2;go_ret;exact⟨rfl,ba1⟩
end Go.Proofs.YtcejjdmnlejbaaaGreatDoor
