import Derived.Test.YtcejjdmnlejbaaaGreatDoorVSam
namespace Go.Proofs.YtcejjdmnlejbaaaGreatDoor
open Lib(hid)
set_option linter.unusedVariables false
set_option linter.unusedSimpArgs false
open Go.ChangeShapes Go.WideShapes Go.ChangeAt Go.RowKit
open Go.Deep (BT)
set_option maxHeartbeats 8000000
set_option maxRecDepth 100000
def jK:Fo→List Ch
 | .nil=>[]
 | .node b o a k r=>⟨b,o,a,k⟩ :: jK r
theorem jT(T:Fo):(jK T).length=len T:=by
 induction T with
 | nil=>rfl
 | node b o a k r _ ih=>simp only[jK,List.length_cons,ih,len]
theorem JA{w:World}{T:Fo}{b o:Nat}(h:FoAt w T b o)(hok:jV T){j:Nat}{x:Ch}(hj:(jK T)[j]?=some x):X4 w b (o+j * 4) x.b x.o x.a x.k:=by
 induction T generalizing o j with
 | nil=>cases hj
 | node b1 o1 a k r _ ih =>
   cases j with
   | zero =>
     obtain rfl:=Option.some.inj hj;rw[Nat.zero_mul,Nat.add_zero];exact⟨h.1,⟨h.2.1,h.2.2.1⟩,hok.1,hok.2.1⟩
   | succ j =>
     have:=ih h.2.2.2 hok.2.2 (j:=j) (by simpa [jK] using hj);rw[show o+(j+1) * 4=o+4+j * 4 by omega];exact this
theorem CrV.get{w:World}{T:Fo}{p:Option Addr}(h:CrV w T p){j:Nat}{x:Ch}(hj:(jK T)[j]?=some x):∃b o,p=some ⟨b,o,none⟩∧X4 w b (o+j * 4) x.b x.o x.a x.k:=by
 obtain⟨-,h1,b,o,h2,h3⟩:=h;exact⟨b,o,h2 (by rintro rfl;cases hj),JA h3 h1 hj⟩
structure SmC (c d:Ct):Prop where
 n0:d.rep=c.rep
 n1:d.rel=c.rel
 n2:d.con=c.con
 n3:d.sit=c.sit
 n4:d.lay=c.lay
 n5:d.nf=c.nf
 n6:d.nt=c.nt
 n7:d.gua=c.gua
 cs:d.cs.map (fun x=>(x.name,Pz.nr ⟨x.b,x.o,x.a,x.k⟩))=c.cs.map (fun x=>(x.name,Pz.nr ⟨x.b,x.o,x.a,x.k⟩))
 rs:d.rs.map (fun x=>(x.sc,x.name,Pz.nr ⟨x.b,x.o,x.a,x.k⟩))=c.rs.map (fun x=>(x.sc,x.name,Pz.nr ⟨x.b,x.o,x.a,x.k⟩))
 os:d.os.map (fun x=>(x.sc,Pz.nr ⟨x.b,x.o,x.a,x.k⟩))=c.os.map (fun x=>(x.sc,Pz.nr ⟨x.b,x.o,x.a,x.k⟩))
 cr:(jK d.cr).map Pz.nr=(jK c.cr).map Pz.nr
 ls:d.ls=c.ls
 fs:d.fs=c.fs
theorem k9{α β:Type}{f:α→β}{L M:List α}(h:M.map f=L.map f){j:Nat}{x:α}(hx:L[j]?=some x):∃y,M[j]?=some y∧f y=f x:=by
 have q:(M.map f)[j]?=(L.map f)[j]?:=by rw[h]
 rw[List.getElem?_map,List.getElem?_map,hx] at q;cases hm:M[j]? with
 | none=>rw[hm] at q;cases q
 | some y=>rw[hm] at q;exact⟨y,rfl,Option.some.inj q⟩
theorem j0{α β:Type}{f:α→β}{L M:List α}(h:M.map f=L.map f):M.length=L.length:=by
 have:=congrArg List.length h
 simpa using this
def vj(c:Ct)(p:Cp):Array Value:=#[.int .i64 c.rep,.int .i64 c.rel,.int .i64 c.con,.int .i64 c.sit,.int .i64 c.lay,.int .i64 c.nf,.int .i64 c.nt,.slice p.cs c.cs.length p.ccs,.slice p.rs c.rs.length p.crs,.slice p.os c.os.length p.cos,.slice p.cr (len c.cr) p.ccr,.slice p.ls c.ls.length p.cls,.slice p.fs c.fs.length p.cfs,.int .i64 c.gua]
def C14(W:World)(g:Nat)(A:Array Value):Prop:=∀i u,A[i]?=some u→W.cell? ⟨g,i,none⟩=some u
theorem C14.next{w W:World}{g:Nat}{A:Array Value}(h:C14 w g A)(hb:Below w.heap.size w W):C14 W g A:=fun i u hi=>by rw[hb.cell (block_lt_of_cell (h i u hi))];exact h i u hi
theorem vk(w:World)(A:Array Value)(t:TypeId):C14 (w.alloc (.cells A t)) w.heap.size A:=fun i u hi=>by rw[World.cell?_alloc_new];exact hi
theorem Qo(c d : Ct)(p q:Cp)(w:World)(hc:CtV w c p)(hd:CtV w d q)(h:SmC c d) :
 Calls Tryz.prog 19 #[.agg (vj c p),.agg (vj d q)] w fun e w'=>e=.returned (.bool true)∧Below w.heap.size w w':=by
 obtain⟨n0,n1,n2,n3,n4,n5,n6,n7,ecs,ers,eos,ecr,els,efs⟩:=h;have ECS:=hid ecs;have ERS:=hid ers;have EOS:=hid eos;have ECR:=hid ecr;have l0:d.cs.length=c.cs.length:=j0 ecs;have l1:d.rs.length=c.rs.length:=j0 ers;have l2:d.os.length=c.os.length:=j0 eos;have l3:len d.cr=len c.cr:=by rw[← jT,← jT];exact j0 ecr
 have l4:d.ls.length=c.ls.length:=by rw[els]
 have l5:d.fs.length=c.fs.length:=by rw[efs]
 have ELS:=hid els;have EFS:=hid efs;have b0:c.cs.length≤9223372036854775807:=hc.cs.1;have b1:c.rs.length≤9223372036854775807:=hc.rs.1;have b2:c.os.length≤9223372036854775807:=hc.os.1;have b3:len c.cr≤9223372036854775807:=hc.cr.1;have b4:c.ls.length≤9223372036854775807:=hc.ls.1;have b5:c.fs.length≤9223372036854775807:=hc.fs.1;have HC:Hid (∀W,Below w.heap.size w W→CtV W c p):=fun W hb=>hc.next hb
 have HD:Hid (∀W,Below w.heap.size w W→CtV W d q):=fun W hb=>hd.next hb
 have BA:Below w.heap.size w (w.alloc (.cells (vj c p) 43)):=(Below.refl _ _).alloc (Nat.le_refl _) _;have BB:Hid (Below w.heap.size w ((w.alloc (.cells (vj c p) 43)).alloc (.cells (vj d q) 43))):=BA.alloc (by simp) _;have CA:Hid (C14 ((w.alloc (.cells (vj c p) 43)).alloc (.cells (vj d q) 43)) w.heap.size (vj c p)):=(vk w (vj c p) _).next ((Below.refl _ _).alloc (Nat.le_refl _) _)
 have CB:Hid (C14 ((w.alloc (.cells (vj c p) 43)).alloc (.cells (vj d q) 43)) (w.heap.size+1) (vj d q)):=by
  have q:=vk (w.alloc (.cells (vj c p) 43)) (vj d q) 43;rw[World.size_alloc] at q;exact q
 unfold vj at BB CA CB;unfold vj;rw[n0,n1,n2,n3,n4,n5,n6,n7,l0,l1,l2,l3,l4,l5] at BB CA CB;rw[n0,n1,n2,n3,n4,n5,n6,n7,l0,l1,l2,l3,l4,l5];clear hc hd n0 n1 n2 n3 n4 n5 n6 n7 ecs ers eos ecr els efs l0 l1 l2 l3 l4 l5 BA;go_enter Tryz.func19,Tryz.ntmps19;go_upto_region 1 with (fail);obtain⟨ga,hga⟩:∃z,w.heap.size=z:=⟨_,rfl⟩;rw[hga] at CA CB;have HGA:=hid hga;obtain⟨w0,hw0⟩:∃z,((w.alloc (.cells #[.int .i64 c.rep,.int .i64 c.rel,.int .i64 c.con,.int .i64 c.sit,.int .i64 c.lay,.int .i64 c.nf,.int .i64 c.nt,.slice p.cs c.cs.length p.ccs,.slice p.rs c.rs.length p.crs,.slice p.os c.os.length p.cos,.slice p.cr (len c.cr) p.ccr,.slice p.ls c.ls.length p.cls,.slice p.fs c.fs.length p.cfs,.int .i64 c.gua] 43)).alloc (.cells #[.int .i64 c.rep,.int .i64 c.rel,.int .i64 c.con,.int .i64 c.sit,.int .i64 c.lay,.int .i64 c.nf,.int .i64 c.nt,.slice q.cs c.cs.length q.ccs,.slice q.rs c.rs.length q.crs,.slice q.os c.os.length q.cos,.slice q.cr (len c.cr) q.ccr,.slice q.ls c.ls.length q.cls,.slice q.fs c.fs.length q.cfs,.int .i64 c.gua] 43))=z:=⟨_,rfl⟩;have EW:=hid hw0;rw[hw0] at BB CA CB
 have A14:Hid (∀W,Below w0.heap.size w0 W→W.cell? ⟨ga,0,none⟩=some (.int .i64 c.rep)∧W.cell? ⟨ga,1,none⟩=some (.int .i64 c.rel)∧W.cell? ⟨ga,2,none⟩=some (.int .i64 c.con)∧W.cell? ⟨ga,3,none⟩=some (.int .i64 c.sit)∧W.cell? ⟨ga,4,none⟩=some (.int .i64 c.lay)∧W.cell? ⟨ga,5,none⟩=some (.int .i64 c.nf)∧W.cell? ⟨ga,6,none⟩=some (.int .i64 c.nt)∧W.cell? ⟨ga,13,none⟩=some (.int .i64 c.gua)∧W.cell? ⟨ga+1,0,none⟩=some (.int .i64 c.rep)∧W.cell? ⟨ga+1,1,none⟩=some (.int .i64 c.rel)∧W.cell? ⟨ga+1,2,none⟩=some (.int .i64 c.con)∧W.cell? ⟨ga+1,3,none⟩=some (.int .i64 c.sit)∧W.cell? ⟨ga+1,4,none⟩=some (.int .i64 c.lay)∧W.cell? ⟨ga+1,5,none⟩=some (.int .i64 c.nf)∧W.cell? ⟨ga+1,6,none⟩=some (.int .i64 c.nt)∧W.cell? ⟨ga+1,13,none⟩=some (.int .i64 c.gua)):=fun W hb=>by
  refine⟨?_,?_,?_,?_,?_,?_,?_,?_,?_,?_,?_,?_,?_,?_,?_,?_⟩
  all_goals first
   | exact qb (CA.out _ _ (by rfl)) hb
   | exact qb (CB.out _ _ (by rfl)) hb
 have S0:Hid (∀W,Below w0.heap.size w0 W→W.cell? ⟨ga,7,none⟩=some (.slice p.cs c.cs.length p.ccs)∧W.cell? ⟨ga+1,7,none⟩=some (.slice q.cs c.cs.length q.ccs)):=fun W hb=>⟨qb (CA.out 7 _ (by rfl)) hb,qb (CB.out 7 _ (by rfl)) hb⟩;have S1:Hid (∀W,Below w0.heap.size w0 W→W.cell? ⟨ga,8,none⟩=some (.slice p.rs c.rs.length p.crs)∧W.cell? ⟨ga+1,8,none⟩=some (.slice q.rs c.rs.length q.crs)):=fun W hb=>⟨qb (CA.out 8 _ (by rfl)) hb,qb (CB.out 8 _ (by rfl)) hb⟩;have S2:Hid (∀W,Below w0.heap.size w0 W→W.cell? ⟨ga,9,none⟩=some (.slice p.os c.os.length p.cos)∧W.cell? ⟨ga+1,9,none⟩=some (.slice q.os c.os.length q.cos)):=fun W hb=>⟨qb (CA.out 9 _ (by rfl)) hb,qb (CB.out 9 _ (by rfl)) hb⟩;have S3:Hid (∀W,Below w0.heap.size w0 W→W.cell? ⟨ga,10,none⟩=some (.slice p.cr (len c.cr) p.ccr)∧W.cell? ⟨ga+1,10,none⟩=some (.slice q.cr (len c.cr) q.ccr)):=fun W hb=>⟨qb (CA.out 10 _ (by rfl)) hb,qb (CB.out 10 _ (by rfl)) hb⟩;have S4:Hid (∀W,Below w0.heap.size w0 W→W.cell? ⟨ga,11,none⟩=some (.slice p.ls c.ls.length p.cls)∧W.cell? ⟨ga+1,11,none⟩=some (.slice q.ls c.ls.length q.cls)):=fun W hb=>⟨qb (CA.out 11 _ (by rfl)) hb,qb (CB.out 11 _ (by rfl)) hb⟩;have S5:Hid (∀W,Below w0.heap.size w0 W→W.cell? ⟨ga,12,none⟩=some (.slice p.fs c.fs.length p.cfs)∧W.cell? ⟨ga+1,12,none⟩=some (.slice q.fs c.fs.length q.cfs)):=fun W hb=>⟨qb (CA.out 12 _ (by rfl)) hb,qb (CB.out 12 _ (by rfl)) hb⟩;clear CA CB;simp only[hga] at hw0 ⊢
 try rw[hw0]
 clear hw0 hga;obtain⟨a0,a1,a2,a3,a4,a5,a6,a7,d0,d1,d2,d3,d4,d5,d6,d7⟩:=A14.out w0 (Below.refl _ _);obtain⟨s0,t0⟩:=S0.out w0 (Below.refl _ _);obtain⟨s1,t1⟩:=S1.out w0 (Below.refl _ _);obtain⟨s2,t2⟩:=S2.out w0 (Below.refl _ _);obtain⟨s3,t3⟩:=S3.out w0 (Below.refl _ _);obtain⟨s4,t4⟩:=S4.out w0 (Below.refl _ _);obtain⟨s5,t5⟩:=S5.out w0 (Below.refl _ _);go_upto_region 5 with (fail);clear a0 a1 a2 a3 a4 a5 a6 a7 d0 d1 d2 d3 d4 d5 d6 d7 s0 t0 s1 t1 s2 t2 s3 t3 s4 t4 s5 t5 A14;go_wp2_with fail
 go_loopw [5] (fun i wr=>∃j:Nat,j≤c.cs.length∧i=.int .i64 j∧Hid (Below w0.heap.size w0 wr)) (fun i _=>c.cs.length - (intOf i).toNat)
 case atStart=>exact⟨0,Nat.zero_le _,rfl,Below.refl _ _⟩
 case round =>
  obtain⟨wp,hwp⟩:∃z,z=wr:=⟨_,rfl⟩;subst hwp;obtain⟨j,hj,rfl,HB0⟩:=hrel;obtain⟨s0,t0⟩:=S0.out wp HB0.out
  by_cases qN:j < c.cs.length
  ·have hj1:(j:Int) < (c.cs.length:Int):=by omega
   have hj0:(0:Int)≤(j:Int):=(by omega);have BW:=hid (BB.out.trans (HB0.out.mono BB.out.size));obtain⟨x,hx⟩:∃x,c.cs[j]?=some x:=⟨_,List.getElem?_eq_getElem (by exact qN)⟩;obtain⟨y,hy,hxy⟩:=k9 ECS.out hx;obtain⟨Bx,Ox,hpx,hX⟩:=(HC.out _ BW.out).cs.get hx;obtain⟨By,Oy,hpy,hY⟩:=(HD.out _ BW.out).cs.get hy;rw[hpx] at s0;rw[hpy] at t0;have hnm:y.name=x.name:=congrArg Prod.fst hxy;have hE:Pz.nr (⟨x.b,x.o,x.a,x.k⟩:Ch)=Pz.nr ⟨y.b,y.o,y.a,y.k⟩:=(congrArg Prod.snd hxy).symm;obtain⟨x0,⟨⟨x1,x2,x3,x4⟩,hxx,hxo⟩,-⟩:=hX;obtain⟨y0,⟨⟨y1,y2,y3,y4⟩,hyy,-⟩,-⟩:=hY;rw[hnm] at y0
   skip
   have X0:=hid x0;have Y0:=hid y0;have X1:=hid x1;have Y1:=hid y1;have X2:=hid x2;have Y2:=hid y2;have X3:=hid x3;have Y3:=hid y3;have X4:=hid x4;have Y4:=hid y4;have SX:=hid s0;have SY:=hid t0;have SE:Hid (∀dq os,Calls Tryz.prog 15 #[.agg #[.int .i64 x.a.op,.int .i64 x.a.num,.string x.a.name,.slice x.a.ptr (len x.k) x.a.cap],.agg #[.int .i64 y.a.op,.int .i64 y.a.num,.string y.a.name,.slice y.a.ptr (len y.k) y.a.cap]] (Sort.grow (redrawn wp dq) os) fun e w''=>e=.returned (.bool true)∧∃p:Regrown,w''=Sort.grow (redrawn wp p.d) p.os):=fun dq os=>Calls.regrown_of (jD ⟨x.b,x.o,x.a,x.k⟩ ⟨y.b,y.o,y.a,y.k⟩ _ (ExAt.next hxx (below_regrown wp dq os)) (ExAt.next hyy (below_regrown wp dq os)) hxo hE);clear hx hy hpx hpy qN hxy hE hxx hyy hxo x0 y0 x1 y1 x2 y2 x3 y3 x4 y4 hnm;go_upto_region 8 with (fail);clear s0 t0;have es:=fun d os=>cell_regrown SX.out d os;have et:=fun d os=>cell_regrown SY.out d os;have ex0:=fun d os=>cell_regrown X0.out d os;have ey0:=fun d os=>cell_regrown Y0.out d os;have ex1:=fun d os=>cell_regrown X1.out d os;have ey1:=fun d os=>cell_regrown Y1.out d os;have ex2:=fun d os=>cell_regrown X2.out d os;have ey2:=fun d os=>cell_regrown Y2.out d os;have ex3:=fun d os=>cell_regrown X3.out d os;have ey3:=fun d os=>cell_regrown Y3.out d os;have ex4:=fun d os=>cell_regrown X4.out d os;have ey4:=fun d os=>cell_regrown Y4.out d os;refine wp_region_quiet_below (by kernel_rfl) (by kernel_rfl) ?_
   repeat (quiet_step (with_reducible exact SE.out _ _))
   refine wpQuiet_nil ?_;intro _ hw';obtain⟨⟨dq,osq⟩,hw''⟩:=hw';subst hw'';have B9:=hid (HB0.out.trans ((below_regrown wp dq osq).mono HB0.out.size));clear es et ex0 ey0 ex1 ey1 ex2 ey2 ex3 ey3 ex4 ey4 SE SX SY X0 Y0 X1 Y1 X2 Y2 X3 Y3 X4 Y4;generalize Sort.grow (redrawn wp dq) osq=w9 at *;go_wp2
   go_roundw
   case rel=>exact⟨j+1,by omega,by go_num,B9.out⟩
   case measure=>simp[intOf];omega
  ·obtain rfl : j = c.cs.length:=by omega
   have hj1:¬(c.cs.length:Int) < (c.cs.length:Int):=(by omega);clear qN hj;go_wp2_with fail;clear hj1 s0 t0
   go_loopw [6] (fun i wr=>∃j:Nat,j≤c.rs.length∧i=.int .i64 j∧Hid (Below w0.heap.size w0 wr)) (fun i _=>c.rs.length - (intOf i).toNat)
   case atStart=>exact⟨0,Nat.zero_le _,rfl,HB0.out⟩
   case round =>
    obtain⟨wp,hwp⟩:∃z,z=wr:=⟨_,rfl⟩;subst hwp;obtain⟨j,hj,rfl,HB1⟩:=hrel;obtain⟨s1,t1⟩:=S1.out wp HB1.out
    by_cases qN:j < c.rs.length
    ·have hj1:(j:Int) < (c.rs.length:Int):=by omega
     have hj0:(0:Int)≤(j:Int):=(by omega);have BW:=hid (BB.out.trans (HB1.out.mono BB.out.size));obtain⟨x,hx⟩:∃x,c.rs[j]?=some x:=⟨_,List.getElem?_eq_getElem (by exact qN)⟩;obtain⟨y,hy,hxy⟩:=k9 ERS.out hx;obtain⟨Bx,Ox,hpx,hX⟩:=(HC.out _ BW.out).rs.get hx;obtain⟨By,Oy,hpy,hY⟩:=(HD.out _ BW.out).rs.get hy;rw[hpx] at s1;rw[hpy] at t1;have hsc:y.sc=x.sc:=congrArg Prod.fst hxy;have hnm:y.name=x.name:=congrArg (fun z=>z.2.1) hxy;have hE:Pz.nr (⟨x.b,x.o,x.a,x.k⟩:Ch)=Pz.nr ⟨y.b,y.o,y.a,y.k⟩:=(congrArg (fun z=>z.2.2) hxy).symm;obtain⟨x0,x5,⟨⟨x1,x2,x3,x4⟩,hxx,hxo⟩,-⟩:=hX;obtain⟨y0,y5,⟨⟨y1,y2,y3,y4⟩,hyy,-⟩,-⟩:=hY;rw[hsc] at y0;rw[hnm] at y5;have X0:=hid x0;have Y0:=hid y0;have X1:=hid x1;have Y1:=hid y1;have X2:=hid x2;have Y2:=hid y2;have X3:=hid x3;have Y3:=hid y3;have X4:=hid x4;have Y4:=hid y4;have X5:=hid x5;have Y5:=hid y5;have SX:=hid s1;have SY:=hid t1;have SE:Hid (∀dq os,Calls Tryz.prog 15 #[.agg #[.int .i64 x.a.op,.int .i64 x.a.num,.string x.a.name,.slice x.a.ptr (len x.k) x.a.cap],.agg #[.int .i64 y.a.op,.int .i64 y.a.num,.string y.a.name,.slice y.a.ptr (len y.k) y.a.cap]] (Sort.grow (redrawn wp dq) os) fun e w''=>e=.returned (.bool true)∧∃p:Regrown,w''=Sort.grow (redrawn wp p.d) p.os):=fun dq os=>Calls.regrown_of (jD ⟨x.b,x.o,x.a,x.k⟩ ⟨y.b,y.o,y.a,y.k⟩ _ (ExAt.next hxx (below_regrown wp dq os)) (ExAt.next hyy (below_regrown wp dq os)) hxo hE);clear hx hy hpx hpy qN hxy hE hxx hyy hxo x0 y0 x1 y1 x2 y2 x3 y3 x4 y4 x5 y5 hnm hsc;go_upto_region 13 with (fail);clear s1 t1;have es:=fun d os=>cell_regrown SX.out d os;have et:=fun d os=>cell_regrown SY.out d os;have ex0:=fun d os=>cell_regrown X0.out d os;have ey0:=fun d os=>cell_regrown Y0.out d os;have ex1:=fun d os=>cell_regrown X1.out d os;have ey1:=fun d os=>cell_regrown Y1.out d os;have ex2:=fun d os=>cell_regrown X2.out d os;have ey2:=fun d os=>cell_regrown Y2.out d os;have ex3:=fun d os=>cell_regrown X3.out d os;have ey3:=fun d os=>cell_regrown Y3.out d os;have ex4:=fun d os=>cell_regrown X4.out d os;have ey4:=fun d os=>cell_regrown Y4.out d os;have ex5:=fun d os=>cell_regrown X5.out d os;have ey5:=fun d os=>cell_regrown Y5.out d os;refine wp_region_quiet_below (by kernel_rfl) (by kernel_rfl) ?_
     repeat (quiet_step (with_reducible exact SE.out _ _))
     refine wpQuiet_nil ?_;intro _ hw';obtain⟨⟨dq,osq⟩,hw''⟩:=hw';subst hw'';have B9:=hid (HB1.out.trans ((below_regrown wp dq osq).mono HB1.out.size));clear es et ex0 ey0 ex1 ey1 ex2 ey2 ex3 ey3 ex4 ey4 ex5 ey5 SE SX SY X0 Y0 X1 Y1 X2 Y2 X3 Y3 X4 Y4 X5 Y5;generalize Sort.grow (redrawn wp dq) osq=w9 at *;go_wp2
     go_roundw
     case rel=>exact⟨j+1,by omega,by go_num,B9.out⟩
     case measure=>simp[intOf];omega
    ·obtain rfl : j = c.rs.length:=by omega
     have hj1:¬(c.rs.length:Int) < (c.rs.length:Int):=(by omega);clear qN hj;go_wp2_with fail;clear hj1 s1 t1
     go_loopw [7] (fun i wr=>∃j:Nat,j≤c.os.length∧i=.int .i64 j∧Hid (Below w0.heap.size w0 wr)) (fun i _=>c.os.length - (intOf i).toNat)
     case atStart=>exact⟨0,Nat.zero_le _,rfl,HB1.out⟩
     case round =>
      obtain⟨wp,hwp⟩:∃z,z=wr:=⟨_,rfl⟩;subst hwp;obtain⟨j,hj,rfl,HB2⟩:=hrel;obtain⟨s2,t2⟩:=S2.out wp HB2.out
      by_cases qN:j < c.os.length
      ·have hj1:(j:Int) < (c.os.length:Int):=by omega
       have hj0:(0:Int)≤(j:Int):=(by omega);have BW:=hid (BB.out.trans (HB2.out.mono BB.out.size));obtain⟨x,hx⟩:∃x,c.os[j]?=some x:=⟨_,List.getElem?_eq_getElem (by exact qN)⟩;obtain⟨y,hy,hxy⟩:=k9 EOS.out hx;obtain⟨Bx,Ox,hpx,hX⟩:=(HC.out _ BW.out).os.get hx;obtain⟨By,Oy,hpy,hY⟩:=(HD.out _ BW.out).os.get hy;rw[hpx] at s2;rw[hpy] at t2;have hsc:y.sc=x.sc:=congrArg Prod.fst hxy;have hE:Pz.nr (⟨x.b,x.o,x.a,x.k⟩:Ch)=Pz.nr ⟨y.b,y.o,y.a,y.k⟩:=(congrArg Prod.snd hxy).symm;obtain⟨x0,⟨⟨x1,x2,x3,x4⟩,hxx,hxo⟩,-⟩:=hX;obtain⟨y0,⟨⟨y1,y2,y3,y4⟩,hyy,-⟩,-⟩:=hY;rw[hsc] at y0
       skip
       have X0:=hid x0;have Y0:=hid y0;have X1:=hid x1;have Y1:=hid y1;have X2:=hid x2;have Y2:=hid y2;have X3:=hid x3;have Y3:=hid y3;have X4:=hid x4;have Y4:=hid y4;have SX:=hid s2;have SY:=hid t2;have SE:Hid (∀dq os,Calls Tryz.prog 15 #[.agg #[.int .i64 x.a.op,.int .i64 x.a.num,.string x.a.name,.slice x.a.ptr (len x.k) x.a.cap],.agg #[.int .i64 y.a.op,.int .i64 y.a.num,.string y.a.name,.slice y.a.ptr (len y.k) y.a.cap]] (Sort.grow (redrawn wp dq) os) fun e w''=>e=.returned (.bool true)∧∃p:Regrown,w''=Sort.grow (redrawn wp p.d) p.os):=fun dq os=>Calls.regrown_of (jD ⟨x.b,x.o,x.a,x.k⟩ ⟨y.b,y.o,y.a,y.k⟩ _ (ExAt.next hxx (below_regrown wp dq os)) (ExAt.next hyy (below_regrown wp dq os)) hxo hE);clear hx hy hpx hpy qN hxy hE hxx hyy hxo x0 y0 x1 y1 x2 y2 x3 y3 x4 y4 hsc;go_upto_region 18 with (fail);clear s2 t2;have es:=fun d os=>cell_regrown SX.out d os;have et:=fun d os=>cell_regrown SY.out d os;have ex0:=fun d os=>cell_regrown X0.out d os;have ey0:=fun d os=>cell_regrown Y0.out d os;have ex1:=fun d os=>cell_regrown X1.out d os;have ey1:=fun d os=>cell_regrown Y1.out d os;have ex2:=fun d os=>cell_regrown X2.out d os;have ey2:=fun d os=>cell_regrown Y2.out d os;have ex3:=fun d os=>cell_regrown X3.out d os;have ey3:=fun d os=>cell_regrown Y3.out d os;have ex4:=fun d os=>cell_regrown X4.out d os;have ey4:=fun d os=>cell_regrown Y4.out d os;refine wp_region_quiet_below (by kernel_rfl) (by kernel_rfl) ?_
       repeat (quiet_step (with_reducible exact SE.out _ _))
       refine wpQuiet_nil ?_;intro _ hw';obtain⟨⟨dq,osq⟩,hw''⟩:=hw';subst hw'';have B9:=hid (HB2.out.trans ((below_regrown wp dq osq).mono HB2.out.size));clear es et ex0 ey0 ex1 ey1 ex2 ey2 ex3 ey3 ex4 ey4 SE SX SY X0 Y0 X1 Y1 X2 Y2 X3 Y3 X4 Y4;generalize Sort.grow (redrawn wp dq) osq=w9 at *;go_wp2
       go_roundw
       case rel=>exact⟨j+1,by omega,by go_num,B9.out⟩
       case measure=>simp[intOf];omega
      ·obtain rfl : j=c.os.length:=by omega
       have hj1:¬(c.os.length:Int) < (c.os.length:Int):=(by omega);clear qN hj;go_wp2_with fail;clear hj1 s2 t2
       go_loopw [8] (fun i wr=>∃j:Nat,j≤(len c.cr)∧i=.int .i64 j∧Hid (Below w0.heap.size w0 wr)) (fun i _=>(len c.cr) - (intOf i).toNat)
       case atStart=>exact⟨0,Nat.zero_le _,rfl,HB2.out⟩
       case round =>
        obtain⟨wp,hwp⟩:∃z,z=wr:=⟨_,rfl⟩;subst hwp;obtain⟨j,hj,rfl,HB3⟩:=hrel;obtain⟨s3,t3⟩:=S3.out wp HB3.out
        by_cases qN:j < (len c.cr)
        ·have hj1:(j:Int) < ((len c.cr):Int):=by omega
         have hj0:(0:Int)≤(j:Int):=(by omega);have BW:=hid (BB.out.trans (HB3.out.mono BB.out.size));obtain⟨x,hx⟩:∃x,(jK c.cr)[j]?=some x:=⟨_,List.getElem?_eq_getElem (by rw[jT];exact qN)⟩;obtain⟨y,hy,hxy⟩:=k9 ECR.out hx;obtain⟨Bx,Ox,hpx,hX⟩:=(HC.out _ BW.out).cr.get hx;obtain⟨By,Oy,hpy,hY⟩:=(HD.out _ BW.out).cr.get hy;rw[hpx] at s3;rw[hpy] at t3;have hE:Pz.nr (⟨x.b,x.o,x.a,x.k⟩:Ch)=Pz.nr ⟨y.b,y.o,y.a,y.k⟩:=hxy.symm;obtain⟨⟨x0,x1,x2,x3⟩,hxx,hxo⟩:=hX;obtain⟨⟨y0,y1,y2,y3⟩,hyy,-⟩:=hY;have X0:=hid x0;have Y0:=hid y0;have X1:=hid x1;have Y1:=hid y1;have X2:=hid x2;have Y2:=hid y2;have X3:=hid x3;have Y3:=hid y3;have SX:=hid s3;have SY:=hid t3;have SE:Hid (∀dq os,Calls Tryz.prog 15 #[.agg #[.int .i64 x.a.op,.int .i64 x.a.num,.string x.a.name,.slice x.a.ptr (len x.k) x.a.cap],.agg #[.int .i64 y.a.op,.int .i64 y.a.num,.string y.a.name,.slice y.a.ptr (len y.k) y.a.cap]] (Sort.grow (redrawn wp dq) os) fun e w''=>e=.returned (.bool true)∧∃p:Regrown,w''=Sort.grow (redrawn wp p.d) p.os):=fun dq os=>Calls.regrown_of (jD ⟨x.b,x.o,x.a,x.k⟩ ⟨y.b,y.o,y.a,y.k⟩ _ (ExAt.next hxx (below_regrown wp dq os)) (ExAt.next hyy (below_regrown wp dq os)) hxo hE);clear hx hy hpx hpy qN hxy hE hxx hyy hxo x0 y0 x1 y1 x2 y2 x3 y3;go_upto_region 23 with (fail);clear s3 t3;have es:=fun d os=>cell_regrown SX.out d os;have et:=fun d os=>cell_regrown SY.out d os;have ex0:=fun d os=>cell_regrown X0.out d os;have ey0:=fun d os=>cell_regrown Y0.out d os;have ex1:=fun d os=>cell_regrown X1.out d os;have ey1:=fun d os=>cell_regrown Y1.out d os;have ex2:=fun d os=>cell_regrown X2.out d os;have ey2:=fun d os=>cell_regrown Y2.out d os;have ex3:=fun d os=>cell_regrown X3.out d os;have ey3:=fun d os=>cell_regrown Y3.out d os;refine wp_region_quiet_below (by kernel_rfl) (by kernel_rfl) ?_
         repeat (quiet_step (with_reducible exact SE.out _ _))
         refine wpQuiet_nil ?_;intro _ hw';obtain⟨⟨dq,osq⟩,hw''⟩:=hw';subst hw'';have B9:=hid (HB3.out.trans ((below_regrown wp dq osq).mono HB3.out.size));clear es et ex0 ey0 ex1 ey1 ex2 ey2 ex3 ey3 SE SX SY X0 Y0 X1 Y1 X2 Y2 X3 Y3;generalize Sort.grow (redrawn wp dq) osq=w9 at *;go_wp2
         go_roundw
         case rel=>exact⟨j+1,by omega,by go_num,B9.out⟩
         case measure=>simp[intOf];omega
        ·have hjj : j=(len c.cr):=by omega
         have hj1:¬(j:Int) < ((len c.cr):Int):=(by omega);clear qN hj;go_wp2_with fail;clear hj1 s3 t3
         go_loopw [9] (fun i wr=>∃j:Nat,j≤c.ls.length∧i=.int .i64 j∧Hid (Below w0.heap.size w0 wr)) (fun i _=>c.ls.length - (intOf i).toNat)
         case atStart=>exact⟨0,Nat.zero_le _,rfl,HB3.out⟩
         case round =>
          obtain⟨wp,hwp⟩:∃z,z=wr:=⟨_,rfl⟩;subst hwp;obtain⟨j,hj,rfl,HB4⟩:=hrel;obtain⟨s4,t4⟩:=S4.out wp HB4.out
          by_cases qN:j < c.ls.length
          ·have hj1:(j:Int) < (c.ls.length:Int):=by omega
           have hj0:(0:Int)≤(j:Int):=(by omega);have BW:=hid (BB.out.trans (HB4.out.mono BB.out.size));obtain⟨x,hx⟩:∃x,c.ls[j]?=some x:=⟨_,List.getElem?_eq_getElem (by exact qN)⟩;have hy:d.ls[j]?=some x:=(by rw[ELS.out];exact hx);obtain⟨Bx,Ox,hpx,hX⟩:=(HC.out _ BW.out).ls.get hx;obtain⟨By,Oy,hpy,hY⟩:=(HD.out _ BW.out).ls.get hy;rw[hpx] at s4;rw[hpy] at t4;obtain⟨x0,x1,x2,x3,-⟩:=hX;obtain⟨y0,y1,y2,y3,-⟩:=hY;clear hx hy hpx hpy qN;go_upto_region 28 with (fail)
           go_quiet (fail)
           go_wp2
           go_roundw
           case rel=>exact⟨j+1,by omega,by go_num,below_drewN HB4.out _⟩
           case measure=>simp[intOf];omega
          ·obtain rfl:j=c.ls.length:=by omega
           have hj1:¬(c.ls.length:Int) < (c.ls.length:Int):=(by omega);clear qN hj;go_wp2_with fail;clear hj1 s4 t4
           go_loopw [10] (fun i wr=>∃j:Nat,j≤c.fs.length∧i=.int .i64 j∧Hid (Below w0.heap.size w0 wr)) (fun i _=>c.fs.length - (intOf i).toNat)
           case atStart=>exact⟨0,Nat.zero_le _,rfl,HB4.out⟩
           case round =>
            obtain⟨wp,hwp⟩:∃z,z=wr:=⟨_,rfl⟩;subst hwp;obtain⟨j,hj,rfl,HB5⟩:=hrel;obtain⟨s5,t5⟩:=S5.out wp HB5.out
            by_cases qN:j < c.fs.length
            ·have hj1:(j:Int) < (c.fs.length:Int):=by omega
             have hj0:(0:Int)≤(j:Int):=(by omega);have BW:=hid (BB.out.trans (HB5.out.mono BB.out.size));obtain⟨x,hx⟩:∃x,c.fs[j]?=some x:=⟨_,List.getElem?_eq_getElem (by exact qN)⟩;have hy:d.fs[j]?=some x:=(by rw[EFS.out];exact hx);obtain⟨Bx,Ox,hpx,hX⟩:=(HC.out _ BW.out).fs.get hx;obtain⟨By,Oy,hpy,hY⟩:=(HD.out _ BW.out).fs.get hy;rw[hpx] at s5;rw[hpy] at t5;obtain⟨x0,x1,x2,-⟩:=hX;obtain⟨y0,y1,y2,-⟩:=hY;clear hx hy hpx hpy qN;go_upto_region 33 with (fail)
             go_quiet (fail)
             go_wp2
             go_roundw
             case rel=>exact⟨j+1,by omega,by go_num,below_drewN HB5.out _⟩
             case measure=>simp[intOf];omega
            ·obtain rfl:j=c.fs.length:=by omega
             have hj1:¬(c.fs.length:Int) < (c.fs.length:Int):=(by omega);clear qN hj;go_wp2;go_ret;exact⟨rfl,BB.out.trans (HB5.out.mono BB.out.size)⟩
namespace Pz
end Pz
def awG:ByteArray:=⟨#[49,32,43,32,50,32,42,32,108,101,103,115]⟩
theorem Un:Pz.pxT awG=(Pz.tn 8 [Pz.lf 1 1 ⟨#[]⟩,Pz.tn 10 [Pz.lf 1 2 ⟨#[]⟩,Pz.lf 6 0 ⟨#[108,101,103,115]⟩]],0,0):=by kernel_rfl
theorem JT{c x y z:Ch}(h:Pz.nr c=Pz.tn 8 [x,Pz.tn 10 [y,z]]):c.a.op=8∧∃b1 o1 a1 k1 b2 o2 a2 k2,c.k=.node b1 o1 a1 k1 (.node b2 o2 a2 k2 .nil)∧a2.op=10:=by
 obtain⟨b,o,a,k⟩:=c;unfold Pz.nr Pz.tn at h;injection h with n1 n2 n3 n4
 injection n3 with m1 m2 m3
 refine⟨m1,?_⟩;cases k with
 | nil=>simp[Pz.nrm,qH] at n4
 | node b1 o1 a1 k1 r =>
   simp only[Pz.nrm,qH] at n4;injection n4 with q1 q2 q3 q4 q5
   cases r with
   | nil=>simp[Pz.nrm] at q5
   | node b2 o2 a2 k2 r2 =>
     simp only[Pz.nrm] at q5;injection q5 with p1 p2 p3 p4 p5
     cases r2 with
     | nil =>
       injection p3 with t1 t2 t3
       exact⟨b1,o1,a1,k1,b2,o2,a2,k2,rfl,t1⟩
     | node=>simp[Pz.nrm] at p5
theorem kg(w:World):Calls Tryz.prog 9 #[] w fun e w'=>e=.returned (.bool true)∧Below w.heap.size w w':=by
 go_enter Tryz.func9,Tryz.ntmps9;go_wp2_with fail;refine(Qt awG w (by decide)).mono ?_;rintro e w1 ⟨c,rfl,hc,hx,hb⟩;rw[Un] at hc ⊢;dsimp only at hc ⊢;obtain⟨h8,b1,o1,a1,k1,b2,o2,a2,k2,hk,h10⟩:=JT hc;have B:=hid hb;obtain⟨b,o,a,k⟩:=c;dsimp only at h8 hk hx ⊢;subst hk;obtain⟨op,num,name,ptr,cap⟩:=a;dsimp only at h8 hx ⊢;subst h8;obtain⟨hp,hf⟩:=hx;obtain rfl:ptr=some ⟨b,o,none⟩:=hp (by simp);obtain⟨-,-,-,⟨d0,d1,d2,d3⟩,-⟩:=hf;rw[h10] at d0;have hl:len (BT.node b1 o1 a1 k1 (BT.node b2 o2 a2 k2 .nil))=2:=rfl;rw[hl];have hbl:=block_lt_of_cell d0;simp at hbl;clear hc hb hp d1 d2 d3 h10 hl;go_wp2;go_ret;exact⟨rfl,by first|exact B.out.alloc B.out.size _|exact B.out⟩
theorem xY{α β:Type}{f:α→β}{L M:List α}(h:M.map f=L.map f){j:Nat}(hx:L[j]?=none):M[j]?=none:=by
 rw[List.getElem?_eq_none_iff] at hx ⊢;rw[j0 h];exact hx
theorem kx{a a':Nd}{k k':Fo}{b o b' o':Nat}(h:Pz.nr ⟨b',o',a',k'⟩=Pz.nr ⟨b,o,a,k⟩):yF a' k'=yF a k:=by
 have h1:=Pz.val_nr ⟨b',o',a',k'⟩;have h2:=Pz.val_nr ⟨b,o,a,k⟩;rw[h] at h1;exact h1.symm.trans h2
theorem ux{α β γ:Type}{f:α→β}(g:β→γ){L M:List α}(h:M.map f=L.map f)(j:Nat):(M.take j).map (fun x=>g (f x))=(L.take j).map (fun x=>g (f x)):=by
 have e:∀N:List α,(N.take j).map (fun x=>g (f x))=((N.map f).take j).map g:=fun N=>by rw[← List.map_take,List.map_map];rfl
 rw[e,e,h]
theorem QK{c d:List Cn}(h:d.map (fun x=>(x.name,Pz.nr ⟨x.b,x.o,x.a,x.k⟩))=c.map (fun x=>(x.name,Pz.nr ⟨x.b,x.o,x.a,x.k⟩))):zm d=zm c:=by
 funext j
 unfold zm;cases hx:c[j]? with
 | none=>rw[xY h hx]
 | some x =>
   obtain⟨y,hy,e⟩:=k9 h hx;rw[hy];dsimp only;have e1:y.name=x.name:=congrArg Prod.fst e;have e2:=ux (fun z:ByteArray× Ch=>z.1) h j;dsimp only at e2;rw[e1,e2,kx (congrArg Prod.snd e)]
theorem Qp{c d:List Ru}(h:d.map (fun x=>(x.sc,x.name,Pz.nr ⟨x.b,x.o,x.a,x.k⟩))=c.map (fun x=>(x.sc,x.name,Pz.nr ⟨x.b,x.o,x.a,x.k⟩))):zb d=zb c:=by
 funext j
 unfold zb;cases hx:c[j]? with
 | none=>rw[xY h hx]
 | some x =>
   obtain⟨y,hy,e⟩:=k9 h hx;rw[hy];dsimp only;have e0:y.sc=x.sc:=congrArg Prod.fst e;have e1:y.name=x.name:=congrArg (fun z=>z.2.1) e;have e2:=ux (fun z:Int× ByteArray× Ch=>(z.1,z.2.1)) h j;dsimp only at e2;rw[e0,e1,e2,kx (congrArg (fun z=>z.2.2) e)]
theorem QJ{c d:List Co}(h:d.map (fun x=>(x.sc,Pz.nr ⟨x.b,x.o,x.a,x.k⟩))=c.map (fun x=>(x.sc,Pz.nr ⟨x.b,x.o,x.a,x.k⟩))):zX d=zX c:=by
 funext j
 unfold zX;cases hx:c[j]? with
 | none=>rw[xY h hx]
 | some x =>
   obtain⟨y,hy,e⟩:=k9 h hx;rw[hy];dsimp only;have e0:y.sc=x.sc:=congrArg Prod.fst e;rw[e0,kx (congrArg Prod.snd e)]
theorem YV(T S:Fo)(h:(jK S).map Pz.nr=(jK T).map Pz.nr):kL S=kL T:=by
 induction T generalizing S with
 | nil=>cases S with
   | nil=>rfl
   | node b o a k r=>simp[jK] at h
 | node b o a k r _ ih=>cases S with
   | nil=>simp[jK] at h
   | node b' o' a' k' r' =>
     simp only[jK,List.map_cons,List.cons.injEq] at h;simp only[kL];rw[kx h.1,ih r' h.2]
theorem YO{c d:Ct}(h:SmC c d):yP d=yP c:=by
 obtain⟨n0,n1,n2,n3,n4,n5,n6,n7,ecs,ers,eos,ecr,els,efs⟩:=h;have l0:d.cs.length=c.cs.length:=j0 ecs;have l1:d.rs.length=c.rs.length:=j0 ers;have l2:d.os.length=c.os.length:=j0 eos;have l3:len d.cr=len c.cr:=by rw[← jT,← jT];exact j0 ecr
 unfold yP uW jJ JO Jm JN uL UT UN;rw[n0,n1,n2,n3,n4,n5,n6,n7,QK ecs,Qp ers,QJ eos,YV _ _ ecr,l0,l1,l2,l3,els,efs]
theorem uC(l:List Ch):jK (qH l)=l:=by
 induction l with
 | nil=>rfl
 | cons c l ih=>show _ :: jK (qH l)=_;rw[ih]
structure SixE (c:Pc.PC) (D:Six):Prop where
 cs:D.cs.map (fun x=>(x.name,Pz.nr (km x)))=c.cs
 rs:D.rs.map (fun x=>(x.sc,x.name,Pz.nr (k7 x)))=c.rs
 os:D.os.map (fun x=>(x.sc,Pz.nr (kj x)))=c.os
 cr:D.cr.map Pz.nr=c.cr
 ls:D.ls=c.ls
 fs:D.fs=c.fs
theorem SixE.smc{c:Pc.PC}{D E:Six}(h:SixE c D)(h2:SixE c E):SmC (kW c D) (kW c E) :=
 ⟨rfl,rfl,rfl,rfl,rfl,rfl,rfl,rfl,h2.cs.trans h.cs.symm,h2.rs.trans h.rs.symm,h2.os.trans h.os.symm,by show(jK (qH E.cr)).map Pz.nr=(jK (qH D.cr)).map Pz.nr;rw[uC,uC];exact h2.cr.trans h.cr.symm,h2.ls.trans h.ls.symm,h2.fs.trans h.fs.symm⟩
structure PcQ (w:World) (c:Pc.PC) (vs:Fin 6→Value) (D:Six):Prop where
 ct:∃p,W9 c vs=.agg (vj (kW c D) p)∧CtV w (kW c D) p
 e:SixE c D
theorem PcQ.next{w w':World}{c:Pc.PC}{vs:Fin 6→Value}{D:Six}(h:PcQ w c vs D)(hb:Below w.heap.size w w'):PcQ w' c vs D:=by
 obtain⟨p,h1,h2⟩:=h.ct;exact⟨⟨p,h1,h2.next hb⟩,h.e⟩
theorem Qv{w:World}{bs:Nat}{c:Pc.PC}{vs:Fin 6→Value}{D:Six}(h:PcD w bs c vs D):PcQ w c vs D:=by
 have hl:=h.ln;rw[Pc.cnt_eqG,← h.ecs,← h.ers,← h.eos,← h.ecr,← h.els,← h.efs] at hl;simp only[List.length_map] at hl;obtain⟨p,e0,e1,e2,e3,e4,e5,hv⟩:=QI h.rows h.ok h.nb (by omega);refine⟨⟨p,?_,hv⟩,⟨h.ecs,h.ers,h.eos,h.ecr,h.els,h.efs⟩⟩;unfold W9 vj;rw[e0,e1,e2,e3,e4,e5]
 show _=Value.agg #[_,_,_,_,_,_,_,_,_,_,.slice p.cr (len (qH D.cr)) p.ccr,_,_,_]
 rw[qC];rfl
theorem vO(w:World):PcQ w Pc.pcz vz dz:=by
 refine⟨⟨⟨none,none,none,none,none,none,0,0,0,0,0,0⟩,rfl,?_⟩,⟨rfl,rfl,rfl,rfl,rfl,rfl⟩⟩;have r:∀ {α:Type} (P:World→Nat→Nat→α→Prop) (s:Nat),RowV P s w [] none:=fun P s=>⟨Nat.zero_le _,0,0,fun q=>absurd rfl q,fun i x hx=>by cases hx⟩;exact⟨r _ _,r _ _,r _ _,⟨Nat.zero_le _,trivial,0,0,fun q=>absurd rfl q,trivial⟩,r _ _,r _ _,by unfold Bd;decide,Nat.le_refl _⟩
def RpK(s:ByteArray)(c:Pc.PC)(ln er:Int):Prop :=
 ((Pc.readT s).2.2≠0∧c=Pc.pcz∧ln=(Pc.readT s).2.1∧er=(Pc.readT s).2.2)∨
 ((Pc.readT s).2.2=0∧∃E,SixE (Pc.readT s).1 E∧((yP (kW (Pc.readT s).1 E)≠0∧c=Pc.pcz∧ln=0∧er=yP (kW (Pc.readT s).1 E))∨(yP (kW (Pc.readT s).1 E)=0∧c=(Pc.readT s).1∧ln=0∧er=0)))
theorem QW{s:ByteArray}{c d:Pc.PC}{l l' e e':Int}(h:RpK s c l e)(h2:RpK s d l' e'):c=d∧l=l'∧e=e':=by
 rcases h with ⟨h0,rfl,rfl,rfl⟩|⟨h0,E,hE,h⟩
 ·rcases h2 with ⟨-,rfl,rfl,rfl⟩|⟨g0,-⟩
  ·exact⟨rfl,rfl,rfl⟩
  ·exact absurd g0 h0
 ·rcases h2 with ⟨g0,-⟩|⟨-,G,hG,h2⟩
  ·exact absurd h0 g0
  ·have q:=YO (hE.smc hG);rcases h with ⟨h1,rfl,rfl,rfl⟩|⟨h1,rfl,rfl,rfl⟩
   ·rcases h2 with ⟨g1,rfl,rfl,rfl⟩|⟨g1,-⟩
    ·exact⟨rfl,rfl,q.symm⟩
    ·exact absurd (q.symm.trans g1) h1
   ·rcases h2 with ⟨g1,-⟩|⟨g1,rfl,rfl,rfl⟩
    ·exact absurd (q.trans h1) g1
    ·exact⟨rfl,rfl,rfl⟩
theorem uU{s:ByteArray}{w w':World}{e:Ending}(h:Uw s w e w'):∃c vs D ln er,e=.returned (.tuple #[W9 c vs,.int .i64 ln,.int .i64 er])∧PcQ w' c vs D∧RpK s c ln er∧Below w.heap.size w w':=by
 obtain⟨hb,⟨h0,rfl⟩|⟨h0,vs,D,hD,⟨h1,rfl⟩|⟨h1,rfl⟩⟩⟩:=h
 ·exact⟨_,_,dz,_,_,rfl,vO w',.inl ⟨h0,rfl,rfl,rfl⟩,hb⟩
 ·exact⟨_,_,dz,_,_,rfl,vO w',.inr ⟨h0,D,(Qv hD).e,.inl ⟨h1,rfl,rfl,rfl⟩⟩,hb⟩
 ·exact⟨_,_,D,_,_,rfl,Qv hD,.inr ⟨h0,D,(Qv hD).e,.inr ⟨h1,rfl,rfl,rfl⟩⟩,hb⟩
theorem ur{c:Pc.PC}{vs vs':Fin 6→Value}{D D':Six}{w:World}(h:PcQ w c vs D)(h2:PcQ w c vs' D') :
 Calls Tryz.prog 19 #[W9 c vs,W9 c vs'] w fun e w'=>e=.returned (.bool true)∧Below w.heap.size w w':=by
 obtain⟨p,e1,v1⟩:=h.ct;obtain⟨q,e2,v2⟩:=h2.ct;rw[e1,e2];exact Qo _ _ p q w v1 v2 (h.e.smc h2.e)
theorem xw(w:World)(c:Pc.PC)(vs:Fin 6→Value)(t:TypeId):C14 (w.alloc (.cells #[.int .i64 c.rep,.int .i64 c.rel,.int .i64 c.con,.int .i64 c.sit,.int .i64 c.lay,.int .i64 c.nf,.int .i64 c.nt,vs 0,vs 1,vs 2,vs 3,vs 4,vs 5,.int .i64 c.gua] t)) w.heap.size #[.int .i64 c.rep,.int .i64 c.rel,.int .i64 c.con,.int .i64 c.sit,.int .i64 c.lay,.int .i64 c.nf,.int .i64 c.nt,vs 0,vs 1,vs 2,vs 3,vs 4,vs 5,.int .i64 c.gua]:=vk _ _ _
theorem PcQ.sl{w:World}{c:Pc.PC}{vs:Fin 6→Value}{D:Six}(h:PcQ w c vs D):∃(p:Fin 6→Option Addr)(n k:Fin 6→Nat),vs=fun i=>.slice (p i) (n i) (k i):=by
 obtain⟨p,h1,-⟩:=h.ct;unfold W9 vj at h1;injection h1 with h1
 injection h1 with h1
 simp only[List.cons.injEq,true_and,and_true] at h1
 have hh:∀i,∃z:Option Addr× Nat× Nat,vs i=.slice z.1 z.2.1 z.2.2:=by
  intro i
  match i with
  | 0=>exact⟨⟨_,_,_⟩,h1.2.2.2.2.2.2.2.1⟩
  | 1=>exact⟨⟨_,_,_⟩,h1.2.2.2.2.2.2.2.2.1⟩
  | 2=>exact⟨⟨_,_,_⟩,h1.2.2.2.2.2.2.2.2.2.1⟩
  | 3=>exact⟨⟨_,_,_⟩,h1.2.2.2.2.2.2.2.2.2.2.1⟩
  | 4=>exact⟨⟨_,_,_⟩,h1.2.2.2.2.2.2.2.2.2.2.2.1⟩
  | 5=>exact⟨⟨_,_,_⟩,h1.2.2.2.2.2.2.2.2.2.2.2.2.1⟩
 exact⟨fun i=>(hh i).choose.1,fun i=>(hh i).choose.2.1,fun i=>(hh i).choose.2.2,funext fun i=>(hh i).choose_spec⟩
end Go.Proofs.YtcejjdmnlejbaaaGreatDoor
