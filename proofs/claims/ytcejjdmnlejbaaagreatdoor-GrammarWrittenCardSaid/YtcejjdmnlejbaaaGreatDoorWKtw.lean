import Derived.MakeChecks
import Derived.Stop.LaidErr
import Derived.LaidMore
import Derived.Test.YtcejjdmnlejbaaaGreatDoorWPgp
import Derived.Test.YtcejjdmnlejbaaaGreatDoorWFcf
import Derived.Test.YtcejjdmnlejbaaaGreatDoorWFch
namespace Go.Proofs.YtcejjdmnlejbaaaGreatDoor
open Lib(hid)
set_option linter.unusedVariables false
set_option linter.unusedSimpArgs false
open Go.ChangeShapes Go.WideShapes Go.ChangeAt Go.RowKit
open Go.Deep (BT)
set_option maxHeartbeats 4000000
set_option maxRecDepth 100000
namespace Pz
end Pz
def awG:ByteArray:=⟨#[49,32,43,32,50,32,42,32,108,101,103,115]⟩
theorem V0:Pz.pxT awG=(Pz.tn 8 [Pz.lf 1 1 ⟨#[]⟩,Pz.tn 10 [Pz.lf 1 2 ⟨#[]⟩,Pz.lf 6 0 ⟨#[108,101,103,115]⟩]],0,0):=by kernel_rfl
theorem Kt{c x y z:Ch}(h:Pz.nr c=Pz.tn 8 [x,Pz.tn 10 [y,z]]):c.a.op=8∧∃b1 o1 a1 k1 b2 o2 a2 k2,c.k=.node b1 o1 a1 k1 (.node b2 o2 a2 k2 .nil)∧a2.op=10:=by
 obtain⟨b,o,a,k⟩:=c;unfold Pz.nr Pz.tn at h;injection h with n1 n2 n3 n4
 injection n3 with m1 m2 m3
 refine⟨m1,?_⟩;cases k with
 | nil=>simp[Pz.nrm,qC] at n4
 | node b1 o1 a1 k1 r =>
   simp only[Pz.nrm,qC] at n4;injection n4 with q1 q2 q3 q4 q5
   cases r with
   | nil=>simp[Pz.nrm] at q5
   | node b2 o2 a2 k2 r2 =>
     simp only[Pz.nrm] at q5;injection q5 with p1 p2 p3 p4 p5
     cases r2 with
     | nil =>
       injection p3 with t1 t2 t3
       exact⟨b1,o1,a1,k1,b2,o2,a2,k2,rfl,t1⟩
     | node=>simp[Pz.nrm] at p5
theorem kK(w:World):Calls Tryz.prog 9 #[] w fun e w'=>e=.returned (.bool true)∧Below w.heap.size w w':=by
 go_enter Tryz.func9,Tryz.ntmps9;go_wp2_with fail;refine(Qq awG w (by decide)).mono ?_;rintro e w1 ⟨c,rfl,hc,hx,hb⟩;rw[V0] at hc ⊢;dsimp only at hc ⊢;obtain⟨h8,b1,o1,a1,k1,b2,o2,a2,k2,hk,h10⟩:=Kt hc;have B:=hid hb;obtain⟨b,o,a,k⟩:=c;dsimp only at h8 hk hx ⊢;subst hk;obtain⟨op,num,name,ptr,cap⟩:=a;dsimp only at h8 hx ⊢;subst h8;obtain⟨hp,hf⟩:=hx;obtain rfl:ptr=some ⟨b,o,none⟩:=hp (by simp);obtain⟨-,-,-,⟨d0,d1,d2,d3⟩,-⟩:=hf;rw[h10] at d0;have hl:len (BT.node b1 o1 a1 k1 (BT.node b2 o2 a2 k2 .nil))=2:=rfl;rw[hl];have hbl:=block_lt_of_cell d0;simp at hbl;clear hc hb hp d1 d2 d3 h10 hl;go_wp2;go_ret;exact⟨rfl,by first|exact B.out.alloc B.out.size _|exact B.out⟩
structure PcQ (w:World) (c:Pc.PC) (vs:Fin 6→Value) (D:Six):Prop where
 ct:∃p,Kw c vs=.agg (zN (us c D) p)∧CtV w (us c D) p
 e:SixE c D
theorem PcQ.next{w w':World}{c:Pc.PC}{vs:Fin 6→Value}{D:Six}(h:PcQ w c vs D)(hb:Below w.heap.size w w'):PcQ w' c vs D:=by
 obtain⟨p,h1,h2⟩:=h.ct;exact⟨⟨p,h1,h2.next hb⟩,h.e⟩
theorem Qs{w:World}{bs:Nat}{c:Pc.PC}{vs:Fin 6→Value}{D:Six}(h:PcD w bs c vs D):PcQ w c vs D:=by
 have hl:=h.ln;rw[Pc.cnt_eqG,← h.ecs,← h.ers,← h.eos,← h.ecr,← h.els,← h.efs] at hl;simp only[List.length_map] at hl;obtain⟨p,e0,e1,e2,e3,e4,e5,hv⟩:=Kn h.rows h.ok h.nb (by omega);refine⟨⟨p,?_,hv⟩,⟨h.ecs,h.ers,h.eos,h.ecr,h.els,h.efs⟩⟩;unfold Kw zN;rw[e0,e1,e2,e3,e4,e5]
 show _=Value.agg #[_,_,_,_,_,_,_,_,_,_,.slice p.cr (len (qC D.cr)) p.ccr,_,_,_]
 rw[ql];rfl
theorem vL(w:World):PcQ w Pc.pcz vz dz:=by
 refine⟨⟨⟨none,none,none,none,none,none,0,0,0,0,0,0⟩,rfl,?_⟩,⟨rfl,rfl,rfl,rfl,rfl,rfl⟩⟩;have r:∀ {α:Type} (P:World→Nat→Nat→α→Prop) (s:Nat),RowV P s w [] none:=fun P s=>⟨Nat.zero_le _,0,0,fun q=>absurd rfl q,fun i x hx=>by cases hx⟩;exact⟨r _ _,r _ _,r _ _,⟨Nat.zero_le _,trivial,0,0,fun q=>absurd rfl q,trivial⟩,r _ _,r _ _,by unfold Bd;decide,Nat.le_refl _⟩
theorem UP{s:ByteArray}{w w':World}{e:Ending}(h:VI s w e w'):∃c vs D ln er,e=.returned (.tuple #[Kw c vs,.int .i64 ln,.int .i64 er])∧PcQ w' c vs D∧Vx s c ln er∧Below w.heap.size w w':=by
 obtain⟨hb,⟨h0,rfl⟩|⟨h0,vs,D,hD,⟨h1,rfl⟩|⟨h1,rfl⟩⟩⟩:=h
 ·exact⟨_,_,dz,_,_,rfl,vL w',.inl ⟨h0,rfl,rfl,rfl⟩,hb⟩
 ·exact⟨_,_,dz,_,_,rfl,vL w',.inr ⟨h0,D,(Qs hD).e,.inl ⟨h1,rfl,rfl,rfl⟩⟩,hb⟩
 ·exact⟨_,_,D,_,_,rfl,Qs hD,.inr ⟨h0,D,(Qs hD).e,.inr ⟨h1,rfl,rfl,rfl⟩⟩,hb⟩
theorem PcQ.sl{w:World}{c:Pc.PC}{vs:Fin 6→Value}{D:Six}(h:PcQ w c vs D):∃(p:Fin 6→Option Addr)(n k:Fin 6→Nat),vs=fun i=>.slice (p i) (n i) (k i):=by
 obtain⟨p,h1,-⟩:=h.ct;unfold Kw zN at h1;injection h1 with h1
 injection h1 with h1
 simp only[List.cons.injEq,true_and,and_true] at h1
 have hh:∀i,∃z:Option Addr× Nat× Nat,vs i=.slice z.1 z.2.1 z.2.2:=by
  intro i
  match i with
  | 0=>exact⟨⟨_,_,_⟩,h1.2.2.2.2.2.2.2.1⟩
  | 1=>exact⟨⟨_,_,_⟩,h1.2.2.2.2.2.2.2.2.1⟩
  | 2=>exact⟨⟨_,_,_⟩,h1.2.2.2.2.2.2.2.2.2.1⟩
  | 3=>exact⟨⟨_,_,_⟩,h1.2.2.2.2.2.2.2.2.2.2.1⟩
  | 4=>exact⟨⟨_,_,_⟩,h1.2.2.2.2.2.2.2.2.2.2.2.1⟩
  | 5=>exact⟨⟨_,_,_⟩,h1.2.2.2.2.2.2.2.2.2.2.2.2.1⟩
 exact⟨fun i=>(hh i).choose.1,fun i=>(hh i).choose.2.1,fun i=>(hh i).choose.2.2,funext fun i=>(hh i).choose_spec⟩
theorem kW(b o:Nat)(a:Nd)(k:Fo):∀w:World,ExAt w b o a k→yN a k→Calls Tryz.prog 26 #[.agg #[.int .i64 a.op,.int .i64 a.num,.string a.name,.slice a.ptr (len k) a.cap]] w (Kx w):=by
 refine jf (P:=fun b o a k=>∀w:World,ExAt w b o a k→yN a k→Calls Tryz.prog 26 #[.agg #[.int .i64 a.op,.int .i64 a.num,.string a.name,.slice a.ptr (len k) a.cap]] w (Kx w)) ?_ b o a k;clear b o a k;intro b o a k ih w hx hok;have IH:=hid ih;have HX:=hid hx;have HOK:=hid hok;clear ih hx hok;have hk:len k≤9223372036854775807:=HOK.out.1.2.2.2;go_enter Tryz.func26,Tryz.ntmps26;go_wp2_with fail
 go_loopw [3,4] (fun n i wr=>∃(j:Nat) (r:Fo) (m:Int),i=.int .i64 j∧n=.int .i64 m∧(-9223372036854775808≤m∧m≤9223372036854775807)∧wr.cell? ⟨w.heap.size,3,none⟩=some (.slice a.ptr (len k) a.cap)∧w.heap.size < wr.heap.size∧
  Hid (j+len r=len k∧FoAt wr r b (o+j * 4)∧je r∧xo (fun b o a k=>∀w:World,ExAt w b o a k→yN a k→Calls Tryz.prog 26 #[.agg #[.int .i64 a.op,.int .i64 a.num,.string a.name,.slice a.ptr (len k) a.cap]] w (Kx w)) r∧Below w.heap.size w wr)) (fun _ i _=>len k - (intOf i).toNat)
 case atStart =>
  refine⟨0,k,1,rfl,rfl,by omega,by simp,by simp,by omega,?_,HOK.out.2,IH.out,ba1⟩;rw[Nat.zero_mul,Nat.add_zero];exact HX.out.2.next ba1
 case round =>
  obtain⟨j,r,m,rfl,rfl,hm,hc,ym,HR⟩:=hrel;cases r with
  | nil =>
    have hj:¬(j:Int) < (len k:Int):=(by have:=HR.out.1;simp[len] at this;omega);go_wp2;go_ret;exact⟨m,hm,rfl,HR.out.2.2.2.2⟩
  | node b1 o1 a1 k1 r1 =>
    have hj:j < len k:=(by have:=HR.out.1;simp[len] at this;omega);have hp:a.ptr=some ⟨b,o,none⟩:=HX.out.1 (by rintro rfl;simp[len] at hj);rw[hp] at hc;clear hp;obtain⟨⟨c0,c1,c2,c3⟩,hp1,hk1,hr1⟩:=HR.out.2.1;have X1:Hid (ExAt wr b1 o1 a1 k1):=⟨hp1,hk1⟩;have N1:=hid hr1;clear hp1 hk1 hr1;have hj1:(j:Int) < (len k:Int):=by omega
    by_cases hm1:m < 1000
    ·go_wp2_with fail;refine(HR.out.2.2.2.1.1 _ X1.out ⟨HR.out.2.2.1.1,HR.out.2.2.1.2.1⟩).mono ?_;rintro e w1 ⟨m1,hm2,rfl,hb⟩
     have hc':w1.cell? ⟨w.heap.size,3,none⟩=some (.slice a.ptr (len k) a.cap):=by
      rw[hb.cell (p:=⟨w.heap.size,3,none⟩) ym,hc,HX.out.1 (by rintro rfl;simp[len] at hj)]
     have hz':w.heap.size < w1.heap.size:=Nat.lt_of_lt_of_le ym hb.size;have N2:=hid (N1.out.next hb);have B2:=hid (HR.out.2.2.2.2.trans (hb.mono (Nat.le_of_lt ym)));clear hc c0 c1 c2 c3 hb ym X1 N1;go_wp2
     go_roundw
     case rel =>
      refine⟨j+1,r1,wrap64 (m+m1),by go_num,rfl,KC _,hc',hz',?_,?_,HR.out.2.2.1.2.2,HR.out.2.2.2.1.2,B2.out⟩
      ·have:=HR.out.1;simp[len] at this;omega
      ·rw[Nat.add_mul,Nat.one_mul,← Nat.add_assoc];exact N2.out
     case measure=>simp[intOf];omega
    ·go_wp2;go_ret;exact⟨m,hm,rfl,HR.out.2.2.2.2⟩
theorem QD(c:Ct)(p:Cp)(w:World)(hv:CtV w c p):Calls Tryz.prog 21 #[.agg #[.int .i64 c.rep,.int .i64 c.rel,.int .i64 c.con,.int .i64 c.sit,.int .i64 c.lay,.int .i64 c.nf,.int .i64 c.nt,.slice p.cs c.cs.length p.ccs,.slice p.rs c.rs.length p.crs,.slice p.os c.os.length p.cos,.slice p.cr (len c.cr) p.ccr,.slice p.ls c.ls.length p.cls,.slice p.fs c.fs.length p.cfs,.int .i64 c.gua]] w fun e w'=>∃b:Bool,e=.returned (.bool b)∧Below w.heap.size w w':=by
 have HV:Hid (∀W,Below w.heap.size w W→CtV W c p):=fun W hb=>hv.next hb
 have n1:=hv.cs.1;have n2:=hv.rs.1;have n3:=hv.os.1;have n4:=hv.cr.1;clear hv;have BW:Hid (Below w.heap.size w (w.alloc (.cells #[.int .i64 c.rep,.int .i64 c.rel,.int .i64 c.con,.int .i64 c.sit,.int .i64 c.lay,.int .i64 c.nf,.int .i64 c.nt,.slice p.cs c.cs.length p.ccs,.slice p.rs c.rs.length p.crs,.slice p.os c.os.length p.cos,.slice p.cr (len c.cr) p.ccr,.slice p.ls c.ls.length p.cls,.slice p.fs c.fs.length p.cfs,.int .i64 c.gua] 43))):=ba1;have XW:Hid (C14 (w.alloc (.cells #[.int .i64 c.rep,.int .i64 c.rel,.int .i64 c.con,.int .i64 c.sit,.int .i64 c.lay,.int .i64 c.nf,.int .i64 c.nt,.slice p.cs c.cs.length p.ccs,.slice p.rs c.rs.length p.crs,.slice p.os c.os.length p.cos,.slice p.cr (len c.cr) p.ccr,.slice p.ls c.ls.length p.cls,.slice p.fs c.fs.length p.cfs,.int .i64 c.gua] 43)) w.heap.size (zN c p)):=jo _ _ _;go_enter Tryz.func21,Tryz.ntmps21;go_upto_region 1 with (fail);generalize w.alloc (.cells #[.int .i64 c.rep,.int .i64 c.rel,.int .i64 c.con,.int .i64 c.sit,.int .i64 c.lay,.int .i64 c.nf,.int .i64 c.nt,.slice p.cs c.cs.length p.ccs,.slice p.rs c.rs.length p.crs,.slice p.os c.os.length p.cos,.slice p.cr (len c.cr) p.ccr,.slice p.ls c.ls.length p.cls,.slice p.fs c.fs.length p.cfs,.int .i64 c.gua] 43)=w0 at *;have c11:=XW.out.lit 11 _ rfl;have c12:=XW.out.lit 12 _ rfl
 go_upto_block 0 with (fail)
 go_cut [3] (fun n wx=>∃m:Int,n=.int .i64 m∧Hid (Below w.heap.size w wx∧C14 wx w.heap.size (zN c p)))
 case first =>
  go_wp2_with fail
  go_loopw [3,4] (fun n i wr=>∃(j:Nat) (m:Int),j≤c.cs.length∧i=.int .i64 j∧n=.int .i64 m∧Hid (Below w.heap.size w wr∧C14 wr w.heap.size (zN c p))) (fun _ i _=>c.cs.length - (intOf i).toNat)
  case atStart=>exact⟨0,_,Nat.zero_le _,rfl,rfl,BW.out,XW.out⟩
  case round =>
   clear BW XW;obtain⟨j,m,hj,rfl,rfl,HR⟩:=hrel
   by_cases hgo:j < c.cs.length∧m < 3000
   ·obtain ⟨qD,hm⟩:=hgo;obtain⟨x,hc⟩:∃x,c.cs[j]?=some x:=⟨_,List.getElem?_eq_getElem qD⟩;obtain⟨BB,O,hp,-,⟨⟨d1,d2,d3,d4⟩,hx,hk⟩,-⟩:=(HV.out _ HR.out.1).cs.get hc;have hj1:(j:Int) < (c.cs.length:Int):=(by omega);have hj0:(0:Int)≤(j:Int):=(by omega);have cf:=HR.out.2.lit 7 _ rfl;rw[hp] at cf;clear hc hp;go_wp2_with fail;refine(kW x.b x.o x.a x.k wr hx hk).mono ?_;rintro e w1 ⟨m1,-,rfl,hb⟩;have B1:=hid (HR.out.1.trans (hb.mono HR.out.1.size));have X1:=hid (HR.out.2.next hb);clear hb d1 d2 d3 d4 cf hx hk;go_wp2
    go_roundw
    case rel=>exact⟨j+1,_,by omega,by go_num,rfl,B1.out,X1.out⟩
    case measure=>simp[intOf];omega
   have BW:=hid HR.out.1;have XW:=hid HR.out.2;have cf:=XW.out.lit 7 _ rfl;clear HR;have hq:¬((j:Int) < (c.cs.length:Int))∨((j:Int) < (c.cs.length:Int)∧¬m < 3000):=(by omega);clear hgo;rcases hq with hq|⟨hq,hq2⟩
   all_goals
    go_wp2
    go_meet
    exact⟨_,rfl,BW.out,XW.out⟩
 case rest =>
 clear BW XW c11 c12;obtain⟨m,rfl,hcut⟩:=hcut;have BW:=hid hcut.out.1;have XW:=hid hcut.out.2;clear hcut
 go_upto_block 2 with (fail)
 go_cut [3] (fun n wx=>∃m:Int,n=.int .i64 m∧Hid (Below w.heap.size w wx∧C14 wx w.heap.size (zN c p)))
 case first =>
  go_wp2_with fail
  go_loopw [3,5] (fun n i wr=>∃(j:Nat) (m:Int),j≤c.rs.length∧i=.int .i64 j∧n=.int .i64 m∧Hid (Below w.heap.size w wr∧C14 wr w.heap.size (zN c p))) (fun _ i _=>c.rs.length - (intOf i).toNat)
  case atStart=>exact⟨0,_,Nat.zero_le _,rfl,rfl,BW.out,XW.out⟩
  case round =>
   clear BW XW;obtain⟨j,m,hj,rfl,rfl,HR⟩:=hrel
   by_cases hgo:j < c.rs.length∧m < 3000
   ·obtain ⟨qD,hm⟩:=hgo;obtain⟨x,hc⟩:∃x,c.rs[j]?=some x:=⟨_,List.getElem?_eq_getElem qD⟩;obtain⟨BB,O,hp,-,-,⟨⟨d1,d2,d3,d4⟩,hx,hk⟩,-⟩:=(HV.out _ HR.out.1).rs.get hc;have hj1:(j:Int) < (c.rs.length:Int):=(by omega);have hj0:(0:Int)≤(j:Int):=(by omega);have cf:=HR.out.2.lit 8 _ rfl;rw[hp] at cf;clear hc hp;go_wp2_with fail;refine(kW x.b x.o x.a x.k wr hx hk).mono ?_;rintro e w1 ⟨m1,-,rfl,hb⟩;have B1:=hid (HR.out.1.trans (hb.mono HR.out.1.size));have X1:=hid (HR.out.2.next hb);clear hb d1 d2 d3 d4 cf hx hk;go_wp2
    go_roundw
    case rel=>exact⟨j+1,_,by omega,by go_num,rfl,B1.out,X1.out⟩
    case measure=>simp[intOf];omega
   have BW:=hid HR.out.1;have XW:=hid HR.out.2;have cf:=XW.out.lit 8 _ rfl;clear HR;have hq:¬((j:Int) < (c.rs.length:Int))∨((j:Int) < (c.rs.length:Int)∧¬m < 3000):=(by omega);clear hgo;rcases hq with hq|⟨hq,hq2⟩
   all_goals
    go_wp2
    go_meet
    exact⟨_,rfl,BW.out,XW.out⟩
 case rest =>
 clear BW XW;obtain⟨m,rfl,hcut⟩:=hcut;have BW:=hid hcut.out.1;have XW:=hid hcut.out.2;clear hcut
 go_upto_block 4 with (fail)
 go_cut [3] (fun n wx=>∃m:Int,n=.int .i64 m∧Hid (Below w.heap.size w wx∧C14 wx w.heap.size (zN c p)))
 case first =>
  go_wp2_with fail
  go_loopw [3,6] (fun n i wr=>∃(j:Nat) (m:Int),j≤c.os.length∧i=.int .i64 j∧n=.int .i64 m∧Hid (Below w.heap.size w wr∧C14 wr w.heap.size (zN c p))) (fun _ i _=>c.os.length - (intOf i).toNat)
  case atStart=>exact⟨0,_,Nat.zero_le _,rfl,rfl,BW.out,XW.out⟩
  case round =>
   clear BW XW;obtain⟨j,m,hj,rfl,rfl,HR⟩:=hrel
   by_cases hgo:j < c.os.length∧m < 3000
   ·obtain ⟨qD,hm⟩:=hgo;obtain⟨x,hc⟩:∃x,c.os[j]?=some x:=⟨_,List.getElem?_eq_getElem qD⟩;obtain⟨BB,O,hp,-,⟨⟨d1,d2,d3,d4⟩,hx,hk⟩,-⟩:=(HV.out _ HR.out.1).os.get hc;have hj1:(j:Int) < (c.os.length:Int):=(by omega);have hj0:(0:Int)≤(j:Int):=(by omega);have cf:=HR.out.2.lit 9 _ rfl;rw[hp] at cf;clear hc hp;go_wp2_with fail;refine(kW x.b x.o x.a x.k wr hx hk).mono ?_;rintro e w1 ⟨m1,-,rfl,hb⟩;have B1:=hid (HR.out.1.trans (hb.mono HR.out.1.size));have X1:=hid (HR.out.2.next hb);clear hb d1 d2 d3 d4 cf hx hk;go_wp2
    go_roundw
    case rel=>exact⟨j+1,_,by omega,by go_num,rfl,B1.out,X1.out⟩
    case measure=>simp[intOf];omega
   have BW:=hid HR.out.1;have XW:=hid HR.out.2;have cf:=XW.out.lit 9 _ rfl;clear HR;have hq:¬((j:Int) < (c.os.length:Int))∨((j:Int) < (c.os.length:Int)∧¬m < 3000):=(by omega);clear hgo;rcases hq with hq|⟨hq,hq2⟩
   all_goals
    go_wp2
    go_meet
    exact⟨_,rfl,BW.out,XW.out⟩
 case rest =>
 clear BW XW;obtain⟨m,rfl,hcut⟩:=hcut;have BW:=hid hcut.out.1;have XW:=hid hcut.out.2;clear hcut
 go_upto_block 6 with (fail)
 go_cut [3] (fun n wx=>∃m:Int,n=.int .i64 m∧Hid (Below w.heap.size w wx∧C14 wx w.heap.size (zN c p)))
 case first =>
  go_wp2_with fail
  go_loopw [3,7] (fun n i wr=>∃(j:Nat) (m:Int),j≤len c.cr∧i=.int .i64 j∧n=.int .i64 m∧Hid (Below w.heap.size w wr∧C14 wr w.heap.size (zN c p))) (fun _ i _=>len c.cr - (intOf i).toNat)
  case atStart=>exact⟨0,_,Nat.zero_le _,rfl,rfl,BW.out,XW.out⟩
  case round =>
   clear BW XW;obtain⟨j,m,hj,rfl,rfl,HR⟩:=hrel
   by_cases hgo:j < len c.cr∧m < 3000
   ·obtain ⟨qD,hm⟩:=hgo;obtain⟨x,hc⟩:∃x,(yv c.cr)[j]?=some x:=⟨_,List.getElem?_eq_getElem (by rw[yK];exact qD)⟩;obtain⟨BB,O,hp,⟨d1,d2,d3,d4⟩,hx,hk⟩:=(HV.out _ HR.out.1).cr.get hc;have hj1:(j:Int) < (len c.cr:Int):=(by omega);have hj0:(0:Int)≤(j:Int):=(by omega);have cf:=HR.out.2.lit 10 _ rfl;rw[hp] at cf;clear hc hp;go_wp2_with fail;refine(kW x.b x.o x.a x.k wr hx hk).mono ?_;rintro e w1 ⟨m1,-,rfl,hb⟩;have B1:=hid (HR.out.1.trans (hb.mono HR.out.1.size));have X1:=hid (HR.out.2.next hb);clear hb d1 d2 d3 d4 cf hx hk;go_wp2
    go_roundw
    case rel=>exact⟨j+1,_,by omega,by go_num,rfl,B1.out,X1.out⟩
    case measure=>simp[intOf];omega
   have BW:=hid HR.out.1;have XW:=hid HR.out.2;have cf:=XW.out.lit 10 _ rfl;clear HR;have hq:¬((j:Int) < (len c.cr:Int))∨((j:Int) < (len c.cr:Int)∧¬m < 3000):=(by omega);clear hgo;rcases hq with hq|⟨hq,hq2⟩
   all_goals
    go_wp2
    go_meet
    exact⟨_,rfl,BW.out,XW.out⟩
 case rest =>
 clear BW XW;obtain⟨m,rfl,hcut⟩:=hcut;have BW:=hid hcut.out.1;have XW:=hid hcut.out.2;clear hcut;go_wp2;go_ret;exact⟨_,rfl,BW.out⟩
theorem Fp.fmC_sz(c:Ct):(Fp.fmC c).1.size≤20000:=by
 unfold Fp.fmC
 split
 ·exact Nat.zero_le _
 ·split
  ·exact Nat.zero_le _
  ·split
   ·exact Nat.zero_le _
   ·dsimp only;omega
theorem walk_grammarWritten(c:Ct)(p:Cp)(m:Int)(w:World)(hv:CtV w c p)(ht:Tab w)(hm:w.cell? ⟨0,0,none⟩=some (.int .i64 m)) :
 Calls Tryz.prog 7 #[.agg #[.int .i64 c.rep,.int .i64 c.rel,.int .i64 c.con,.int .i64 c.sit,.int .i64 c.lay,.int .i64 c.nf,.int .i64 c.nt,.slice p.cs c.cs.length p.ccs,.slice p.rs c.rs.length p.crs,.slice p.os c.os.length p.cos,.slice p.cr (len c.cr) p.ccr,.slice p.ls c.ls.length p.cls,.slice p.fs c.fs.length p.cfs,.int .i64 c.gua]] w fun e w'=>e=.returned (.bool true)∧Below w.heap.size w w':=by
 have HV:Hid (∀W,Below w.heap.size w W→CtV W c p):=fun W hb=>hv.next hb
 have HT:Hid (∀W,Below w.heap.size w W→Tab W):=fun W hb=>ht.next hb
 have HM:=hid hm;have FZ:=hid (Fp.fmC_sz c);have B0:Hid (Below w.heap.size w (w.alloc (.cells #[.int .i64 c.rep,.int .i64 c.rel,.int .i64 c.con,.int .i64 c.sit,.int .i64 c.lay,.int .i64 c.nf,.int .i64 c.nt,.slice p.cs c.cs.length p.ccs,.slice p.rs c.rs.length p.crs,.slice p.os c.os.length p.cos,.slice p.cr (len c.cr) p.ccr,.slice p.ls c.ls.length p.cls,.slice p.fs c.fs.length p.cfs,.int .i64 c.gua] 43))):=ba1;have C0:Hid (C14 (w.alloc (.cells #[.int .i64 c.rep,.int .i64 c.rel,.int .i64 c.con,.int .i64 c.sit,.int .i64 c.lay,.int .i64 c.nf,.int .i64 c.nt,.slice p.cs c.cs.length p.ccs,.slice p.rs c.rs.length p.crs,.slice p.os c.os.length p.cos,.slice p.cr (len c.cr) p.ccr,.slice p.ls c.ls.length p.cls,.slice p.fs c.fs.length p.cfs,.int .i64 c.gua] 43)) w.heap.size (zN c p)):=jo _ _ _;have LG:=hid (fun W hb=>QD c p W (HV.out W hb));have PV:=hid (fun W hb=>uh c p W (HV.out W hb));have RV:=hid (fun W hb=>uJ c p W (HV.out W hb));have PF:=hid (fun W hb=>JK c p W (HV.out W hb) (HT.out W hb));have RF:=hid (fun W hb=>JE c p W (HV.out W hb) (HT.out W hb));unfold QQ zN at PF RF;clear hv ht hm;go_enter Tryz.func7,Tryz.ntmps7;go_upto_region 1 with (fail);generalize w.alloc (.cells #[.int .i64 c.rep,.int .i64 c.rel,.int .i64 c.con,.int .i64 c.sit,.int .i64 c.lay,.int .i64 c.nf,.int .i64 c.nt,.slice p.cs c.cs.length p.ccs,.slice p.rs c.rs.length p.crs,.slice p.os c.os.length p.cos,.slice p.cr (len c.cr) p.ccr,.slice p.ls c.ls.length p.cls,.slice p.fs c.fs.length p.cfs,.int .i64 c.gua] 43)=w0 at *;have k0:=C0.out.lit 0 _ rfl;have k1:=C0.out.lit 1 _ rfl;have k2:=C0.out.lit 2 _ rfl;have k3:=C0.out.lit 3 _ rfl;have k4:=C0.out.lit 4 _ rfl;have k5:=C0.out.lit 5 _ rfl;have k6:=C0.out.lit 6 _ rfl;have k7:=C0.out.lit 7 _ rfl;have k8:=C0.out.lit 8 _ rfl;have k9:=C0.out.lit 9 _ rfl;have k10:=C0.out.lit 10 _ rfl;have k11:=C0.out.lit 11 _ rfl;have k12:=C0.out.lit 12 _ rfl;have k13:=C0.out.lit 13 _ rfl;go_wp2_with fail;refine(LG.out _ B0.out).mono ?_;rintro e w1 ⟨b,rfl,hb⟩;have B1:=hid (bt9 B0 hb);have C1:=hid (C0.out.next hb);clear hb B0 C0 LG k0 k1 k2 k3 k4 k5 k6 k7 k8 k9 k10 k11 k12 k13;cases b
 case false =>
  go_wp2_with fail;refine(kK w1).mono ?_;rintro e w6 ⟨rfl,hb⟩;have B6:=hid (bt9 B1 hb);clear hb;go_wp2;go_ret;exact⟨rfl,B6.out⟩
 case true =>
 have k0:=C1.out.lit 0 _ rfl;have k1:=C1.out.lit 1 _ rfl;have k2:=C1.out.lit 2 _ rfl;have k3:=C1.out.lit 3 _ rfl;have k4:=C1.out.lit 4 _ rfl;have k5:=C1.out.lit 5 _ rfl;have k6:=C1.out.lit 6 _ rfl;have k7:=C1.out.lit 7 _ rfl;have k8:=C1.out.lit 8 _ rfl;have k9:=C1.out.lit 9 _ rfl;have k10:=C1.out.lit 10 _ rfl;have k11:=C1.out.lit 11 _ rfl;have k12:=C1.out.lit 12 _ rfl;have k13:=C1.out.lit 13 _ rfl;go_wp2_with fail;refine(PF.out _ B1.out).mono ?_;rintro e w2 ⟨rfl,hb⟩;have B2:=hid (bt9 B1 hb);have C2:=hid (C1.out.next hb);clear hb B1 C1 PF k0 k1 k2 k3 k4 k5 k6 k7 k8 k9 k10 k11 k12 k13;have k0:=C2.out.lit 0 _ rfl;have k1:=C2.out.lit 1 _ rfl;have k2:=C2.out.lit 2 _ rfl;have k3:=C2.out.lit 3 _ rfl;have k4:=C2.out.lit 4 _ rfl;have k5:=C2.out.lit 5 _ rfl;have k6:=C2.out.lit 6 _ rfl;have k7:=C2.out.lit 7 _ rfl;have k8:=C2.out.lit 8 _ rfl;have k9:=C2.out.lit 9 _ rfl;have k10:=C2.out.lit 10 _ rfl;have k11:=C2.out.lit 11 _ rfl;have k12:=C2.out.lit 12 _ rfl;have k13:=C2.out.lit 13 _ rfl;go_wp2_with fail;refine(RF.out _ B2.out).mono ?_;rintro e w3 ⟨rfl,hb⟩;have B3:=hid (bt9 B2 hb);have C3:=hid (C2.out.next hb);clear hb B2 C2 RF k0 k1 k2 k3 k4 k5 k6 k7 k8 k9 k10 k11 k12 k13;have BK:=hid (fun pd ln er D h=>@Fp.rpk_back c pd ln er D h);generalize Fp.fmC c=fm at *;obtain⟨s,er⟩:=fm;dsimp only at FZ BK;go_upto_region 5 with (fail);have k0:=fun d os=>cell_regrown (C3.out.lit 0 _ rfl) d os;have k1:=fun d os=>cell_regrown (C3.out.lit 1 _ rfl) d os;have k2:=fun d os=>cell_regrown (C3.out.lit 2 _ rfl) d os;have k3:=fun d os=>cell_regrown (C3.out.lit 3 _ rfl) d os;have k4:=fun d os=>cell_regrown (C3.out.lit 4 _ rfl) d os;have k5:=fun d os=>cell_regrown (C3.out.lit 5 _ rfl) d os;have k6:=fun d os=>cell_regrown (C3.out.lit 6 _ rfl) d os;have k7:=fun d os=>cell_regrown (C3.out.lit 7 _ rfl) d os;have k8:=fun d os=>cell_regrown (C3.out.lit 8 _ rfl) d os;have k9:=fun d os=>cell_regrown (C3.out.lit 9 _ rfl) d os;have k10:=fun d os=>cell_regrown (C3.out.lit 10 _ rfl) d os;have k11:=fun d os=>cell_regrown (C3.out.lit 11 _ rfl) d os;have k12:=fun d os=>cell_regrown (C3.out.lit 12 _ rfl) d os;have k13:=fun d os=>cell_regrown (C3.out.lit 13 _ rfl) d os;have Q1:Hid (QC Tryz.prog 24 #[.agg #[.int .i64 c.rep,.int .i64 c.rel,.int .i64 c.con,.int .i64 c.sit,.int .i64 c.lay,.int .i64 c.nf,.int .i64 c.nt,.slice p.cs c.cs.length p.ccs,.slice p.rs c.rs.length p.crs,.slice p.os c.os.length p.cos,.slice p.cr (len c.cr) p.ccr,.slice p.ls c.ls.length p.cls,.slice p.fs c.fs.length p.cfs,.int .i64 c.gua]] (.int .i64 (yj c)) w3):=fun dq os=>Calls.regrown_of (PV.out _ (B3.out.trans ((below_regrown w3 dq os).mono B3.out.size)));have Q2:Hid (QC Tryz.prog 25 #[.agg #[.int .i64 c.rep,.int .i64 c.rel,.int .i64 c.con,.int .i64 c.sit,.int .i64 c.lay,.int .i64 c.nf,.int .i64 c.nt,.slice p.cs c.cs.length p.ccs,.slice p.rs c.rs.length p.crs,.slice p.os c.os.length p.cos,.slice p.cr (len c.cr) p.ccr,.slice p.ls c.ls.length p.cls,.slice p.fs c.fs.length p.cfs,.int .i64 c.gua]] (.int .i64 (yj c)) w3):=fun dq os=>Calls.regrown_of (RV.out _ (B3.out.trans ((below_regrown w3 dq os).mono B3.out.size)));generalize yj c=gv at *;refine wp_region_quiet_below (by kernel_rfl) (by kernel_rfl) ?_
 repeat (quiet_step (first|with_reducible exact Q1.out _ _|with_reducible exact Q2.out _ _))
 refine wpQuiet_nil ?_;intro _ hw';obtain⟨⟨dq,osq⟩,hw''⟩:=hw';subst hw'';have hb:=below_regrown w3 dq osq;have B4:=hid (bt9 B3 hb);have C4:=hid (C3.out.next hb);clear hb B3 C3 Q1 Q2 PV RV k0 k1 k2 k3 k4 k5 k6 k7 k8 k9 k10 k11 k12 k13;generalize Sort.grow (redrawn w3 dq) osq=w4 at *
 by_cases he:er=0
 ·subst he;have BK2:=hid (fun pd ln er D=>BK.out pd ln er D rfl);clear BK;go_wp2_with fail;refine(YN s m w4 (Nat.le_trans FZ.out (by decide)) (qa HM.out B4.out)).mono ?_;intro e w5 hr;obtain⟨pd,vs,D,ln,er,rfl,hq,hk,hb⟩:=UP hr;obtain⟨rfl,rfl,hs⟩:=BK2.out pd ln er D hk hq.e;obtain⟨q,e1,v1⟩:=hq.ct;have SM:=hid hs;have V1:=hid v1;have B5:=hid (bt9 B4 hb);have C5:=hid (C4.out.next hb);rw[e1];clear hr hk hq hs v1 e1 hb B4 C4 BK2 FZ HM;generalize us pd D=d at *;unfold zN;go_upto_region 10 with (fail);have N1:Hid (Below w5.heap.size w5 (w5.alloc (.cells #[.int .i64 d.rep,.int .i64 d.rel,.int .i64 d.con,.int .i64 d.sit,.int .i64 d.lay,.int .i64 d.nf,.int .i64 d.nt,.slice q.cs d.cs.length q.ccs,.slice q.rs d.rs.length q.crs,.slice q.os d.os.length q.cos,.slice q.cr (len d.cr) q.ccr,.slice q.ls d.ls.length q.cls,.slice q.fs d.fs.length q.cfs,.int .i64 d.gua] 43))):=ba1;have D6:Hid (C14 (w5.alloc (.cells #[.int .i64 d.rep,.int .i64 d.rel,.int .i64 d.con,.int .i64 d.sit,.int .i64 d.lay,.int .i64 d.nf,.int .i64 d.nt,.slice q.cs d.cs.length q.ccs,.slice q.rs d.rs.length q.crs,.slice q.os d.os.length q.cos,.slice q.cr (len d.cr) q.ccr,.slice q.ls d.ls.length q.cls,.slice q.fs d.fs.length q.cfs,.int .i64 d.gua] 43)) w5.heap.size (zN d q)):=jo _ _ _;have C6:=hid (C5.out.next N1.out);have B6:=hid (B5.out.trans (N1.out.mono B5.out.size));have V6:=hid (V1.out.next N1.out);generalize w5.heap.size=yb at *;generalize w5.alloc (.cells #[.int .i64 d.rep,.int .i64 d.rel,.int .i64 d.con,.int .i64 d.sit,.int .i64 d.lay,.int .i64 d.nf,.int .i64 d.nt,.slice q.cs d.cs.length q.ccs,.slice q.rs d.rs.length q.crs,.slice q.os d.os.length q.cos,.slice q.cr (len d.cr) q.ccr,.slice q.ls d.ls.length q.cls,.slice q.fs d.fs.length q.cfs,.int .i64 d.gua] 43)=w6 at *;clear N1 C5 B5 V1;have x0:=C6.out.lit 0 _ rfl;have x1:=C6.out.lit 1 _ rfl;have x2:=C6.out.lit 2 _ rfl;have x3:=C6.out.lit 3 _ rfl;have x4:=C6.out.lit 4 _ rfl;have x5:=C6.out.lit 5 _ rfl;have x6:=C6.out.lit 6 _ rfl;have x7:=C6.out.lit 7 _ rfl;have x8:=C6.out.lit 8 _ rfl;have x9:=C6.out.lit 9 _ rfl;have x10:=C6.out.lit 10 _ rfl;have x11:=C6.out.lit 11 _ rfl;have x12:=C6.out.lit 12 _ rfl;have x13:=C6.out.lit 13 _ rfl;have y0:=D6.out.lit 0 _ rfl;have y1:=D6.out.lit 1 _ rfl;have y2:=D6.out.lit 2 _ rfl;have y3:=D6.out.lit 3 _ rfl;have y4:=D6.out.lit 4 _ rfl;have y5:=D6.out.lit 5 _ rfl;have y6:=D6.out.lit 6 _ rfl;have y7:=D6.out.lit 7 _ rfl;have y8:=D6.out.lit 8 _ rfl;have y9:=D6.out.lit 9 _ rfl;have y10:=D6.out.lit 10 _ rfl;have y11:=D6.out.lit 11 _ rfl;have y12:=D6.out.lit 12 _ rfl;have y13:=D6.out.lit 13 _ rfl;have SE:=hid (Qo d c q p w6 V6.out (HV.out _ B6.out) SM.out);unfold zN at SE;clear C6 D6 V6 SM;go_wp2_with fail;refine SE.out.mono ?_;rintro e w7 ⟨rfl,hb⟩;have B7:=hid (bt9 B6 hb);clear hb SE x0 x1 x2 x3 x4 x5 x6 x7 x8 x9 x10 x11 x12 x13 y0 y1 y2 y3 y4 y5 y6 y7 y8 y9 y10 y11 y12 y13;go_wp2_with fail;refine(kK w7).mono ?_;rintro e w8 ⟨rfl,hb⟩;have B8:=hid (bt9 B7 hb);clear hb;go_wp2;go_ret;exact⟨rfl,B8.out⟩
 ·have he2:(er != 0)=true:=by simp[he]
  clear he BK;go_wp2_with fail;refine(kK w4).mono ?_;rintro e w8 ⟨rfl,hb⟩;have B8:=hid (bt9 B4 hb);clear hb;go_wp2;go_ret;exact⟨rfl,B8.out⟩
open Go.ChangeShapes Go.WideShapes Go.RowKit
theorem Ue{α:Type}{Q:Nat→α→Prop}(n:Nat)(h:∀i,i < n→∃y,Q i y):∃L:List α,L.length=n∧∀(i:Nat)(y:α),L[i]?=some y→Q i y:=by
 induction n with
 | zero=>exact⟨[],rfl,fun i y q=>by simp at q⟩
 | succ n ih =>
   obtain⟨L,h1,h2⟩:=ih (fun i hi=>h i (by omega));obtain⟨y,hy⟩:=h n (by omega);refine⟨L++[y],by simp[h1],fun i z hz=>?_⟩
   by_cases hi:i < n
   ·rw [List.getElem?_append_left (by omega)] at hz;exact h2 i z hz
   ·rw [List.getElem?_append_right (by omega)] at hz
    have:i - L.length=0:=by
     have:=(List.getElem?_eq_some_iff.1 hz).1;simp at this;omega
    rw[this] at hz;simp at hz;subst hz;rw[show i=n by omega];exact hy
section
variable {H:Type} {enc:TypeId× Value→H} {w:World} {base:Nat} {spare:Nat→Bool} {held:Bool}
theorem open_row{α:Type}(Q:World→Nat→Nat→α→Prop)(s:Nat)(st et:TypeId)(hst:Tryz.prog.underlying st=some (.slice et))(hs:Tryz.prog.cellsOf et=s)(h0:0 < s)
 (key:∀(m:Nat) (cs:List Value) (x:DataW H× List MemPlace) (B O:Nat),DataW.trod enc Tryz.prog w base spare held m et cs=some x→(∀i,i < s→w.cell? ⟨B,O+i,none⟩=cs[i]?)→cs.length=s→∃y:α,Q w B O y)
 (fuel:Nat) (cs:List Value) (x:DataW H× List MemPlace) (h:DataW.trod enc Tryz.prog w base spare held fuel st cs=some x) :
 ∃(L:List α) (p:Option Addr) (cap:Nat),cs=[.slice p L.length cap]∧RowV Q s w L p∧L.length≤cap:=by
 rcases DataW.trod_slice hst h with ⟨rfl,-⟩|⟨a,n,cap,elems,rest,m,rfl,rfl,hx,hb,hl,hm,hlen,hel,-,-⟩
 ·exact⟨[],none,0,rfl,⟨Nat.zero_le _,0,0,fun q=>absurd rfl q,fun i x q=>by simp at q⟩,Nat.zero_le _⟩
 ·have hn:n≤9223372036854775807:=Nat.le_trans hl hm
  have cellsOk:∀i,i < n→∃(cs':List Value) (z:DataW H× List MemPlace),DataW.trod enc Tryz.prog w base spare held m et cs'=some z∧cs'.length=s∧∀k,k < s→w.cell? ((a.add (i * s)).add k)=cs'[k]?:=by
   intro i hi;have q:=hel i hi;rw[List.getElem?_eq_getElem (by omega),hs] at q;obtain⟨cs',hc,ht⟩:=Option.bind_eq_some_iff.1 q;obtain⟨-,h4,hcell⟩:=World.cells?_some hc;exact⟨cs',_,ht,h4,hcell⟩
  by_cases hz:n=0
  ·subst hz;exact⟨[],some a,cap,rfl,⟨Nat.zero_le _,0,0,fun q=>absurd rfl q,fun i x q=>by simp at q⟩,Nat.zero_le _⟩
  ·have hsp:a.spot=none:=by
    obtain⟨cs',z,-,h4,hc⟩:=cellsOk 0 (by omega);have q:=hc 0 h0;rw[List.getElem?_eq_getElem (by omega)] at q;exact uI (by simpa [Addr.add] using q)
   obtain ⟨L,hL,hQ⟩:=Ue (Q:=fun i y=>Q w a.block (a.off+i * s) y) n (fun i hi=>by
    obtain⟨cs',z,ht,h4,hc⟩:=cellsOk i hi;refine key m cs' z a.block (a.off+i * s) ht (fun k hk=>?_) h4;have q:=hc k hk;rw[Go.Deep.add_add,xB _ _ hsp,← Nat.add_assoc] at q;exact q)
   refine⟨L,some a,cap,by rw[hL],⟨by omega,a.block,a.off,fun _=>?_,hQ⟩,by omega⟩;obtain⟨b,o,sp⟩:=a;dsimp only at hsp;subst hsp;rfl
theorem Jm{B O:Nat}{c0 c1 c2 c3:Value}(h:Vz w [c0,c1,c2,c3])(k0:w.cell? ⟨B,O,none⟩=some c0)(k1:w.cell? ⟨B,O+1,none⟩=some c1)(k2:w.cell? ⟨B,O+2,none⟩=some c2)(k3:w.cell? ⟨B,O+3,none⟩=some c3) :
 ∃(b o:Nat) (a:Nd) (k:Fo),X4 w B O b o a k:=by
 obtain⟨a,k,b,o,he,hx,hok,-⟩:=h;simp only[List.cons.injEq,and_true] at he;obtain⟨rfl,rfl,rfl,rfl⟩:=he;exact⟨b,o,a,k,⟨k0,k1,k2,k3⟩,hx,hok⟩
theorem Tryz.cells_Const:Tryz.prog.cellsOf 85=5:=by kernel_rfl
theorem Qy(m:Nat)(cs:List Value)(x:DataW H× List MemPlace)(B O:Nat)(h:DataW.trod enc Tryz.prog w base spare held m 85 cs=some x)(hc:∀i,i < 5→w.cell? ⟨B,O+i,none⟩=cs[i]?)(hl:cs.length=5):∃y:Cn,CnP w B O y:=by
 obtain⟨xs,n,rfl,-,-,hx,hf⟩:=DataW.trod_struct Tryz.underlying85 h
 match cs,hl,xs,hx with
 | [c0,c1,c2,c3,c4],_,[y0,y1],_ =>
   have hk:∀(i:Nat) (v:Value),i < 5→[c0,c1,c2,c3,c4][i]?=some v→w.cell? ⟨B,O+i,none⟩=some v:=fun i v hi hv=>(hc i hi).trans hv;have g0:DataW.trod enc Tryz.prog w base spare held n 9 (List.take (Tryz.prog.cellsOf 9) (List.drop 0 [c0,c1,c2,c3,c4]))=some y0:=hf 0 _ rfl;have g1:DataW.trod enc Tryz.prog w base spare held n 24 (List.take (Tryz.prog.cellsOf 24) (List.drop 1 [c0,c1,c2,c3,c4]))=some y1:=hf 1 _ rfl;rw[Tryz.cellsS] at g0;rw[Tryz.cellsE] at g1;simp only[List.drop,List.take] at g0 g1;obtain⟨v0,e0,-,w0⟩:=DataW.trod_string Tryz.underlying9 g0;obtain⟨b,o,a,k,hX⟩:=Jm (w:=w) (B:=B) (O:=O+1) (xR _ _ _ g1) (hk 1 _ (by omega) rfl) (hk 2 _ (by omega) rfl) (hk 3 _ (by omega) rfl) (hk 4 _ (by omega) rfl);simp only[List.cons.injEq,and_true] at e0;subst e0;exact⟨⟨v0,b,o,a,k⟩,hk 0 _ (by omega) rfl,hX,w0⟩
theorem Tryz.cells_Rule:Tryz.prog.cellsOf 87=6:=by kernel_rfl
theorem YU(m:Nat)(cs:List Value)(x:DataW H× List MemPlace)(B O:Nat)(h:DataW.trod enc Tryz.prog w base spare held m 87 cs=some x)(hc:∀i,i < 6→w.cell? ⟨B,O+i,none⟩=cs[i]?)(hl:cs.length=6):∃y:Ru,RuP w B O y:=by
 obtain⟨xs,n,rfl,-,-,hx,hf⟩:=DataW.trod_struct Tryz.underlying87 h
 match cs,hl,xs,hx with
 | [c0,c1,c2,c3,c4,c5],_,[y0,y1,y2],_ =>
   have hk:∀(i:Nat) (v:Value),i < 6→[c0,c1,c2,c3,c4,c5][i]?=some v→w.cell? ⟨B,O+i,none⟩=some v:=fun i v hi hv=>(hc i hi).trans hv;have g0:DataW.trod enc Tryz.prog w base spare held n 3 (List.take (Tryz.prog.cellsOf 3) (List.drop 0 [c0,c1,c2,c3,c4,c5]))=some y0:=hf 0 _ rfl;have g1:DataW.trod enc Tryz.prog w base spare held n 9 (List.take (Tryz.prog.cellsOf 9) (List.drop 1 [c0,c1,c2,c3,c4,c5]))=some y1:=hf 1 _ rfl;have g2:DataW.trod enc Tryz.prog w base spare held n 24 (List.take (Tryz.prog.cellsOf 24) (List.drop 2 [c0,c1,c2,c3,c4,c5]))=some y2:=hf 2 _ rfl;rw[Tryz.cellsI] at g0;rw[Tryz.cellsS] at g1;rw[Tryz.cellsE] at g2;simp only[List.drop,List.take] at g0 g1 g2;obtain⟨v0,e0,-,w0⟩:=DataW.trod_int Tryz.underlying3 g0;obtain⟨v1,e1,-,w1⟩:=DataW.trod_string Tryz.underlying9 g1;obtain⟨b,o,a,k,hX⟩:=Jm (w:=w) (B:=B) (O:=O+2) (xR _ _ _ g2) (hk 2 _ (by omega) rfl) (hk 3 _ (by omega) rfl) (hk 4 _ (by omega) rfl) (hk 5 _ (by omega) rfl);simp only[List.cons.injEq,and_true] at e0 e1;subst e0 e1;exact⟨⟨v0,v1,b,o,a,k⟩,hk 0 _ (by omega) rfl,hk 1 _ (by omega) rfl,hX,yo w0,w1⟩
theorem Tryz.cells_Cost:Tryz.prog.cellsOf 89=5:=by kernel_rfl
theorem YV(m:Nat)(cs:List Value)(x:DataW H× List MemPlace)(B O:Nat)(h:DataW.trod enc Tryz.prog w base spare held m 89 cs=some x)(hc:∀i,i < 5→w.cell? ⟨B,O+i,none⟩=cs[i]?)(hl:cs.length=5):∃y:Co,CoP w B O y:=by
 obtain⟨xs,n,rfl,-,-,hx,hf⟩:=DataW.trod_struct Tryz.underlying89 h
 match cs,hl,xs,hx with
 | [c0,c1,c2,c3,c4],_,[y0,y1],_ =>
   have hk:∀(i:Nat) (v:Value),i < 5→[c0,c1,c2,c3,c4][i]?=some v→w.cell? ⟨B,O+i,none⟩=some v:=fun i v hi hv=>(hc i hi).trans hv;have g0:DataW.trod enc Tryz.prog w base spare held n 3 (List.take (Tryz.prog.cellsOf 3) (List.drop 0 [c0,c1,c2,c3,c4]))=some y0:=hf 0 _ rfl;have g1:DataW.trod enc Tryz.prog w base spare held n 24 (List.take (Tryz.prog.cellsOf 24) (List.drop 1 [c0,c1,c2,c3,c4]))=some y1:=hf 1 _ rfl;rw[Tryz.cellsI] at g0;rw[Tryz.cellsE] at g1;simp only[List.drop,List.take] at g0 g1;obtain⟨v0,e0,-,w0⟩:=DataW.trod_int Tryz.underlying3 g0;obtain⟨b,o,a,k,hX⟩:=Jm (w:=w) (B:=B) (O:=O+1) (xR _ _ _ g1) (hk 1 _ (by omega) rfl) (hk 2 _ (by omega) rfl) (hk 3 _ (by omega) rfl) (hk 4 _ (by omega) rfl);simp only[List.cons.injEq,and_true] at e0;subst e0;exact⟨⟨v0,b,o,a,k⟩,hk 0 _ (by omega) rfl,hX,yo w0⟩
theorem Tryz.cells_Limit:Tryz.prog.cellsOf 91=4:=by kernel_rfl
theorem Qx(m:Nat)(cs:List Value)(x:DataW H× List MemPlace)(B O:Nat)(h:DataW.trod enc Tryz.prog w base spare held m 91 cs=some x)(hc:∀i,i < 4→w.cell? ⟨B,O+i,none⟩=cs[i]?)(hl:cs.length=4):∃y:Li,LiP w B O y:=by
 obtain⟨xs,n,rfl,-,-,hx,hf⟩:=DataW.trod_struct Tryz.underlying91 h
 match cs,hl,xs,hx with
 | [c0,c1,c2,c3],_,[y0,y1,y2,y3],_ =>
   have hk:∀(i:Nat) (v:Value),i < 4→[c0,c1,c2,c3][i]?=some v→w.cell? ⟨B,O+i,none⟩=some v:=fun i v hi hv=>(hc i hi).trans hv;have g0:DataW.trod enc Tryz.prog w base spare held n 9 (List.take (Tryz.prog.cellsOf 9) (List.drop 0 [c0,c1,c2,c3]))=some y0:=hf 0 _ rfl;have g1:DataW.trod enc Tryz.prog w base spare held n 9 (List.take (Tryz.prog.cellsOf 9) (List.drop 1 [c0,c1,c2,c3]))=some y1:=hf 1 _ rfl;have g2:DataW.trod enc Tryz.prog w base spare held n 3 (List.take (Tryz.prog.cellsOf 3) (List.drop 2 [c0,c1,c2,c3]))=some y2:=hf 2 _ rfl;have g3:DataW.trod enc Tryz.prog w base spare held n 3 (List.take (Tryz.prog.cellsOf 3) (List.drop 3 [c0,c1,c2,c3]))=some y3:=hf 3 _ rfl;rw[Tryz.cellsS] at g0;rw[Tryz.cellsS] at g1;rw[Tryz.cellsI] at g2;rw[Tryz.cellsI] at g3;simp only[List.drop,List.take] at g0 g1 g2 g3;obtain⟨v0,e0,-,w0⟩:=DataW.trod_string Tryz.underlying9 g0;obtain⟨v1,e1,-,w1⟩:=DataW.trod_string Tryz.underlying9 g1;obtain⟨v2,e2,-,w2⟩:=DataW.trod_int Tryz.underlying3 g2;obtain⟨v3,e3,-,w3⟩:=DataW.trod_int Tryz.underlying3 g3;simp only[List.cons.injEq,and_true] at e0 e1 e2 e3;subst e0 e1 e2 e3;exact⟨⟨v0,v1,v2,v3⟩,hk 0 _ (by omega) rfl,hk 1 _ (by omega) rfl,hk 2 _ (by omega) rfl,hk 3 _ (by omega) rfl,yo w2,yo w3,w0,w1⟩
theorem Tryz.cells_Off:Tryz.prog.cellsOf 93=3:=by kernel_rfl
theorem JP(m:Nat)(cs:List Value)(x:DataW H× List MemPlace)(B O:Nat)(h:DataW.trod enc Tryz.prog w base spare held m 93 cs=some x)(hc:∀i,i < 3→w.cell? ⟨B,O+i,none⟩=cs[i]?)(hl:cs.length=3):∃y:Of,OfP w B O y:=by
 obtain⟨xs,n,rfl,-,-,hx,hf⟩:=DataW.trod_struct Tryz.underlying93 h
 match cs,hl,xs,hx with
 | [c0,c1,c2],_,[y0,y1,y2],_ =>
   have hk:∀(i:Nat) (v:Value),i < 3→[c0,c1,c2][i]?=some v→w.cell? ⟨B,O+i,none⟩=some v:=fun i v hi hv=>(hc i hi).trans hv;have g0:DataW.trod enc Tryz.prog w base spare held n 9 (List.take (Tryz.prog.cellsOf 9) (List.drop 0 [c0,c1,c2]))=some y0:=hf 0 _ rfl;have g1:DataW.trod enc Tryz.prog w base spare held n 3 (List.take (Tryz.prog.cellsOf 3) (List.drop 1 [c0,c1,c2]))=some y1:=hf 1 _ rfl;have g2:DataW.trod enc Tryz.prog w base spare held n 3 (List.take (Tryz.prog.cellsOf 3) (List.drop 2 [c0,c1,c2]))=some y2:=hf 2 _ rfl;rw[Tryz.cellsS] at g0;rw[Tryz.cellsI] at g1;rw[Tryz.cellsI] at g2;simp only[List.drop,List.take] at g0 g1 g2;obtain⟨v0,e0,-,w0⟩:=DataW.trod_string Tryz.underlying9 g0;obtain⟨v1,e1,-,w1⟩:=DataW.trod_int Tryz.underlying3 g1;obtain⟨v2,e2,-,w2⟩:=DataW.trod_int Tryz.underlying3 g2;simp only[List.cons.injEq,and_true] at e0 e1 e2;subst e0 e1 e2;exact⟨⟨v0,v1,v2⟩,hk 0 _ (by omega) rfl,hk 1 _ (by omega) rfl,hk 2 _ (by omega) rfl,yo w1,yo w2,w0⟩
theorem Tryz.cells_Ct:Tryz.prog.cellsOf 43=14:=by kernel_rfl
theorem Tryz.cells_Consts:Tryz.prog.cellsOf 37=1:=by kernel_rfl
theorem Tryz.cells_Rules:Tryz.prog.cellsOf 38=1:=by kernel_rfl
theorem Tryz.cells_Costs:Tryz.prog.cellsOf 39=1:=by kernel_rfl
theorem Tryz.cells_Limits:Tryz.prog.cellsOf 40=1:=by kernel_rfl
theorem Tryz.cells_Offs:Tryz.prog.cellsOf 41=1:=by kernel_rfl
theorem ux{v:Value}{d:DataW H}{pl:List MemPlace}{r:Reach}{b0:Nat}(hv:Value.okWide Tryz.prog w r b0 43 v)(h:DataW.Trod enc Tryz.prog w base spare held 43 v d pl) :
 ∃(c:Ct) (p:Cp),v=.agg #[.int .i64 c.rep,.int .i64 c.rel,.int .i64 c.con,.int .i64 c.sit,.int .i64 c.lay,.int .i64 c.nf,.int .i64 c.nt,.slice p.cs c.cs.length p.ccs,.slice p.rs c.rs.length p.crs,.slice p.os c.os.length p.cos,.slice p.cr (len c.cr) p.ccr,.slice p.ls c.ls.length p.cls,.slice p.fs c.fs.length p.cfs,.int .i64 c.gua]∧CtV w c p:=by
 obtain⟨⟨l⟩,rfl,ym⟩:=okWide_struct Tryz.underlying43 hv;obtain⟨fuel,hf0⟩:=h;have hf1:DataW.trod enc Tryz.prog w base spare held fuel 43 l=some (d,pl):=hf0;obtain⟨xs,n,rfl,-,h14,hx,hf⟩:=DataW.trod_struct Tryz.underlying43 hf1;rw[Tryz.cells_Ct] at h14;clear hf0 hf1 ym hv
 match l,h14,xs,hx with
 | [c0,c1,c2,c3,c4,c5,c6,c7,c8,c9,c10,c11,c12,c13],_,[y0,y1,y2,y3,y4,y5,y6,y7,y8,y9,y10,y11,y12,y13],_ =>
   have g0:DataW.trod enc Tryz.prog w base spare held n 3 (List.take (Tryz.prog.cellsOf 3) (List.drop 0 [c0,c1,c2,c3,c4,c5,c6,c7,c8,c9,c10,c11,c12,c13]))=some y0:=hf 0 _ rfl;have g1:DataW.trod enc Tryz.prog w base spare held n 3 (List.take (Tryz.prog.cellsOf 3) (List.drop 1 [c0,c1,c2,c3,c4,c5,c6,c7,c8,c9,c10,c11,c12,c13]))=some y1:=hf 1 _ rfl;have g2:DataW.trod enc Tryz.prog w base spare held n 3 (List.take (Tryz.prog.cellsOf 3) (List.drop 2 [c0,c1,c2,c3,c4,c5,c6,c7,c8,c9,c10,c11,c12,c13]))=some y2:=hf 2 _ rfl;have g3:DataW.trod enc Tryz.prog w base spare held n 3 (List.take (Tryz.prog.cellsOf 3) (List.drop 3 [c0,c1,c2,c3,c4,c5,c6,c7,c8,c9,c10,c11,c12,c13]))=some y3:=hf 3 _ rfl;have g4:DataW.trod enc Tryz.prog w base spare held n 3 (List.take (Tryz.prog.cellsOf 3) (List.drop 4 [c0,c1,c2,c3,c4,c5,c6,c7,c8,c9,c10,c11,c12,c13]))=some y4:=hf 4 _ rfl;have g5:DataW.trod enc Tryz.prog w base spare held n 3 (List.take (Tryz.prog.cellsOf 3) (List.drop 5 [c0,c1,c2,c3,c4,c5,c6,c7,c8,c9,c10,c11,c12,c13]))=some y5:=hf 5 _ rfl;have g6:DataW.trod enc Tryz.prog w base spare held n 3 (List.take (Tryz.prog.cellsOf 3) (List.drop 6 [c0,c1,c2,c3,c4,c5,c6,c7,c8,c9,c10,c11,c12,c13]))=some y6:=hf 6 _ rfl;have g7:DataW.trod enc Tryz.prog w base spare held n 37 (List.take (Tryz.prog.cellsOf 37) (List.drop 7 [c0,c1,c2,c3,c4,c5,c6,c7,c8,c9,c10,c11,c12,c13]))=some y7:=hf 7 _ rfl;have g8:DataW.trod enc Tryz.prog w base spare held n 38 (List.take (Tryz.prog.cellsOf 38) (List.drop 8 [c0,c1,c2,c3,c4,c5,c6,c7,c8,c9,c10,c11,c12,c13]))=some y8:=hf 8 _ rfl;have g9:DataW.trod enc Tryz.prog w base spare held n 39 (List.take (Tryz.prog.cellsOf 39) (List.drop 9 [c0,c1,c2,c3,c4,c5,c6,c7,c8,c9,c10,c11,c12,c13]))=some y9:=hf 9 _ rfl;have g10:DataW.trod enc Tryz.prog w base spare held n 22 (List.take (Tryz.prog.cellsOf 22) (List.drop 10 [c0,c1,c2,c3,c4,c5,c6,c7,c8,c9,c10,c11,c12,c13]))=some y10:=hf 10 _ rfl;have g11:DataW.trod enc Tryz.prog w base spare held n 40 (List.take (Tryz.prog.cellsOf 40) (List.drop 11 [c0,c1,c2,c3,c4,c5,c6,c7,c8,c9,c10,c11,c12,c13]))=some y11:=hf 11 _ rfl;have g12:DataW.trod enc Tryz.prog w base spare held n 41 (List.take (Tryz.prog.cellsOf 41) (List.drop 12 [c0,c1,c2,c3,c4,c5,c6,c7,c8,c9,c10,c11,c12,c13]))=some y12:=hf 12 _ rfl;have g13:DataW.trod enc Tryz.prog w base spare held n 3 (List.take (Tryz.prog.cellsOf 3) (List.drop 13 [c0,c1,c2,c3,c4,c5,c6,c7,c8,c9,c10,c11,c12,c13]))=some y13:=hf 13 _ rfl;rw[Tryz.cellsI] at g0;rw[Tryz.cellsI] at g1;rw[Tryz.cellsI] at g2;rw[Tryz.cellsI] at g3;rw[Tryz.cellsI] at g4;rw[Tryz.cellsI] at g5;rw[Tryz.cellsI] at g6;rw[Tryz.cells_Consts] at g7;rw[Tryz.cells_Rules] at g8;rw[Tryz.cells_Costs] at g9;rw[Tryz.cellsL] at g10;rw[Tryz.cells_Limits] at g11;rw[Tryz.cells_Offs] at g12;rw[Tryz.cellsI] at g13;simp only[List.drop,List.take] at g0 g1 g2 g3 g4 g5 g6 g7 g8 g9 g10 g11 g12 g13;obtain⟨v0,e0,-,w0⟩:=DataW.trod_int Tryz.underlying3 g0;obtain⟨v1,e1,-,w1⟩:=DataW.trod_int Tryz.underlying3 g1;obtain⟨v2,e2,-,w2⟩:=DataW.trod_int Tryz.underlying3 g2;obtain⟨v3,e3,-,w3⟩:=DataW.trod_int Tryz.underlying3 g3;obtain⟨v4,e4,-,w4⟩:=DataW.trod_int Tryz.underlying3 g4;obtain⟨v5,e5,-,w5⟩:=DataW.trod_int Tryz.underlying3 g5;obtain⟨v6,e6,-,w6⟩:=DataW.trod_int Tryz.underlying3 g6;obtain⟨L7,p7,cap7,e7,hr7,hc7⟩:=open_row CnP 5 37 85 Tryz.underlying37 Tryz.cells_Const (by omega) Qy n _ _ g7;obtain⟨L8,p8,cap8,e8,hr8,hc8⟩:=open_row RuP 6 38 87 Tryz.underlying38 Tryz.cells_Rule (by omega) YU n _ _ g8;obtain⟨L9,p9,cap9,e9,hr9,hc9⟩:=open_row CoP 5 39 89 Tryz.underlying39 Tryz.cells_Cost (by omega) YV n _ _ g9;obtain⟨cr,pcr,ccr,kb,ko,e10,hp10,hat10,hok10,hl10,-⟩:=Ye n (fun m _=>xR m) _ _ g10;obtain⟨L11,p11,cap11,e11,hr11,hc11⟩:=open_row LiP 4 40 91 Tryz.underlying40 Tryz.cells_Limit (by omega) Qx n _ _ g11;obtain⟨L12,p12,cap12,e12,hr12,hc12⟩:=open_row OfP 3 41 93 Tryz.underlying41 Tryz.cells_Off (by omega) JP n _ _ g12;obtain⟨v13,e13,-,w13⟩:=DataW.trod_int Tryz.underlying3 g13;simp only[List.cons.injEq,and_true] at e0 e1 e2 e3 e4 e5 e6 e7 e8 e9 e10 e11 e12 e13;subst e0 e1 e2 e3 e4 e5 e6 e7 e8 e9 e10 e11 e12 e13;exact⟨⟨v0,v1,v2,v3,v4,v5,v6,v13,L7,L8,L9,cr,L11,L12⟩,⟨p7,p8,p9,pcr,p11,p12,cap7,cap8,cap9,ccr,cap11,cap12⟩,rfl,⟨hr7,hr8,hr9,⟨hl10,hok10,kb,ko,hp10,hat10⟩,hr11,hr12,⟨yo w0,yo w1,yo w2,yo w3,yo w4,yo w5,yo w6,yo w13⟩,hc7⟩⟩
end
theorem vI:(Rows.laid_internal_strconv_uint64pow10:DataW Unit)=Lib.tabData .u64 Lib.pow10Tab:=by kernel_rfl
theorem KP{W:World}(h:laidMetH Tryz.prog Rows.grammarWrittenRow.laid W):Tab W:=by
 have h:laidMetH Tryz.prog [("math/bits.deBruijn32tab",Rows.laid_math_bits_deBruijn32tab),("math/bits.deBruijn64tab",Rows.laid_math_bits_deBruijn64tab),("internal/strconv.uint64pow10",Rows.laid_internal_strconv_uint64pow10),("unicode/utf8.acceptRanges",Rows.laid_unicode_utf8_acceptRanges),("unicode/utf8.first",Rows.laid_unicode_utf8_first)] W:=h;rw[MakeChecks.laidMetH_plain _ _ _ (by kernel_rfl)] at h;have h2:=h.tail.tail;rw[vI] at h2;have q:=Lib.tabIs_of_head UF (t := 198) (n:=20) (e := 184) (by kernel_rfl) (by kernel_rfl) (by kernel_rfl) (by kernel_rfl) (by kernel_rfl) h2;exact⟨q,block_lt_of_cell (Lib.TabIs.cell q UF 0 (by decide))⟩
end Go.Proofs.YtcejjdmnlejbaaaGreatDoor
