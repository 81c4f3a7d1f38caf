import Derived.Test.YtcejjdmnlejbaaaGreatDoorWFpr
namespace Go.Proofs.YtcejjdmnlejbaaaGreatDoor
open Lib(hid)
set_option linter.unusedVariables false
set_option linter.unusedSimpArgs false
open Go.ChangeShapes Go.WideShapes Go.ChangeAt Go.RowKit
open Go.Deep (BT)
set_option maxHeartbeats 8000000
set_option maxRecDepth 100000
theorem U0{k:Fo}{A:List Ch}{b1 o1:Nat}{a1:Nd}{k1 r1:Fo}{S r:ByteArray}{pre:List UInt8}{j:Nat}(hF:∀c∈ Fp.kl k,Fp.Fst (Fp.F c))(hA:A.length=j)(hk:Fp.kl k=A++Fp.kl (.node b1 o1 a1 k1 r1))
 (hS:S.data.toList=pre++Fp.tJ' A) (hr:Fp.tB (Fp.F ⟨b1,o1,a1,k1⟩)=r):(A++[(⟨b1,o1,a1,k1⟩:Ch)]).length=j+1∧Fp.kl k=(A++[(⟨b1,o1,a1,k1⟩:Ch)])++Fp.kl r1∧
   (j=0→(S++r).data.toList=pre++Fp.tJ' (A++[⟨b1,o1,a1,k1⟩]))∧(0 < j→(S++⟨#[44,32]⟩++r).data.toList=pre++Fp.tJ' (A++[⟨b1,o1,a1,k1⟩])):=by
 have h1:Fp.Fst (Fp.F ⟨b1,o1,a1,k1⟩):=hF _ (by rw[hk];simp[Fp.kl]);refine⟨by simp[hA],by rw[hk];simp[Fp.kl],fun h0=>?_,fun h0=>?_⟩
 ·have e:A=[]:=List.length_eq_zero_iff.1 (by omega);subst e;rw[qP,hS,← hr]
  show(pre++[])++_=_
  rw[List.append_nil];rfl
 ·rw [Fp.tJ_snoc A _ (fun c hc=>hF c (by rw[hk];exact List.mem_append_left _ hc)) h1 (fun e=>by rw[e] at hA;simp at hA;omega),qP,qP,hS,← hr];simp only[List.append_assoc];rfl
theorem Vi(b o:Nat)(op num:Int)(name:ByteArray)(ptr:Option Addr)(cap:Nat)(k:Fo)(ih:xo zr k)(h:op=12∨op=13)(h2:2≤len k):zr b o ⟨op,num,name,ptr,cap⟩ k:=by
 intro w ht hx hok hw hs;have hfs:=Fp.fst_kl (c:=⟨b,o,⟨op,num,name,ptr,cap⟩,k⟩) hw;have hwT:za k=true:=by rw[Bool.and_eq_true] at hw;exact hw.2
 have hkn:k≠.nil:=by rintro rfl;simp[len] at h2
 obtain rfl:ptr=some ⟨b,o,none⟩:=hx.1 hkn;have hl9:len k≤199:=Nat.le_trans (xy k) hs;have HX:=hid hx.2;have HT:=hid ht;have HF:=hid hfs;have IH:=hid ih;have HOK:=hid hok.2;have HW:=hid hwT;have HS:=hid hs
 have EQ:Hid (∀S:ByteArray,S.data.toList=(if op=12 then [109,105,110,40] else [109,97,120,40])++Fp.tJ' (Fp.kl k)→S++⟨#[41]⟩=Fp.tB (Fp.F ⟨b,o,⟨op,num,name,some ⟨b,o,none⟩,cap⟩,k⟩)):=fun S hS=>by
  apply Fp.ba_eq;rw[qP,hS];rcases h with rfl|rfl
  ·refine Eq.trans ?_ (Fp.b12 ⟨b,o,⟨12,num,name,some ⟨b,o,none⟩,cap⟩,k⟩ rfl).symm;rw[if_pos rfl,List.append_assoc]
  ·refine Eq.trans ?_ (Fp.b13 ⟨b,o,⟨13,num,name,some ⟨b,o,none⟩,cap⟩,k⟩ rfl).symm;rw[if_neg (by decide),List.append_assoc]
 clear hfs hwT hkn hx hok hw hs ht ih h2
 show Calls Tryz.prog 29 #[.agg #[.int .i64 op,.int .i64 num,.string name,.slice (some ⟨b,o,none⟩) (len k) cap]] w _
 obtain⟨X,hX⟩:∃X,Fp.tB (Fp.F ⟨b,o,⟨op,num,name,some ⟨b,o,none⟩,cap⟩,k⟩)=X:=⟨_,rfl⟩;rw[hX] at EQ ⊢;obtain⟨pre,hpre⟩:∃pre:List UInt8,(if op=12 then [109,105,110,40] else [109,97,120,40])=pre:=⟨_,rfl⟩;rw[hpre] at EQ;have HP:=hid hpre;clear hX hpre;rcases h with rfl|rfl
 all_goals
  go_enter Tryz.func29,Tryz.ntmps29;go_wp2_with fail
  go_loopw [3,4] (fun s i wr=>∃(S:ByteArray) (j:Nat) (r:Fo),s=.string S∧i=.int .i64 j∧S.size≤4+201002 * j∧wr.cell? ⟨w.heap.size,3,none⟩=some (.slice (some ⟨b,o,none⟩) (len k) cap)∧w.heap.size < wr.heap.size∧
   Hid (j+len r=len k∧FoAt wr r b (o+j * 4)∧je r∧xo zr r∧Below w.heap.size w wr∧za r=true∧sz r≤199∧∃A,A.length=j∧Fp.kl k=A++Fp.kl r∧S.data.toList=pre++Fp.tJ' A)) (fun _ i _=>len k - (intOf i).toNat)
  case atStart =>
   refine⟨_,0,k,rfl,rfl,by decide,by simp,by simp,by omega,?_,HOK.out,IH.out,ba1,HW.out,HS.out,[],rfl,rfl,by rw[← HP.out];rfl⟩;rw[Nat.zero_mul,Nat.add_zero];exact HX.out.next ba1
  case round =>
   obtain⟨S,j,r,rfl,rfl,hS,hc,ym,HR⟩:=hrel;cases r with
   | nil =>
     have hj:¬(j:Int) < (len k:Int):=(by have:=HR.out.1;simp[len] at this;omega);have hj9:j≤199:=by have:=HR.out.1;simp[len] at this;omega
     have E:Hid (S++⟨#[41]⟩=X):=by
      obtain⟨-,-,-,-,-,-,-,A,a1,a2,a3⟩:=HR.out;apply EQ.out;rw[a3,a2];simp[Fp.kl]
     go_wp2;go_ret;exact⟨by rw[E.out];rfl,HR.out.2.2.2.2.1⟩
   | node b1 o1 a1 k1 r1 =>
     have hj:j < len k:=(by have:=HR.out.1;simp[len] at this;omega);obtain⟨g1,⟨⟨c0,c1,c2,c3⟩,hp1,hk1,hr1⟩,g3,g4,g5,g6,g7,g8⟩:=HR.out;have g6':=g6;unfold za at g6';rw[Bool.and_eq_true] at g6';have e7:sz (BT.node b1 o1 a1 k1 r1)=1+sz k1+sz r1:=rfl;have hq:=jU (b:=b1) (o:=o1) g6'.1 (by omega)
     have X1:Hid (∀W,Below wr.heap.size wr W→Calls Tryz.prog 29 #[.agg #[.int .i64 a1.op,.int .i64 a1.num,.string a1.name,.slice a1.ptr (len k1) a1.cap]] W fun e w'=>e=.returned (.string (Fp.tB (Fp.F ⟨b1,o1,a1,k1⟩)))∧Below W.heap.size W w') :=
      fun W hb=>g4.1 W (HT.out.next (g5.trans (hb.mono g5.size))) (ExAt.next ⟨hp1,hk1⟩ hb) ⟨g3.1,g3.2.1⟩ g6'.1 (by omega)
     obtain⟨rr,hrr⟩:∃rr,Fp.tB (Fp.F ⟨b1,o1,a1,k1⟩)=rr:=⟨_,rfl⟩;rw[hrr] at hq X1
     have HE:Hid (∃A,(A.length=j+1∧Fp.kl k=A++Fp.kl r1)∧(j=0→(S++rr).data.toList=pre++Fp.tJ' A)∧(0 < j→(S++⟨#[44,32]⟩++rr).data.toList=pre++Fp.tJ' A)):=by
      obtain⟨A,q1,q2,q3⟩:=g8;have q:=U0 HF.out q1 q2 q3 hrr;exact⟨_,⟨q.1,q.2.1⟩,q.2.2.1,q.2.2.2⟩
     have N1:=hid (And.intro hr1 (And.intro g3.2.2 (And.intro g4.2 (And.intro g6'.2 (show sz r1≤199 by omega)))));have BW:=hid g5;have HJ:Hid (j+1+len r1=len k):=(by unfold Hid;simp[len] at g1;omega);have hj9:j≤199:=(by omega);have hj1:(j:Int) < (len k:Int):=(by omega);clear hrr hp1 hk1 hr1 g1 g3 g4 g5 g6 g6' g7 g8 e7 HR
     by_cases h0:j=0
     ·have j0:¬ 0 < j:=by omega
      have H0:=hid h0;clear h0;go_wp2_with (go_at_call 29;refine(X1.out _ (by first|exact Below.refl _ _)).mono ?_;rintro e w1 ⟨rfl,hb⟩;have hc':w1.cell? ⟨w.heap.size,3,none⟩=some (.slice (some ⟨b,o,none⟩) (len k) cap):=(hb.cell (p:=⟨w.heap.size,3,none⟩) ym).trans hc;have hz':w.heap.size < w1.heap.size:=Nat.lt_of_lt_of_le ym hb.size;have N2:=hid (N1.out.1.next hb);have B2:=hid (bt9 BW hb);clear hc c0 c1 c2 c3 hb ym)
      go_roundw
      case rel =>
       obtain⟨A,⟨q1,q2⟩,q3,q4⟩:=HE.out;exact⟨_,j+1,r1,rfl,by go_num,by rw[ByteArray.size_append];omega,hc',hz',HJ.out,by rw[Nat.add_mul,Nat.one_mul,← Nat.add_assoc];exact N2.out,N1.out.2.1,N1.out.2.2.1,B2.out,N1.out.2.2.2.1,N1.out.2.2.2.2,A,q1,q2,q3 H0.out⟩
      case measure=>simp[intOf];omega
     ·have j0:0 < j:=by omega
      clear h0;go_wp2_with (go_at_call 29;refine(X1.out _ (by first|exact Below.refl _ _)).mono ?_;rintro e w1 ⟨rfl,hb⟩;have hc':w1.cell? ⟨w.heap.size,3,none⟩=some (.slice (some ⟨b,o,none⟩) (len k) cap):=(hb.cell (p:=⟨w.heap.size,3,none⟩) ym).trans hc;have hz':w.heap.size < w1.heap.size:=Nat.lt_of_lt_of_le ym hb.size;have N2:=hid (N1.out.1.next hb);have B2:=hid (bt9 BW hb);clear hc c0 c1 c2 c3 hb ym)
      go_roundw
      case rel =>
       obtain⟨A,⟨q1,q2⟩,q3,q4⟩:=HE.out;exact⟨_,j+1,r1,rfl,by go_num,by rw[ByteArray.size_append,ByteArray.size_append];show S.size+2+rr.size≤_;omega,hc',hz',HJ.out,by rw[Nat.add_mul,Nat.one_mul,← Nat.add_assoc];exact N2.out,N1.out.2.1,N1.out.2.2.1,B2.out,N1.out.2.2.2.1,N1.out.2.2.2.2,A,q1,q2,q4 j0⟩
      case measure=>simp[intOf];omega
theorem ki(b o:Nat)(a:Nd)(k:Fo):zr b o a k:=by
 refine jf (P:=zr) ?_ b o a k;clear b o a k;intro b o a k ih w ht hx hok hw hs;obtain⟨op,num,name,ptr,cap⟩:=a;rcases Fp.shape ⟨op,num,name,ptr,cap⟩ k hw with ⟨h,rfl⟩|⟨h,b1,o1,a1,k1,rfl⟩|⟨h,h2⟩|⟨h,b1,o1,a1,k1,b2,o2,a2,k2,b3,o3,a3,k3,rfl⟩|⟨h,b1,o1,a1,k1,b2,o2,a2,k2,rfl⟩
 ·exact Vj b o op num name ptr cap w ht hok hw h
 ·exact rone b o op num name ptr cap b1 o1 a1 k1 ih.1 h w ht hx hok hw hs
 ·exact Vi b o op num name ptr cap k ih h h2 w ht hx hok hw hs
 ·rcases h with h|h
  ·exact rifc b o op num name ptr cap b1 o1 a1 k1 b2 o2 a2 k2 b3 o3 a3 k3 ih.1 ih.2.1 ih.2.2.1 h w ht hx hok hw hs
  ·exact rinc b o op num name ptr cap b1 o1 a1 k1 b2 o2 a2 k2 b3 o3 a3 k3 ih.1 ih.2.1 ih.2.2.1 h w ht hx hok hw hs
 ·exact rtwo b o op num name ptr cap b1 o1 a1 k1 b2 o2 a2 k2 ih.1 ih.2.1 h w ht hx hok hw hs
theorem xj{α β:Type} [DecidableEq β](f:α→β){L:List α}{i j:Nat}{y:α}{s:β}(hy:L[i]?=some y)(hij:i < j)(h:f y=s):yr ((L.take j).map f) s=true:=by
 unfold yr;rw[decide_eq_true_eq,List.mem_map];exact⟨y,List.mem_of_getElem? (i:=i) (by rw[List.getElem?_take_of_lt hij];exact hy),h⟩
theorem jE{α β:Type} [DecidableEq β](f:α→β){L:List α}{i:Nat}{y:α}{s:β}(hy:L[i]?=some y)(h0:yr ((L.take i).map f) s=false)(h:f y≠s):yr ((L.take (i+1)).map f) s=false:=by
 rw[jw f hy,xz,h0];simp[Ne.symm h]
theorem vm{β:Type} [DecidableEq β](A B:List β)(s:β):yr (A++B) s=(yr A s || yr B s):=by
 unfold yr;rw[Bool.eq_iff_iff];simp
theorem jv{s t:ByteArray}(h:s≠t):(s.toList==t.toList)=false:=by
 rw[beq_eq_false_iff_ne,Lib.toList_data,Lib.toList_data];exact fun q=>h (ByteArray.ext (Array.toList_inj.1 q))
theorem toList_eq{s t:ByteArray}(h:s=t):(s.toList==t.toList)=true:=by rw[h];simp
theorem qO(n lo hi:Int)(w:World):Calls Tryz.prog 61 #[.int .i64 n,.int .i64 lo,.int .i64 hi] w fun e w'=>e=.returned (.bool (zw n lo hi))∧w=w':=by
 by_cases h1:lo≤n
 ·have hb:decide (n ≥ lo)=true:=decide_eq_true h1;go_enter Tryz.func61,Tryz.ntmps61;go_wp2
  all_goals
   go_ret;exact⟨qh (by unfold zw;simp[h1]),rfl⟩
 ·have hb:¬n ≥ lo:=h1;go_enter Tryz.func61,Tryz.ntmps61;go_wp2
  all_goals
   go_ret;exact⟨qh (by unfold zw;rw[decide_eq_false (by omega)]),rfl⟩
theorem jz(s:ByteArray)(w:World):Calls Tryz.prog 55 #[.string s] w fun e w'=>e=.returned (.int .i64 (qW s))∧w=w':=by
 have R:Hid (qW s=if yk.1.any (fun x=>s.toList==x)=true then 2 else if yk.2.any (fun x=>s.toList==x)=true then 1 else 0):=by unfold Hid qW;rw[Lib.toList_data]
 go_enter Tryz.func55,Tryz.ntmps55;go_wp2
 all_goals
  go_ret;refine⟨qg ?_,rfl⟩;rw[R.out];simp only[yk,List.any_cons,List.any_nil];clear R
  simp_all
theorem Jz(c:Ct)(p:Cp)(w:World)(hv:CtV w c p)(hl1:c.ls.length≤16)(hl2:c.fs.length≤16) :
 Calls Tryz.prog 63 #[.agg #[.int .i64 c.rep,.int .i64 c.rel,.int .i64 c.con,.int .i64 c.sit,.int .i64 c.lay,.int .i64 c.nf,.int .i64 c.nt,.slice p.cs c.cs.length p.ccs,.slice p.rs c.rs.length p.crs,.slice p.os c.os.length p.cos,.slice p.cr (len c.cr) p.ccr,.slice p.ls c.ls.length p.cls,.slice p.fs c.fs.length p.cfs,.int .i64 c.gua]] w fun e w'=>e=.returned (.int .i64 (uT c))∧Below w.heap.size w w':=by
 have HV:=hid hv;clear hv;obtain⟨RV,hRV⟩:∃R,uT c=R:=⟨_,rfl⟩;rw[hRV];obtain⟨RL,hRL⟩:∃R,fe (jk c.ls) 0 c.ls.length=R:=⟨_,rfl⟩;obtain⟨RO,hRO⟩:∃R,fe (jh c.ls c.fs) 0 c.fs.length=R:=⟨_,rfl⟩;have HWW:Hid (RV=kr RL RO):=by unfold Hid;rw[← hRV,← hRL,← hRO];rfl
 have HL:=hid hRL;have HO:=hid hRO;clear hRV hRL hRO;go_enter Tryz.func63,Tryz.ntmps63;go_upto_region 1 with (fail);have X0:=hid (CtBox.start w c p);have B0:Hid (Below w.heap.size w (w.alloc (.cells #[.int .i64 c.rep,.int .i64 c.rel,.int .i64 c.con,.int .i64 c.sit,.int .i64 c.lay,.int .i64 c.nf,.int .i64 c.nt,.slice p.cs c.cs.length p.ccs,.slice p.rs c.rs.length p.crs,.slice p.os c.os.length p.cos,.slice p.cr (len c.cr) p.ccr,.slice p.ls c.ls.length p.cls,.slice p.fs c.fs.length p.cfs,.int .i64 c.gua] 43))):=ba1;generalize w.alloc (.cells #[.int .i64 c.rep,.int .i64 c.rel,.int .i64 c.con,.int .i64 c.sit,.int .i64 c.lay,.int .i64 c.nf,.int .i64 c.nt,.slice p.cs c.cs.length p.ccs,.slice p.rs c.rs.length p.crs,.slice p.os c.os.length p.cos,.slice p.cr (len c.cr) p.ccr,.slice p.ls c.ls.length p.cls,.slice p.fs c.fs.length p.cfs,.int .i64 c.gua] 43)=w0 at *;go_wp2_with fail
 go_loopw [3] (fun i wr=>∃j:Nat,j≤c.ls.length∧i=.int .i64 j∧Hid (Below w.heap.size w wr∧CtBox wr w.heap.size c p∧fe (jk c.ls) j (c.ls.length - j)=RL)) (fun i _=>c.ls.length - (intOf i).toNat)
 case atStart=>exact⟨0,Nat.zero_le _,rfl,B0.out,X0.out,HL.out⟩
 case round =>
  obtain⟨j,hj,rfl,HR⟩:=hrel
  by_cases qD:j < c.ls.length
  ·obtain ⟨x,hc⟩:∃x,c.ls[j]?=some x:=⟨_,List.getElem?_eq_getElem (by omega)⟩;obtain⟨-,BL,OL,hpp,hrow⟩:=HV.out.ls;have ROW:=hid hrow;have HPls:=hid (hpp (by intro q;rw[q] at hc;simp at hc));obtain⟨d0,d1,d2,d3,-,-,hs,hs2⟩:=(hrow j x hc).next HR.out.1
   have hs':x.name.size≤maxLen:=hs;have hj1:(j:Int) < (c.ls.length:Int):=(by omega);have hj0:(0:Int)≤(j:Int):=(by omega);have FA:=hid ((kB (f:=jk c.ls) qD).symm.trans HR.out.2.2);have CA:=hid (vX c.ls j x hc);have c11:wr.cell? ⟨w.heap.size,11,none⟩=some (.slice (some ⟨BL,OL,none⟩) c.ls.length p.cls):=(by rw[← HPls.out];exact(HR.out.2.1).c11);clear hc hpp hrow;go_upto_region 5 with (fail);have B1:Hid (Below w.heap.size w (wr.alloc (.cells #[.string x.name,.string x.meas,.int .i64 x.most,.int .i64 x.days] 91))):=HR.out.1.alloc HR.out.1.size _;have X1:Hid (CtBox (wr.alloc (.cells #[.string x.name,.string x.meas,.int .i64 x.most,.int .i64 x.days] 91)) w.heap.size c p):=HR.out.2.1.next ba1
   have e0:(wr.alloc (.cells #[.string x.name,.string x.meas,.int .i64 x.most,.int .i64 x.days] 91)).cell? ⟨wr.heap.size,0,none⟩=some (.string x.name):=(by simp[go_sem]);have e1:(wr.alloc (.cells #[.string x.name,.string x.meas,.int .i64 x.most,.int .i64 x.days] 91)).cell? ⟨wr.heap.size,1,none⟩=some (.string x.meas):=(by simp[go_sem]);have e2:(wr.alloc (.cells #[.string x.name,.string x.meas,.int .i64 x.most,.int .i64 x.days] 91)).cell? ⟨wr.heap.size,2,none⟩=some (.int .i64 x.most):=(by simp[go_sem]);have e3:(wr.alloc (.cells #[.string x.name,.string x.meas,.int .i64 x.most,.int .i64 x.days] 91)).cell? ⟨wr.heap.size,3,none⟩=some (.int .i64 x.days):=(by simp[go_sem]);generalize wr.alloc (.cells #[.string x.name,.string x.meas,.int .i64 x.most,.int .i64 x.days] 91)=w1 at *;clear d0 d1 d2 d3 HR c11;generalize wr.heap.size=g at *;go_wp2_with fail;refine(zU x.name w1 hs).mono ?_;rintro e w2 ⟨he,hb⟩;have B2:=hid (bt9 B1 hb);have X2:=hid (X1.out.next hb);have k0:=qa e0 hb;have k1:=qa e1 hb;have k2:=qa e2 hb;have k3:=qa e3 hb;clear hb e0 e1 e2 e3;cases hD:yh x.name
   ·rw [hD] at he;subst he;have RQ:Hid (RL=1):=(by unfold Hid;rw[← FA.out,CA.out,hD];rfl);clear hD;go_wp2;go_ret;exact⟨qg (by rw[HWW.out,RQ.out];rfl),B2.out⟩
   rw[hD] at he;subst he;have HD:=hid hD;clear hD;have RH:Hid (yr ((c.ls.take j).map (·.name)) x.name=true→RV=7):=fun hU=>by rw[HWW.out,← FA.out,CA.out,HD.out,hU];rfl
   go_wp2_with fail
   go_loopw [5] (fun kk wq=>∃i:Nat,i≤j∧kk=.int .i64 i∧Hid (Below w2.heap.size w2 wq∧yr ((c.ls.take i).map (·.name)) x.name=false)) (fun kk _=>j - (intOf kk).toNat)
   case atStart=>exact⟨0,Nat.zero_le _,rfl,Below.refl _ _,rfl⟩
   case round =>
    obtain⟨i,hi,rfl,HI⟩:=hrel
    by_cases hij:i < j
    ·obtain ⟨y,hy⟩:∃y,c.ls[i]?=some y:=⟨_,List.getElem?_eq_getElem (by omega)⟩;have hij':(i:Int) < (j:Int):=(by omega);have hil:(i:Int) < (c.ls.length:Int):=(by omega);have hi0:(0:Int)≤(i:Int):=(by omega);have q0:=qa (ROW.out i y hy).1 (B2.out.trans (HI.out.1.mono B2.out.size));have c11:wr.cell? ⟨w.heap.size,11,none⟩=some (.slice (some ⟨BL,OL,none⟩) c.ls.length p.cls):=(by rw[← HPls.out];exact(X2.out.next HI.out.1).c11);have f0:=qa k0 HI.out.1;have f1:=qa k1 HI.out.1;have f2:=qa k2 HI.out.1;have f3:=qa k3 HI.out.1;have HY:=hid hy;clear hy
     by_cases hq:y.name=x.name
     ·have hb:=toList_eq hq;have RQ:=hid (RH.out (xj (·.name) HY.out hij hq));clear hq;go_wp2_with fail
      go_quiet (fail)
      go_wp2;go_ret;exact⟨qg RQ.out.symm,below_drewN (B2.out.trans (HI.out.1.mono B2.out.size)) _⟩
     ·have hb:=jv hq;have HQ:=hid hq;clear hq;go_wp2_with fail
      go_quiet (fail)
      go_wp2
      go_roundw
      case rel=>exact⟨i+1,by omega,by go_num,below_drewN HI.out.1 _,jE (·.name) HY.out HI.out.2 HQ.out⟩
      case measure=>simp[intOf];omega
    have hij':¬(i:Int) < (j:Int):=(by omega);have NB:=hid HI.out.1;have ND:Hid (yr ((c.ls.take j).map (·.name)) x.name=false):=(by unfold Hid;rw[show j=i by omega];exact HI.out.2);have DD:Hid (yr ((c.ls.take j).map (·.name)) x.name=false):=ND.out;have B3:=hid (B2.out.trans (NB.out.mono B2.out.size));have X3:=hid (X2.out.next NB.out);have n0:=qa k0 NB.out;have n1:=qa k1 NB.out;have n2:=qa k2 NB.out;have n3:=qa k3 NB.out;clear k0 k1 k2 k3 HI NB ND;obtain⟨mk,hmk⟩:∃mk,qW x.meas=mk:=⟨_,rfl⟩;have HK:=hid hmk
    by_cases hm0:mk=0
    ·have RQ:Hid (RL=6):=by unfold Hid;rw[← FA.out,CA.out,HD.out,DD.out,if_pos (hmk.trans hm0)];rfl
     have b0:(mk==0)=true:=(by simp[hm0]);clear hmk hm0;go_wp2_with (go_at_call 55;refine(jz _ _).mono ?_;rw[HK.out];rintro e w8 ⟨rfl,rfl⟩);go_ret;exact⟨qg (by rw[HWW.out,RQ.out];rfl),B3.out⟩
    have b0:(mk==0)=false:=(by simp[hm0]);have CB:Hid (jk c.ls j=if (zw x.most 0 599999 && zw x.days 1 31)=true then 0 else 5):=(by unfold Hid;rw[CA.out,HD.out,DD.out,if_neg (c:=qW x.meas=0) (fun q=>hm0 (hmk.symm.trans q))];rfl);clear hmk hm0;cases hM:zw x.most 0 599999
    ·have HM:=hid hM;have RQ:Hid (RL=5):=(by unfold Hid;rw[← FA.out,CB.out,hM];rfl);clear hM;go_wp2_with (first|(go_at_call 55;refine(jz _ _).mono ?_;rw[HK.out];rintro e w8 ⟨rfl,rfl⟩)|(go_at_call 61;refine(qO _ _ _ _).mono ?_;rw[HM.out];rintro e w8 ⟨rfl,rfl⟩));go_ret;exact⟨qg (by rw[HWW.out,RQ.out];rfl),B3.out⟩
    have HM:=hid hM;cases hY:zw x.days 1 31
    ·have HY:=hid hY;have RQ:Hid (RL=5):=(by unfold Hid;rw[← FA.out,CB.out,hM,hY];rfl);clear hM hY;go_wp2_with (first|(go_at_call 55;refine(jz _ _).mono ?_;rw[HK.out];rintro e w8 ⟨rfl,rfl⟩)|(go_at_call 61;refine(qO _ _ _ _).mono ?_;(first|rw[HM.out]|rw[HY.out]);rintro e w8 ⟨rfl,rfl⟩));go_ret;exact⟨qg (by rw[HWW.out,RQ.out];rfl),B3.out⟩
    have HY:=hid hY;have RQ:Hid (fe (jk c.ls) (j+1) (c.ls.length - (j+1))=RL):=(by unfold Hid;rw[← FA.out,CB.out,hM,hY];exact(yg _).symm);clear hM hY;go_wp2_with (first|(go_at_call 55;refine(jz _ _).mono ?_;rw[HK.out];rintro e w8 ⟨rfl,rfl⟩)|(go_at_call 61;refine(qO _ _ _ _).mono ?_;(first|rw[HM.out]|rw[HY.out]);rintro e w8 ⟨rfl,rfl⟩))
    go_roundw
    case rel=>exact⟨j+1,by omega,by go_num,B3.out,X3.out,RQ.out⟩
    case measure=>simp[intOf];omega
  have hj1:¬(j:Int) < (c.ls.length:Int):=by omega
  have RQ:Hid (RL=0):=by unfold Hid;rw[← HR.out.2.2,jr (by omega)]
  have HWO:Hid (RV=RO):=by unfold Hid;rw[HWW.out,RQ.out,yg]
  have BW:=hid HR.out.1;have XW:=hid HR.out.2.1;have c11:=XW.out.c11;clear HR;go_wp2_with fail;clear c11
  go_loopw [6] (fun i wr=>∃j:Nat,j≤c.fs.length∧i=.int .i64 j∧Hid (Below w.heap.size w wr∧CtBox wr w.heap.size c p∧fe (jh c.ls c.fs) j (c.fs.length - j)=RO)) (fun i _=>c.fs.length - (intOf i).toNat)
  case atStart=>exact⟨0,Nat.zero_le _,rfl,BW.out,XW.out,HO.out⟩
  case round =>
   obtain⟨j,hj,rfl,HR⟩:=hrel
   by_cases qD:j < c.fs.length
   ·obtain ⟨x,hc⟩:∃x,c.fs[j]?=some x:=⟨_,List.getElem?_eq_getElem (by omega)⟩;obtain⟨-,BF,OF,hpp,hrow⟩:=HV.out.fs;have ROW:=hid hrow;have HPfs:=hid (hpp (by intro q;rw[q] at hc;simp at hc));obtain⟨d0,d1,d2,-,-,hs⟩:=(hrow j x hc).next HR.out.1
    have hs':x.name.size≤maxLen:=hs;have hj1:(j:Int) < (c.fs.length:Int):=(by omega);have hj0:(0:Int)≤(j:Int):=(by omega);have FA:=hid ((kB (f:=jh c.ls c.fs) qD).symm.trans HR.out.2.2);have CA:=hid (vP c.ls c.fs j x hc);have c12:wr.cell? ⟨w.heap.size,12,none⟩=some (.slice (some ⟨BF,OF,none⟩) c.fs.length p.cfs):=(by rw[← HPfs.out];exact(HR.out.2.1).c12);clear hc hpp hrow;go_upto_region 20 with (fail);have B1:Hid (Below w.heap.size w (wr.alloc (.cells #[.string x.name,.int .i64 x.count,.int .i64 x.days] 93))):=HR.out.1.alloc HR.out.1.size _;have X1:Hid (CtBox (wr.alloc (.cells #[.string x.name,.int .i64 x.count,.int .i64 x.days] 93)) w.heap.size c p):=HR.out.2.1.next ba1
    have e0:(wr.alloc (.cells #[.string x.name,.int .i64 x.count,.int .i64 x.days] 93)).cell? ⟨wr.heap.size,0,none⟩=some (.string x.name):=(by simp[go_sem]);have e1:(wr.alloc (.cells #[.string x.name,.int .i64 x.count,.int .i64 x.days] 93)).cell? ⟨wr.heap.size,1,none⟩=some (.int .i64 x.count):=(by simp[go_sem]);have e2:(wr.alloc (.cells #[.string x.name,.int .i64 x.count,.int .i64 x.days] 93)).cell? ⟨wr.heap.size,2,none⟩=some (.int .i64 x.days):=(by simp[go_sem]);generalize wr.alloc (.cells #[.string x.name,.int .i64 x.count,.int .i64 x.days] 93)=w1 at *;clear d0 d1 d2 HR c12;generalize wr.heap.size=g at *;go_wp2_with fail;refine(zU x.name w1 hs).mono ?_;rintro e w2 ⟨he,hb⟩;have B2:=hid (bt9 B1 hb);have X2:=hid (X1.out.next hb);have k0:=qa e0 hb;have k1:=qa e1 hb;have k2:=qa e2 hb;clear hb e0 e1 e2;cases hD:yh x.name
    ·rw [hD] at he;subst he;have RQ:Hid (RO=1):=(by unfold Hid;rw[← FA.out,CA.out,hD];rfl);clear hD;go_wp2;go_ret;exact⟨qg (by rw[HWO.out,RQ.out]),B2.out⟩
    rw[hD] at he;subst he;have HD:=hid hD;clear hD;have RH1:Hid (yr ((c.ls.take c.ls.length).map (·.name)) x.name=true→RV=7):=fun hU=>by rw[List.take_length] at hU;rw[HWO.out,← FA.out,CA.out,HD.out,vm,hU];rfl
    have RH2:Hid (yr ((c.fs.take j).map (·.name)) x.name=true→RV=7):=fun hU=>by rw[HWO.out,← FA.out,CA.out,HD.out,vm,hU,Bool.or_true];rfl
    obtain⟨-,BL,OL,hppL,hrowL⟩:=HV.out.ls;have ROWL:=hid hrowL;have HPPL:=hid hppL;clear hppL;clear hrowL;have c11z:=X2.out.c11;go_wp2_with fail;clear c11z
    go_loopw [8] (fun kk wq=>∃i:Nat,i≤c.ls.length∧kk=.int .i64 i∧Hid (Below w2.heap.size w2 wq∧yr ((c.ls.take i).map (·.name)) x.name=false)) (fun kk _=>c.ls.length - (intOf kk).toNat)
    case atStart=>exact⟨0,Nat.zero_le _,rfl,Below.refl _ _,rfl⟩
    case round =>
     obtain⟨i,hi,rfl,HI⟩:=hrel;have c11z:=(X2.out.next HI.out.1).c11
     by_cases hij:i < c.ls.length
     ·obtain ⟨y,hy⟩:∃y,c.ls[i]?=some y:=⟨_,List.getElem?_eq_getElem (by omega)⟩;have HPls:=hid (HPPL.out (by intro q;rw[q] at hy;simp at hy));clear c11z;have hij':(i:Int) < (c.ls.length:Int):=(by omega);have hil:(i:Int) < (c.ls.length:Int):=(by omega);have hi0:(0:Int)≤(i:Int):=(by omega);have q0:=qa (ROWL.out i y hy).1 (B2.out.trans (HI.out.1.mono B2.out.size));have c11:wr.cell? ⟨w.heap.size,11,none⟩=some (.slice (some ⟨BL,OL,none⟩) c.ls.length p.cls):=(by rw[← HPls.out];exact(X2.out.next HI.out.1).c11);have f0:=qa k0 HI.out.1;have f1:=qa k1 HI.out.1;have f2:=qa k2 HI.out.1;have HY:=hid hy;clear hy
      by_cases hq:y.name=x.name
      ·have hb:=toList_eq hq;have RQ:=hid (RH1.out (xj (·.name) HY.out hij hq));clear hq;go_wp2_with fail
       go_quiet (fail)
       go_wp2;go_ret;exact⟨qg RQ.out.symm,below_drewN (B2.out.trans (HI.out.1.mono B2.out.size)) _⟩
      ·have hb:=jv hq;have HQ:=hid hq;clear hq;go_wp2_with fail
       go_quiet (fail)
       go_wp2
       go_roundw
       case rel=>exact⟨i+1,by omega,by go_num,below_drewN HI.out.1 _,jE (·.name) HY.out HI.out.2 HQ.out⟩
       case measure=>simp[intOf];omega
     have hij':¬(i:Int) < (c.ls.length:Int):=(by omega);have NB:=hid HI.out.1;have ND:Hid (yr ((c.ls.take c.ls.length).map (·.name)) x.name=false):=(by unfold Hid;rw[show c.ls.length=i by omega];exact HI.out.2);have ND1:Hid (yr (c.ls.map (·.name)) x.name=false):=(by have:=ND.out;rw[List.take_length] at this;exact this);have B2':=hid (B2.out.trans (NB.out.mono B2.out.size));have X2':=hid (X2.out.next NB.out);have m0:=qa k0 NB.out;have m1:=qa k1 NB.out;have m2:=qa k2 NB.out;clear k0 k1 k2 HI NB ND B2 X2;obtain⟨w2b,hw2b⟩:∃w2b:World,w2b=wr:=⟨_,rfl⟩;subst hw2b;go_wp2_with fail;clear c11z
     go_loopw [9] (fun kk wq=>∃i:Nat,i≤j∧kk=.int .i64 i∧Hid (Below w2b.heap.size w2b wq∧yr ((c.fs.take i).map (·.name)) x.name=false)) (fun kk _=>j - (intOf kk).toNat)
     case atStart=>exact⟨0,Nat.zero_le _,rfl,Below.refl _ _,rfl⟩
     case round =>
      obtain⟨i,hi,rfl,HI⟩:=hrel
      by_cases hij:i < j
      ·obtain ⟨y,hy⟩:∃y,c.fs[i]?=some y:=⟨_,List.getElem?_eq_getElem (by omega)⟩;have hij':(i:Int) < (j:Int):=(by omega);have hil:(i:Int) < (c.fs.length:Int):=(by omega);have hi0:(0:Int)≤(i:Int):=(by omega);have q0:=qa (ROW.out i y hy).1 (B2'.out.trans (HI.out.1.mono B2'.out.size));have c12:wr.cell? ⟨w.heap.size,12,none⟩=some (.slice (some ⟨BF,OF,none⟩) c.fs.length p.cfs):=(by rw[← HPfs.out];exact(X2'.out.next HI.out.1).c12);have f0:=qa m0 HI.out.1;have f1:=qa m1 HI.out.1;have f2:=qa m2 HI.out.1;have HY:=hid hy;clear hy
       by_cases hq:y.name=x.name
       ·have hb:=toList_eq hq;have RQ:=hid (RH2.out (xj (·.name) HY.out hij hq));clear hq;go_wp2_with fail
        go_quiet (fail)
        go_wp2;go_ret;exact⟨qg RQ.out.symm,below_drewN (B2'.out.trans (HI.out.1.mono B2'.out.size)) _⟩
       ·have hb:=jv hq;have HQ:=hid hq;clear hq;go_wp2_with fail
        go_quiet (fail)
        go_wp2
        go_roundw
        case rel=>exact⟨i+1,by omega,by go_num,below_drewN HI.out.1 _,jE (·.name) HY.out HI.out.2 HQ.out⟩
        case measure=>simp[intOf];omega
      have hij':¬(i:Int) < (j:Int):=(by omega);have NB:=hid HI.out.1;have ND:Hid (yr ((c.fs.take j).map (·.name)) x.name=false):=(by unfold Hid;rw[show j=i by omega];exact HI.out.2);have DD:Hid (yr (c.ls.map (·.name)++(c.fs.take j).map (·.name)) x.name=false):=(by unfold Hid;rw[vm,ND1.out,ND.out];rfl);have B3:=hid (B2'.out.trans (NB.out.mono B2'.out.size));have X3:=hid (X2'.out.next NB.out);have n0:=qa m0 NB.out;have n1:=qa m1 NB.out;have n2:=qa m2 NB.out;clear m0 m1 m2 HI NB ND;have CB:Hid (jh c.ls c.fs j=if (zw x.days 1 31 && zw x.count 1 x.days)=true then 0 else 5):=(by unfold Hid;rw[CA.out,HD.out,DD.out];rfl);cases hM:zw x.days 1 31
      ·have HM:=hid hM;have RQ:Hid (RO=5):=(by unfold Hid;rw[← FA.out,CB.out,hM];rfl);clear hM;go_wp2_with (first|(go_at_call 61;refine(qO _ _ _ _).mono ?_;rw[HM.out];rintro e w8 ⟨rfl,rfl⟩));go_ret;exact⟨qg (by rw[HWO.out,RQ.out]),B3.out⟩
      have HM:=hid hM;cases hY:zw x.count 1 x.days
      ·have HY:=hid hY;have RQ:Hid (RO=5):=(by unfold Hid;rw[← FA.out,CB.out,hM,hY];rfl);clear hM hY;go_wp2_with (first|(go_at_call 61;refine(qO _ _ _ _).mono ?_;(first|rw[HM.out]|rw[HY.out]);rintro e w8 ⟨rfl,rfl⟩));go_ret;exact⟨qg (by rw[HWO.out,RQ.out]),B3.out⟩
      have HY:=hid hY;have RQ:Hid (fe (jh c.ls c.fs) (j+1) (c.fs.length - (j+1))=RO):=(by unfold Hid;rw[← FA.out,CB.out,hM,hY];exact(yg _).symm);clear hM hY;go_wp2_with (first|(go_at_call 61;refine(qO _ _ _ _).mono ?_;(first|rw[HM.out]|rw[HY.out]);rintro e w8 ⟨rfl,rfl⟩))
      go_roundw
      case rel=>exact⟨j+1,by omega,by go_num,B3.out,X3.out,RQ.out⟩
      case measure=>simp[intOf];omega
   have hj1:¬(j:Int) < (c.fs.length:Int):=(by omega);have RQ:Hid (RO=0):=(by unfold Hid;rw[← HR.out.2.2,jr (by omega)]);have c12:=HR.out.2.1.c12;go_wp2;go_ret;exact⟨qg (by rw[HWO.out,RQ.out]),HR.out.1⟩
theorem uJ(c:Ct)(p:Cp)(w:World)(hv:CtV w c p) :
 Calls Tryz.prog 25 #[.agg #[.int .i64 c.rep,.int .i64 c.rel,.int .i64 c.con,.int .i64 c.sit,.int .i64 c.lay,.int .i64 c.nf,.int .i64 c.nt,.slice p.cs c.cs.length p.ccs,.slice p.rs c.rs.length p.crs,.slice p.os c.os.length p.cos,.slice p.cr (len c.cr) p.ccr,.slice p.ls c.ls.length p.cls,.slice p.fs c.fs.length p.cfs,.int .i64 c.gua]] w fun e w'=>e=.returned (.int .i64 (yj c))∧Below w.heap.size w w':=by
 have HV:=hid hv;clear hv;obtain⟨R,hR⟩:∃R,yj c=R:=⟨_,rfl⟩;rw[hR];have GR:=hid (fun h=>(hR.symm.trans (Q3 c h)));have GB:=hid (fun h h2=>(hR.symm.trans (Q5 c h h2)));have GL:=hid (fun h h2=>(hR.symm.trans (Q4 c h h2)));have RE:=hid (Ya c);clear hR;go_enter Tryz.func25,Tryz.ntmps25;go_upto_region 1 with (fail);have X0:=hid (CtBox.start w c p);have B0:Hid (Below w.heap.size w (w.alloc (.cells #[.int .i64 c.rep,.int .i64 c.rel,.int .i64 c.con,.int .i64 c.sit,.int .i64 c.lay,.int .i64 c.nf,.int .i64 c.nt,.slice p.cs c.cs.length p.ccs,.slice p.rs c.rs.length p.crs,.slice p.os c.os.length p.cos,.slice p.cr (len c.cr) p.ccr,.slice p.ls c.ls.length p.cls,.slice p.fs c.fs.length p.cfs,.int .i64 c.gua] 43))):=ba1;generalize w.alloc (.cells #[.int .i64 c.rep,.int .i64 c.rel,.int .i64 c.con,.int .i64 c.sit,.int .i64 c.lay,.int .i64 c.nf,.int .i64 c.nt,.slice p.cs c.cs.length p.ccs,.slice p.rs c.rs.length p.crs,.slice p.os c.os.length p.cos,.slice p.cr (len c.cr) p.ccr,.slice p.ls c.ls.length p.cls,.slice p.fs c.fs.length p.cfs,.int .i64 c.gua] 43)=w0 at *;obtain⟨c0,c1,c2,c3,c4,c5,c6,c7,c8,c9,c10,c11,c12,c13,qD⟩:=X0.out;cases h0:zw c.rep 0 1440
 case false =>
  have H0:=hid h0;have RQ:Hid (R=5):=GR.out (by rw[RE.out];simp[h0]);clear h0;go_wp2_with (go_at_call 61;refine(qO _ _ _ _).mono ?_;(first|rw[H0.out]);rintro e w2 ⟨rfl,rfl⟩);go_ret;exact⟨qg RQ.out.symm,B0.out⟩
 have H0:=hid h0;clear h0;cases h1:zw c.rel 0 1440
 case false =>
  have H1:=hid h1;have RQ:Hid (R=5):=GR.out (by rw[RE.out];simp[h1]);clear h1;go_wp2_with (go_at_call 61;refine(qO _ _ _ _).mono ?_;(first|rw[H0.out]|rw[H1.out]);rintro e w2 ⟨rfl,rfl⟩);go_ret;exact⟨qg RQ.out.symm,B0.out⟩
 have H1:=hid h1;clear h1;cases h2:zw c.con 0 1440
 case false =>
  have H2:=hid h2;have RQ:Hid (R=5):=GR.out (by rw[RE.out];simp[h2]);clear h2;go_wp2_with (go_at_call 61;refine(qO _ _ _ _).mono ?_;(first|rw[H0.out]|rw[H1.out]|rw[H2.out]);rintro e w2 ⟨rfl,rfl⟩);go_ret;exact⟨qg RQ.out.symm,B0.out⟩
 have H2:=hid h2;clear h2;cases h3:zw c.sit c.con 1440
 case false =>
  have H3:=hid h3;have RQ:Hid (R=5):=GR.out (by rw[RE.out];simp[h3]);clear h3;go_wp2_with (go_at_call 61;refine(qO _ _ _ _).mono ?_;(first|rw[H0.out]|rw[H1.out]|rw[H2.out]|rw[H3.out]);rintro e w2 ⟨rfl,rfl⟩);go_ret;exact⟨qg RQ.out.symm,B0.out⟩
 have H3:=hid h3;clear h3;cases h4:zw c.lay 0 10080
 case false =>
  have H4:=hid h4;have RQ:Hid (R=5):=GR.out (by rw[RE.out];simp[h4]);clear h4;go_wp2_with (go_at_call 61;refine(qO _ _ _ _).mono ?_;(first|rw[H0.out]|rw[H1.out]|rw[H2.out]|rw[H3.out]|rw[H4.out]);rintro e w2 ⟨rfl,rfl⟩);go_ret;exact⟨qg RQ.out.symm,B0.out⟩
 have H4:=hid h4;clear h4;cases h5:zw c.nf 0 1439
 case false =>
  have H5:=hid h5;have RQ:Hid (R=5):=GR.out (by rw[RE.out];simp[h5]);clear h5;go_wp2_with (go_at_call 61;refine(qO _ _ _ _).mono ?_;(first|rw[H0.out]|rw[H1.out]|rw[H2.out]|rw[H3.out]|rw[H4.out]|rw[H5.out]);rintro e w2 ⟨rfl,rfl⟩);go_ret;exact⟨qg RQ.out.symm,B0.out⟩
 have H5:=hid h5;clear h5;cases h6:zw c.nt 0 1439
 case false =>
  have H6:=hid h6;have RQ:Hid (R=5):=GR.out (by rw[RE.out];simp[h6]);clear h6;go_wp2_with (go_at_call 61;refine(qO _ _ _ _).mono ?_;(first|rw[H0.out]|rw[H1.out]|rw[H2.out]|rw[H3.out]|rw[H4.out]|rw[H5.out]|rw[H6.out]);rintro e w2 ⟨rfl,rfl⟩);go_ret;exact⟨qg RQ.out.symm,B0.out⟩
 have H6:=hid h6;clear h6;cases h7:zw c.gua 0 599999
 case false =>
  have H7:=hid h7;have RQ:Hid (R=5):=GR.out (by rw[RE.out];simp[h7]);clear h7;go_wp2_with (go_at_call 61;refine(qO _ _ _ _).mono ?_;(first|rw[H0.out]|rw[H1.out]|rw[H2.out]|rw[H3.out]|rw[H4.out]|rw[H5.out]|rw[H6.out]|rw[H7.out]);rintro e w2 ⟨rfl,rfl⟩);go_ret;exact⟨qg RQ.out.symm,B0.out⟩
 have H7:=hid h7;clear h7;have HR:Hid (uc c=true):=by unfold Hid;rw[RE.out,H0.out,H1.out,H2.out,H3.out,H4.out,H5.out,H6.out,H7.out];rfl
 go_upto_region 3 with (go_at_call 61;refine(qO _ _ _ _).mono ?_;(first|rw[H0.out]|rw[H1.out]|rw[H2.out]|rw[H3.out]|rw[H4.out]|rw[H5.out]|rw[H6.out]|rw[H7.out]);rintro e w2 ⟨rfl,rfl⟩);clear H0 H1 H2 H3 H4 H5 H6 H7
 by_cases l0:c.cs.length≤32
 case neg =>
  have q1:32 < c.cs.length:=by omega
  have q2:(32:Int) < (c.cs.length:Int):=by omega
  have RQ:Hid (R=10):=GB.out HR.out (by unfold jB;exact decide_eq_false (fun q=>by omega));go_wp2;go_ret;exact⟨qg RQ.out.symm,B0.out⟩
 have i0:¬(32:Int) < (c.cs.length:Int):=by omega
 by_cases l1:c.rs.length≤40
 case neg =>
  have q1:40 < c.rs.length:=by omega
  have q2:(40:Int) < (c.rs.length:Int):=by omega
  have RQ:Hid (R=10):=GB.out HR.out (by unfold jB;exact decide_eq_false (fun q=>by omega));go_wp2;go_ret;exact⟨qg RQ.out.symm,B0.out⟩
 have i1:¬(40:Int) < (c.rs.length:Int):=by omega
 by_cases l2:c.os.length≤16
 case neg =>
  have q1:16 < c.os.length:=by omega
  have q2:(16:Int) < (c.os.length:Int):=by omega
  have RQ:Hid (R=10):=GB.out HR.out (by unfold jB;exact decide_eq_false (fun q=>by omega));go_wp2;go_ret;exact⟨qg RQ.out.symm,B0.out⟩
 have i2:¬(16:Int) < (c.os.length:Int):=by omega
 by_cases l3:len c.cr≤1
 case neg =>
  have q1:1 < len c.cr:=by omega
  have q2:(1:Int) < (len c.cr:Int):=by omega
  have RQ:Hid (R=10):=GB.out HR.out (by unfold jB;exact decide_eq_false (fun q=>by omega));go_wp2;go_ret;exact⟨qg RQ.out.symm,B0.out⟩
 have i3:¬(1:Int) < (len c.cr:Int):=by omega
 by_cases l4:c.ls.length≤16
 case neg =>
  have q1:16 < c.ls.length:=by omega
  have q2:(16:Int) < (c.ls.length:Int):=by omega
  have RQ:Hid (R=10):=GB.out HR.out (by unfold jB;exact decide_eq_false (fun q=>by omega));go_wp2;go_ret;exact⟨qg RQ.out.symm,B0.out⟩
 have i4:¬(16:Int) < (c.ls.length:Int):=by omega
 by_cases l5:c.fs.length≤16
 case neg =>
  have q1:16 < c.fs.length:=by omega
  have q2:(16:Int) < (c.fs.length:Int):=by omega
  have RQ:Hid (R=10):=GB.out HR.out (by unfold jB;exact decide_eq_false (fun q=>by omega));go_wp2;go_ret;exact⟨qg RQ.out.symm,B0.out⟩
 have i5:¬(16:Int) < (c.fs.length:Int):=by omega
 have G:=hid (GL.out HR.out (by unfold jB;exact decide_eq_true ⟨l0,l1,l2,l3,l4,l5⟩));go_upto_region 5 with (fail);clear i0 i1 i2 i3 i4 i5 RE GR GB GL HR;obtain⟨E1,hE1⟩:∃E,Kp c=E:=⟨_,rfl⟩;obtain⟨E2,hE2⟩:∃E,JC c=E:=⟨_,rfl⟩;obtain⟨E3,hE3⟩:∃E,Ko c=E:=⟨_,rfl⟩;obtain⟨E4,hE4⟩:∃E,kx c.cr=E:=⟨_,rfl⟩;obtain⟨E5,hE5⟩:∃E,uT c=E:=⟨_,rfl⟩;rw[hE1,hE2,hE3,hE4,hE5] at G;have G1:=G;have HE1:Hid (fe (ze c.cs) 0 c.cs.length=E1):=hE1;have HE2:Hid (fe (yT c.rs) 0 c.rs.length=E2):=hE2;have HE3:Hid (fe (zI c.os) 0 c.os.length=E3):=hE3;have HE4:=hid hE4;have HE5:=hid hE5;clear hE1 hE2 hE3 hE4 hE5 G c0 c1 c2 c3 c4 c5 c6 c7 c8 c9 c10 c11 c12 c13;go_wp2_with fail
 go_loopw [3] (fun i wr=>∃j:Nat,j≤c.cs.length∧i=.int .i64 j∧Hid (Below w.heap.size w wr∧CtBox wr w.heap.size c p∧fe (ze c.cs) j (c.cs.length - j)=E1)) (fun i _=>c.cs.length - (intOf i).toNat)
 case atStart=>exact⟨0,Nat.zero_le _,rfl,B0.out,X0.out,HE1.out⟩
 case round =>
  obtain⟨j,hj,rfl,HR⟩:=hrel
  by_cases qD:j < c.cs.length
  ·obtain ⟨x,hc⟩:∃x,c.cs[j]?=some x:=⟨_,List.getElem?_eq_getElem (by omega)⟩;obtain⟨-,BC,OC,hpp,hrow⟩:=HV.out.cs;have ROW:=hid hrow;have HPcs:=hid (hpp (by intro q;rw[q] at hc;simp at hc));have PX:=hid (hrow j x hc);have QX:=hid PX.out.1;have d0:=qa QX.out HR.out.1;have hs:x.name.size≤9223372036854775807:=PX.out.2.2;have hj1:(j:Int) < (c.cs.length:Int):=(by omega);have hj0:(0:Int)≤(j:Int):=(by omega);have FA:=hid ((kB (f:=ze c.cs) qD).symm.trans HR.out.2.2);have CA:Hid (ze c.cs j=if yh x.name=false then 1 else if yr ((c.cs.take j).map (·.name)) x.name=true then 7 else qQ x.a x.k):=(by unfold Hid ze;rw[hc]);have c7:wr.cell? ⟨w.heap.size,7,none⟩=some (.slice (some ⟨BC,OC,none⟩) c.cs.length p.ccs):=(by rw[← HPcs.out];exact(HR.out.2.1).c7);clear hc hpp hrow;go_wp2_with fail;refine(zU x.name wr hs).mono ?_;rintro e w2 ⟨he,hb⟩;have B2:=hid (HR.out.1.trans (hb.mono HR.out.1.size));have X2:=hid (HR.out.2.1.next hb);clear hb HR d0 c7;cases hD:yh x.name
   ·rw [hD] at he;subst he;have RQ:Hid (R=1):=(by unfold Hid;rw[G1.out,← FA.out,CA.out,hD];rfl);clear hD;go_wp2;go_ret;exact⟨qg RQ.out.symm,B2.out⟩
   rw[hD] at he;subst he;have HD:=hid hD;clear hD;have RH:Hid (yr ((c.cs.take j).map (·.name)) x.name=true→R=7):=fun hU=>by rw[G1.out,← FA.out,CA.out,HD.out,hU];rfl
   go_wp2_with fail
   go_loopw [4] (fun kk wq=>∃i:Nat,i≤j∧kk=.int .i64 i∧Hid (Below w2.heap.size w2 wq∧yr ((c.cs.take i).map (·.name)) x.name=false)) (fun kk _=>j - (intOf kk).toNat)
   case atStart=>exact⟨0,Nat.zero_le _,rfl,Below.refl _ _,rfl⟩
   case round =>
    obtain⟨i,hi,rfl,HI⟩:=hrel
    by_cases hij:i < j
    ·obtain ⟨y,hy⟩:∃y,c.cs[i]?=some y:=⟨_,List.getElem?_eq_getElem (by omega)⟩;have hij':(i:Int) < (j:Int):=(by omega);have hil:(i:Int) < (c.cs.length:Int):=(by omega);have hi0:(0:Int)≤(i:Int):=(by omega);have q0:=qa (ROW.out i y hy).1 (B2.out.trans (HI.out.1.mono B2.out.size));have c7:wr.cell? ⟨w.heap.size,7,none⟩=some (.slice (some ⟨BC,OC,none⟩) c.cs.length p.ccs):=(by rw[← HPcs.out];exact(X2.out.next HI.out.1).c7);have g0:=qa QX.out (B2.out.trans (HI.out.1.mono B2.out.size));have HY:=hid hy;clear hy
     by_cases hq:y.name=x.name
     ·have hb:=toList_eq hq;have RQ:=hid (RH.out (xj (·.name) HY.out hij hq));clear hq;go_wp2_with fail
      go_quiet (fail)
      go_wp2;go_ret;exact⟨qg RQ.out.symm,below_drewN (B2.out.trans (HI.out.1.mono B2.out.size)) _⟩
     ·have hb:=jv hq;have HQ:=hid hq;clear hq;go_wp2_with fail
      go_quiet (fail)
      go_wp2
      go_roundw
      case rel=>exact⟨i+1,by omega,by go_num,below_drewN HI.out.1 _,jE (·.name) HY.out HI.out.2 HQ.out⟩
      case measure=>simp[intOf];omega
    have hij':¬(i:Int) < (j:Int):=(by omega);have NB:=hid HI.out.1;have ND:Hid (yr ((c.cs.take j).map (·.name)) x.name=false):=(by unfold Hid;rw[show j=i by omega];exact HI.out.2);have B3:=hid (B2.out.trans (NB.out.mono B2.out.size));have X3:=hid (X2.out.next NB.out);have CQ:Hid (ze c.cs j=qQ ⟨x.a.op,x.a.num,x.a.name,x.a.ptr,x.a.cap⟩ x.k):=(by unfold Hid;rw[CA.out,HD.out,ND.out];rfl);clear HI NB ND;obtain⟨m1,m2,m3,m4⟩:=(PX.out.2.1.next B3.out).1;have c7:wr.cell? ⟨w.heap.size,7,none⟩=some (.slice (some ⟨BC,OC,none⟩) c.cs.length p.ccs):=(by rw[← HPcs.out];exact(X3.out).c7);go_wp2_with fail;refine(jK x.b x.o _ _ _ _ _ x.k wr (PX.out.2.1.2.1.next B3.out) PX.out.2.1.2.2).mono ?_;rintro e w4 ⟨rfl,hb⟩;have B4:=hid (bt9 B3 hb);have X4:=hid (X3.out.next hb);generalize qQ ⟨x.a.op,x.a.num,x.a.name,x.a.ptr,x.a.cap⟩ x.k=ve at *;clear hb m1 m2 m3 m4 c7
    by_cases h0:ve=0
    ·have b0:(ve != 0)=false:=by simp[h0]
     have RQ:Hid (fe (ze c.cs) (j+1) (c.cs.length - (j+1))=E1):=(by unfold Hid;rw[← FA.out,CQ.out,h0,yg]);clear h0;go_wp2
     go_roundw
     case rel=>exact⟨j+1,by omega,by go_num,B4.out,X4.out,RQ.out⟩
     case measure=>simp[intOf];omega
    ·have b0:(ve != 0)=true:=by simp[h0]
     have RQ:Hid (E1=ve):=(by unfold Hid;rw[← FA.out,CQ.out,zf h0]);have RQ2:Hid (R=ve):=(by unfold Hid;rw[G1.out,RQ.out,zf h0]);clear h0;go_wp2;go_ret;exact⟨qg RQ2.out.symm,B4.out⟩
  have hj1:¬(j:Int) < (c.cs.length:Int):=by omega
  have RQ:Hid (E1=0):=by unfold Hid;rw[← HR.out.2.2,jr (by omega)]
  have G2:Hid (R=kr E2 (kr E3 (kr E4 E5))):=by unfold Hid;rw[G1.out,RQ.out,yg]
  have BW:=hid HR.out.1;have XW:=hid HR.out.2.1;clear HR RQ qD hj;have c7:=XW.out.c7;go_wp2_with fail;clear c7
  go_loopw [6] (fun i wr=>∃j:Nat,j≤c.rs.length∧i=.int .i64 j∧Hid (Below w.heap.size w wr∧CtBox wr w.heap.size c p∧fe (yT c.rs) j (c.rs.length - j)=E2)) (fun i _=>c.rs.length - (intOf i).toNat)
  case atStart=>exact⟨0,Nat.zero_le _,rfl,BW.out,XW.out,HE2.out⟩
  case round =>
   obtain⟨j,hj,rfl,HR⟩:=hrel
   by_cases qD:j < c.rs.length
   ·obtain ⟨x,hc⟩:∃x,c.rs[j]?=some x:=⟨_,List.getElem?_eq_getElem (by omega)⟩;obtain⟨-,BR,OR,hpp,hrow⟩:=HV.out.rs;have ROW:=hid hrow;have HPrs:=hid (hpp (by intro q;rw[q] at hc;simp at hc));have PX:=hid (hrow j x hc);obtain⟨d0,d1,⟨⟨d2,d3,d4,d5⟩,-,-⟩,-,hs⟩:=PX.out.next HR.out.1
    have hj1:(j:Int) < (c.rs.length:Int):=(by omega);have hj0:(0:Int)≤(j:Int):=(by omega);have FA:=hid ((kB (f:=yT c.rs) qD).symm.trans HR.out.2.2);have CA:Hid (yT c.rs j=if YD x.sc=false∨yh x.name=false then 1 else if yr ((c.rs.take j).map (fun r=>(r.sc,r.name))) (x.sc,x.name)=true then 7 else qQ x.a x.k):=(by unfold Hid yT;rw[hc]);have c8:wr.cell? ⟨w.heap.size,8,none⟩=some (.slice (some ⟨BR,OR,none⟩) c.rs.length p.crs):=(by rw[← HPrs.out];exact(HR.out.2.1).c8);clear hc hpp hrow;go_upto_region 22 with (fail);have B1:Hid (Below w.heap.size w (wr.alloc (.cells #[.int .i64 x.sc,.string x.name,.int .i64 x.a.op,.int .i64 x.a.num,.string x.a.name,.slice x.a.ptr (len x.k) x.a.cap] 87))):=HR.out.1.alloc HR.out.1.size _;have X1:Hid (CtBox (wr.alloc (.cells #[.int .i64 x.sc,.string x.name,.int .i64 x.a.op,.int .i64 x.a.num,.string x.a.name,.slice x.a.ptr (len x.k) x.a.cap] 87)) w.heap.size c p):=HR.out.2.1.next ba1
    have e0:(wr.alloc (.cells #[.int .i64 x.sc,.string x.name,.int .i64 x.a.op,.int .i64 x.a.num,.string x.a.name,.slice x.a.ptr (len x.k) x.a.cap] 87)).cell? ⟨wr.heap.size,0,none⟩=some (.int .i64 x.sc):=(by simp[go_sem]);have e1:(wr.alloc (.cells #[.int .i64 x.sc,.string x.name,.int .i64 x.a.op,.int .i64 x.a.num,.string x.a.name,.slice x.a.ptr (len x.k) x.a.cap] 87)).cell? ⟨wr.heap.size,1,none⟩=some (.string x.name):=(by simp[go_sem]);have e2:(wr.alloc (.cells #[.int .i64 x.sc,.string x.name,.int .i64 x.a.op,.int .i64 x.a.num,.string x.a.name,.slice x.a.ptr (len x.k) x.a.cap] 87)).cell? ⟨wr.heap.size,2,none⟩=some (.int .i64 x.a.op):=(by simp[go_sem]);have e3:(wr.alloc (.cells #[.int .i64 x.sc,.string x.name,.int .i64 x.a.op,.int .i64 x.a.num,.string x.a.name,.slice x.a.ptr (len x.k) x.a.cap] 87)).cell? ⟨wr.heap.size,3,none⟩=some (.int .i64 x.a.num):=(by simp[go_sem]);have e4:(wr.alloc (.cells #[.int .i64 x.sc,.string x.name,.int .i64 x.a.op,.int .i64 x.a.num,.string x.a.name,.slice x.a.ptr (len x.k) x.a.cap] 87)).cell? ⟨wr.heap.size,4,none⟩=some (.string x.a.name):=(by simp[go_sem]);have e5:(wr.alloc (.cells #[.int .i64 x.sc,.string x.name,.int .i64 x.a.op,.int .i64 x.a.num,.string x.a.name,.slice x.a.ptr (len x.k) x.a.cap] 87)).cell? ⟨wr.heap.size,5,none⟩=some (.slice x.a.ptr (len x.k) x.a.cap):=(by simp[go_sem]);generalize wr.alloc (.cells #[.int .i64 x.sc,.string x.name,.int .i64 x.a.op,.int .i64 x.a.num,.string x.a.name,.slice x.a.ptr (len x.k) x.a.cap] 87)=w1 at *;clear d0 d1 d2 d3 d4 d5 HR c8;generalize wr.heap.size=g at *;cases hC:YD x.sc
    ·have HC:Hid (zw x.sc 1 3=false):=hC;have RQ:Hid (R=1):=(by unfold Hid;rw[G2.out,← FA.out,CA.out,hC];simp[kr]);clear hC;go_wp2_with (go_at_call 61;refine(qO _ _ _ _).mono ?_;rw[HC.out];rintro e w9 ⟨rfl,rfl⟩);go_ret;exact⟨qg RQ.out.symm,B1.out⟩
    have HC:Hid (zw x.sc 1 3=true):=hC;cases hD:yh x.name
    ·have HD:=hid hD;have RQ:Hid (R=1):=(by unfold Hid;rw[G2.out,← FA.out,CA.out,hD];simp[kr]);clear hC hD;go_wp2_with (first|(go_at_call 61;refine(qO _ _ _ _).mono ?_;rw[HC.out];rintro e w9 ⟨rfl,rfl⟩)|(go_at_call 62;refine(zU x.name w1 hs).mono ?_;rw[HD.out];rintro e w2 ⟨rfl,hb⟩));go_ret;exact⟨qg RQ.out.symm,B1.out.trans (hb.mono B1.out.size)⟩
    have HD:=hid hD;have CB:Hid (yT c.rs j=if yr ((c.rs.take j).map (fun r=>(r.sc,r.name))) (x.sc,x.name)=true then 7 else qQ x.a x.k):=(by unfold Hid;rw[CA.out,hC,hD];rfl);clear hC hD;go_upto_region 24 with (first|(go_at_call 61;refine(qO _ _ _ _).mono ?_;rw[HC.out];rintro e w9 ⟨rfl,rfl⟩)|(go_at_call 62;refine(zU x.name w1 hs).mono ?_;rw[HD.out];rintro e w2 ⟨rfl,hb⟩));have B2:=hid (bt9 B1 hb);have X2:=hid (X1.out.next hb);have k0:=qa e0 hb;have k1:=qa e1 hb;have k2:=qa e2 hb;have k3:=qa e3 hb;have k4:=qa e4 hb;have k5:=qa e5 hb;clear hb e0 e1 e2 e3 e4 e5;have RH:Hid (yr ((c.rs.take j).map (fun r=>(r.sc,r.name))) (x.sc,x.name)=true→R=7):=fun hU=>by rw[G2.out,← FA.out,CB.out,hU];rfl
    go_wp2_with fail
    go_loopw [8] (fun kk wq=>∃i:Nat,i≤j∧kk=.int .i64 i∧Hid (Below w2.heap.size w2 wq∧yr ((c.rs.take i).map (fun r=>(r.sc,r.name))) (x.sc,x.name)=false)) (fun kk _=>j - (intOf kk).toNat)
    case atStart=>exact⟨0,Nat.zero_le _,rfl,Below.refl _ _,rfl⟩
    case round =>
     obtain⟨i,hi,rfl,HI⟩:=hrel
     by_cases hij:i < j
     ·obtain ⟨y,hy⟩:∃y,c.rs[i]?=some y:=⟨_,List.getElem?_eq_getElem (by omega)⟩;have hij':(i:Int) < (j:Int):=(by omega);have hil:(i:Int) < (c.rs.length:Int):=(by omega);have hi0:(0:Int)≤(i:Int):=(by omega);have q0:=qa (ROW.out i y hy).1 (B2.out.trans (HI.out.1.mono B2.out.size));have q1:=qa (ROW.out i y hy).2.1 (B2.out.trans (HI.out.1.mono B2.out.size));have c8:wr.cell? ⟨w.heap.size,8,none⟩=some (.slice (some ⟨BR,OR,none⟩) c.rs.length p.crs):=(by rw[← HPrs.out];exact(X2.out.next HI.out.1).c8);have f0:=qa k0 HI.out.1;have f1:=qa k1 HI.out.1;have HY:=hid hy;clear hy
      by_cases hsc:y.sc=x.sc
      ·have hbs:(y.sc==x.sc)=true:=by simp[hsc]
       by_cases hq:y.name=x.name
       ·have hb:=toList_eq hq;have RQ:=hid (RH.out (xj (fun r=>(r.sc,r.name)) HY.out hij (by rw[hsc,hq])));clear hq hsc;go_wp2_with fail
        go_quiet (fail)
        go_wp2;go_ret;exact⟨qg RQ.out.symm,below_drewN (B2.out.trans (HI.out.1.mono B2.out.size)) _⟩
       ·have hb:=jv hq;have HQ:Hid ((y.sc,y.name)≠(x.sc,x.name)):=(by intro z;injection z;contradiction);clear hq hsc;go_wp2_with fail
        go_quiet (fail)
        go_wp2
        go_roundw
        case rel=>exact⟨i+1,by omega,by go_num,below_drewN HI.out.1 _,jE (fun r=>(r.sc,r.name)) HY.out HI.out.2 HQ.out⟩
        case measure=>simp[intOf];omega
      ·have hbs:(y.sc==x.sc)=false:=by simp[hsc]
       have HQ:Hid ((y.sc,y.name)≠(x.sc,x.name)):=(by intro z;injection z;contradiction);clear hsc;go_wp2_with fail
       go_quiet (fail)
       go_wp2
       go_roundw
       case rel=>exact⟨i+1,by omega,by go_num,below_drewN HI.out.1 _,jE (fun r=>(r.sc,r.name)) HY.out HI.out.2 HQ.out⟩
       case measure=>simp[intOf];omega
     have hij':¬(i:Int) < (j:Int):=(by omega);have NB:=hid HI.out.1;have ND:Hid (yr ((c.rs.take j).map (fun r=>(r.sc,r.name))) (x.sc,x.name)=false):=(by unfold Hid;rw[show j=i by omega];exact HI.out.2);have B3:=hid (B2.out.trans (NB.out.mono B2.out.size));have X3:=hid (X2.out.next NB.out);have CQ:Hid (yT c.rs j=qQ ⟨x.a.op,x.a.num,x.a.name,x.a.ptr,x.a.cap⟩ x.k):=(by unfold Hid;rw[CB.out,ND.out];rfl);have m2:=qa k2 NB.out;have m3:=qa k3 NB.out;have m4:=qa k4 NB.out;have m5:=qa k5 NB.out;clear HI NB ND k0 k1 k2 k3 k4 k5;go_wp2_with fail;refine(jK x.b x.o _ _ _ _ _ x.k wr (PX.out.2.2.1.2.1.next B3.out) PX.out.2.2.1.2.2).mono ?_;rintro e w4 ⟨rfl,hb⟩;have B4:=hid (bt9 B3 hb);have X4:=hid (X3.out.next hb);generalize qQ ⟨x.a.op,x.a.num,x.a.name,x.a.ptr,x.a.cap⟩ x.k=ve at *;clear hb m2 m3 m4 m5
     by_cases h0:ve=0
     ·have b0:(ve != 0)=false:=by simp[h0]
      have RQ:Hid (fe (yT c.rs) (j+1) (c.rs.length - (j+1))=E2):=(by unfold Hid;rw[← FA.out,CQ.out,h0,yg]);clear h0;go_wp2
      go_roundw
      case rel=>exact⟨j+1,by omega,by go_num,B4.out,X4.out,RQ.out⟩
      case measure=>simp[intOf];omega
     ·have b0:(ve != 0)=true:=by simp[h0]
      have RQ:Hid (E2=ve):=(by unfold Hid;rw[← FA.out,CQ.out,zf h0]);have RQ2:Hid (R=ve):=(by unfold Hid;rw[G2.out,RQ.out,zf h0]);clear h0;go_wp2;go_ret;exact⟨qg RQ2.out.symm,B4.out⟩
   have hj1:¬(j:Int) < (c.rs.length:Int):=(by omega);have RQ:Hid (E2=0):=(by unfold Hid;rw[← HR.out.2.2,jr (by omega)]);have G3:Hid (R=kr E3 (kr E4 E5)):=(by unfold Hid;rw[G2.out,RQ.out,yg]);have BW:=hid HR.out.1;have XW:=hid HR.out.2.1;clear HR RQ qD hj;have c8:=XW.out.c8;go_wp2_with fail;clear c8
   go_loopw [10] (fun i wr=>∃j:Nat,j≤c.os.length∧i=.int .i64 j∧Hid (Below w.heap.size w wr∧CtBox wr w.heap.size c p∧fe (zI c.os) j (c.os.length - j)=E3)) (fun i _=>c.os.length - (intOf i).toNat)
   case atStart=>exact⟨0,Nat.zero_le _,rfl,BW.out,XW.out,HE3.out⟩
   case round =>
    obtain⟨j,hj,rfl,HR⟩:=hrel
    by_cases qD:j < c.os.length
    ·obtain ⟨x,hc⟩:∃x,c.os[j]?=some x:=⟨_,List.getElem?_eq_getElem (by omega)⟩;obtain⟨-,BO,OO,hpp,hrow⟩:=HV.out.os;have HPos:=hid (hpp (by intro q;rw[q] at hc;simp at hc));have PX:=hid (hrow j x hc);obtain⟨d0,⟨⟨d1,d2,d3,d4⟩,-,-⟩,-⟩:=PX.out.next HR.out.1
     have hj1:(j:Int) < (c.os.length:Int):=(by omega);have hj0:(0:Int)≤(j:Int):=(by omega);have FA:=hid ((kB (f:=zI c.os) qD).symm.trans HR.out.2.2);have CA:=hid (Qc c.os j x hc);have c9:wr.cell? ⟨w.heap.size,9,none⟩=some (.slice (some ⟨BO,OO,none⟩) c.os.length p.cos):=(by rw[← HPos.out];exact HR.out.2.1.c9);clear hc hpp hrow;have B3:=hid HR.out.1;have X3:=hid HR.out.2.1;cases hC:YD x.sc
     ·have HC:Hid (zw x.sc 1 3=false):=hC;have RQ:Hid (R=1):=(by unfold Hid;rw[G3.out,← FA.out,CA.out,hC];rfl);clear hC;go_wp2_with (go_at_call 61;refine(qO _ _ _ _).mono ?_;rw[HC.out];rintro e w9 ⟨rfl,rfl⟩);go_ret;exact⟨qg RQ.out.symm,HR.out.1⟩
     have HC:Hid (zw x.sc 1 3=true):=hC;have CQ:Hid (zI c.os j=qQ ⟨x.a.op,x.a.num,x.a.name,x.a.ptr,x.a.cap⟩ x.k):=(by unfold Hid;rw[CA.out,hC];rfl);clear hC;go_wp2_with (go_at_call 61;refine(qO _ _ _ _).mono ?_;rw[HC.out];rintro e w9 ⟨rfl,rfl⟩);refine(jK x.b x.o _ _ _ _ _ x.k wr (PX.out.2.1.2.1.next B3.out) PX.out.2.1.2.2).mono ?_;rintro e w4 ⟨rfl,hb⟩;have B4:=hid (bt9 B3 hb);have X4:=hid (X3.out.next hb);generalize qQ ⟨x.a.op,x.a.num,x.a.name,x.a.ptr,x.a.cap⟩ x.k=ve at *;clear hb d0 d1 d2 d3 d4 c9
     by_cases h0:ve=0
     ·have b0:(ve != 0)=false:=by simp[h0]
      have RQ:Hid (fe (zI c.os) (j+1) (c.os.length - (j+1))=E3):=(by unfold Hid;rw[← FA.out,CQ.out,h0,yg]);clear h0;go_wp2
      go_roundw
      case rel=>exact⟨j+1,by omega,by go_num,B4.out,X4.out,RQ.out⟩
      case measure=>simp[intOf];omega
     ·have b0:(ve != 0)=true:=by simp[h0]
      have RQ:Hid (E3=ve):=(by unfold Hid;rw[← FA.out,CQ.out,zf h0]);have RQ2:Hid (R=ve):=(by unfold Hid;rw[G3.out,RQ.out,zf h0]);clear h0;go_wp2;go_ret;exact⟨qg RQ2.out.symm,B4.out⟩
    have hj1:¬(j:Int) < (c.os.length:Int):=(by omega);have RQ:Hid (E3=0):=(by unfold Hid;rw[← HR.out.2.2,jr (by omega)]);have G4:Hid (R=kr E4 E5):=(by unfold Hid;rw[G3.out,RQ.out,yg]);have BW:=hid HR.out.1;have XW:=hid HR.out.2.1;clear HR RQ qD hj;have c9:=XW.out.c9;go_wp2_with fail;clear c9
    go_loopw [12] (fun i wr=>∃(j:Nat) (r:Fo),i=.int .i64 j∧Hid (j+len r=len c.cr∧(∃b o,(r≠.nil→p.cr=some ⟨b,o,none⟩)∧FoAt wr r b (o+j * 4))∧je r∧kx r=E4∧Below w.heap.size w wr∧CtBox wr w.heap.size c p)) (fun i _=>len c.cr - (intOf i).toNat)
    case atStart =>
     obtain⟨-,q1,b,o,q2,q3⟩:=(HV.out.next BW.out).cr;exact⟨0,c.cr,rfl,by omega,⟨b,o,q2,by rw[Nat.zero_mul,Nat.add_zero];exact q3⟩,q1,HE4.out,BW.out,XW.out⟩
    case round =>
     obtain⟨j,r,rfl,HR⟩:=hrel;cases r with
     | nil =>
       have hj:¬(j:Int) < (len c.cr:Int):=(by have:=HR.out.1;simp[len] at this;omega);have RQ:Hid (R=E5):=(by unfold Hid;rw[G4.out,← HR.out.2.2.2.1];exact yg _);have B4:=hid HR.out.2.2.2.2.1;have X4:=hid HR.out.2.2.2.2.2;clear HR;obtain⟨c0,c1,c2,c3,c4,c5,c6,c7,c8,c9,c10,c11,c12,c13,qD⟩:=X4.out;go_wp2_with fail;refine(Jz c p wr (HV.out.next B4.out) l4 l5).mono ?_;rw[HE5.out];rintro e w9 ⟨rfl,hb⟩;have B9:=hid (bt9 B4 hb);clear hb c0 c1 c2 c3 c4 c5 c6 c7 c8 c9 c10 c11 c12 c13;go_wp2;go_ret;exact⟨qg RQ.out.symm,B9.out⟩
     | node b1 o1 a1 k1 r1 =>
       have hj:j < len c.cr:=(by have:=HR.out.1;simp[len] at this;omega);obtain⟨kb,ko,hkp,⟨d0,d1,d2,d3⟩,hp1,hk1,hr1⟩:=HR.out.2.1;have hpe:p.cr=some ⟨kb,ko,none⟩:=hkp (by simp);have HX:Hid (ExAt wr b1 o1 a1 k1):=⟨hp1,hk1⟩;have HN:=hid hr1;have HOK:=hid HR.out.2.2.1;have CQ:Hid (kr (qQ ⟨a1.op,a1.num,a1.name,a1.ptr,a1.cap⟩ k1) (kx r1)=E4):=HR.out.2.2.2.1;have hj1:(j:Int) < (len c.cr:Int):=(by omega);have hj0:(0:Int)≤(j:Int):=(by omega);have c10:wr.cell? ⟨w.heap.size,10,none⟩=some (.slice (some ⟨kb,ko,none⟩) (len c.cr) p.ccr):=(by rw[← hpe];exact HR.out.2.2.2.2.2.c10);have HPE:=hid hpe;clear hp1 hk1 hr1 hkp hpe;go_wp2_with fail;refine(jK b1 o1 _ _ _ _ _ k1 wr HX.out ⟨HOK.out.1,HOK.out.2.1⟩).mono ?_;rintro e w3 ⟨rfl,hb⟩;have B6:=hid hb;have B3:=hid (HR.out.2.2.2.2.1.trans (B6.out.mono HR.out.2.2.2.2.1.size));have X3:=hid (HR.out.2.2.2.2.2.next B6.out);generalize qQ ⟨a1.op,a1.num,a1.name,a1.ptr,a1.cap⟩ k1=ve at *;clear hb d0 d1 d2 d3 c10
       by_cases h0:ve=0
       ·have b0:(ve != 0)=false:=by simp[h0]
        have RQ:Hid (kx r1=E4):=(by unfold Hid;rw[← CQ.out,h0,yg]);clear h0;go_wp2
        go_roundw
        case rel =>
         have q1:=HR.out.1;simp[len] at q1;refine⟨j+1,r1,by go_num,by omega,⟨kb,ko,fun _=>HPE.out,?_⟩,HOK.out.2.2,RQ.out,B3.out,X3.out⟩;rw[Nat.add_mul,Nat.one_mul,← Nat.add_assoc];exact HN.out.next B6.out
        case measure=>simp[intOf];omega
       ·have b0:(ve != 0)=true:=by simp[h0]
        have RQ2:Hid (R=ve):=(by unfold Hid;rw[G4.out,← CQ.out,zf h0,zf h0]);clear h0;go_wp2;go_ret;exact⟨qg RQ2.out.symm,B3.out⟩
end Go.Proofs.YtcejjdmnlejbaaaGreatDoor
