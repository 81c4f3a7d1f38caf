import Derived.Lib.Join
import Derived.Test.YtcejjdmnlejbaaaGreatDoorWTvP
import Derived.Test.YtcejjdmnlejbaaaGreatDoorWFpd
namespace Go.Proofs.YtcejjdmnlejbaaaGreatDoor
open Option.some(inj)
open Lib(hid)
set_option linter.unusedVariables false
set_option linter.unusedSimpArgs false
open Go.ChangeShapes Go.WideShapes Go.ChangeAt Go.RowKit
open Go.Deep (BT)
set_option maxHeartbeats 2000000
set_option maxRecDepth 100000
theorem Jp{s:ByteArray}{t:Tk.T3}(h:Tk.word s=some t)(hk:t.kind=1):t=⟨1,s,0⟩:=by
 unfold Tk.word at h
 split at h
 ·split at h
  ·cases h
  ·exact(inj h).symm
 ·split at h
  ·split at h
   ·obtain rfl:=inj h;dsimp only at hk;omega
   ·cases h
  ·split at h
   ·split at h
    ·obtain rfl:=inj h;dsimp only at hk;omega
    ·cases h
   ·split at h
    ·obtain rfl:=inj h;dsimp only at hk;omega
    ·cases h
def VP(w:World)(k:Int)(x:ByteArray)(n:Int)(e:Ending)(w':World):Prop:=(∃b:Bool,e=.returned (.bool b)∧(b=true↔VT ⟨k,x,n⟩))∧Below w.heap.size w w'
theorem zL{w w':World}{k:Int}{x:ByteArray}{n:Int}(h:¬VT ⟨k,x,n⟩)(hb:Below w.heap.size w w'):VP w k x n (.returned (.bool false)) w':=⟨⟨false,rfl,(fun q=>by cases q),fun q=>absurd q h⟩,hb⟩
theorem ua{w w':World}{k:Int}{x:ByteArray}{n:Int}(h:VT ⟨k,x,n⟩)(hb:Below w.heap.size w w'):VP w k x n (.returned (.bool true)) w':=⟨⟨true,rfl,fun _=>h,fun _=>rfl⟩,hb⟩
theorem Vg{x:ByteArray}{n:Int}:VT ⟨1,x,n⟩↔(∀b∈ x.data.toList,Tk.inW b=true)∧Tk.word x=some ⟨1,x,0⟩∧n=0:=by
 constructor
 ·rintro(⟨-,h⟩|⟨h,-⟩|⟨h,-⟩|⟨h,-⟩)
  ·exact h
  ·rcases h with h|h<;>(dsimp only at h;omega)
  ·dsimp only at h;omega
  ·dsimp only at h;omega
 ·intro h;exact .inl ⟨rfl,h⟩
theorem Vf{k:Int}{x:ByteArray}{n:Int}(hk:k=2∨k=3):VT ⟨k,x,n⟩↔x=⟨#[]⟩∧0≤n∧n≤1099511627776:=by
 constructor
 ·rintro(⟨h,-⟩|⟨-,h⟩|⟨h,-⟩|⟨h,-⟩)
  ·dsimp only at h;omega
  ·exact h
  ·dsimp only at h;omega
  ·dsimp only at h;omega
 ·intro h;exact .inr (.inl ⟨hk,h⟩)
theorem vt4{x:ByteArray}{n:Int}:VT ⟨4,x,n⟩↔x=⟨#[]⟩∧0≤n∧n≤1439:=by
 constructor
 ·rintro(⟨h,-⟩|⟨h,-⟩|⟨-,h⟩|⟨h,-⟩)
  ·dsimp only at h;omega
  ·rcases h with h|h<;>(dsimp only at h;omega)
  ·exact h
  ·dsimp only at h;omega
 ·intro h;exact .inr (.inr (.inl ⟨rfl,h⟩))
theorem vt5{x:ByteArray}{n:Int}:VT ⟨5,x,n⟩↔0 < x.size∧Tk.sgn x.data.toList=x.size∧n=0:=by
 constructor
 ·rintro(⟨h,-⟩|⟨h,-⟩|⟨h,-⟩|⟨-,h⟩)
  ·dsimp only at h;omega
  ·rcases h with h|h<;>(dsimp only at h;omega)
  ·dsimp only at h;omega
  ·exact h
 ·intro h;exact .inr (.inr (.inr ⟨rfl,h⟩))
theorem KF{k:Int}{x:ByteArray}{n:Int}(h1:k≠1)(h2:k≠2)(h3:k≠3)(h4:k≠4)(h5:k≠5):¬VT ⟨k,x,n⟩:=by
 rintro (⟨h,-⟩|⟨h,-⟩|⟨h,-⟩|⟨h,-⟩)
 ·exact h1 h
 ·rcases h with h|h
  ·exact h2 h
  ·exact h3 h
 ·exact h4 h
 ·exact h5 h
theorem xc{x:ByteArray}:x=⟨#[]⟩↔x.size=0:=by
 constructor
 ·rintro rfl;rfl
 ·intro h;apply ByteArray.ext;exact Array.eq_empty_of_size_eq_zero h
theorem ext_eq{x:ByteArray}{g:Nat}(hg:g≤x.size):x.extract 0 g=x↔g=x.size:=by
 constructor
 ·intro h;have:=congrArg ByteArray.size h;rw[ByteArray.size_extract] at this;omega
 ·rintro rfl;exact vl x
theorem Qk(k:Int)(x:ByteArray)(n a:Int)(w:World)(ht:Tab w)(hx:x.size≤9223372036854775807) :
 Calls Tryz.prog 161 #[.agg #[.int .i64 k,.string x,.int .i64 n,.int .i64 a]] w (VP w k x n):=by
 have HT:Hid (Tab (w.alloc (.cells #[.int .i64 k,.string x,.int .i64 n,.int .i64 a] 68))):=ht.alloc _;have B0:Hid (Below w.heap.size w (w.alloc (.cells #[.int .i64 k,.string x,.int .i64 n,.int .i64 a] 68))):=ba1;have B2:Hid (Below w.heap.size w ((w.alloc (.cells #[.int .i64 k,.string x,.int .i64 n,.int .i64 a] 68)).drewN 0)):=B0.out;clear ht
 by_cases k1:k=1
 ·subst k1;go_enter Tryz.func161,Tryz.ntmps161;go_wp2_with fail
  go_loop [3,15] (fun _ i=>∃j:Nat,i=.int .i64 j∧j≤x.size∧Hid (∀b∈ x.data.toList.take j,Tk.inW b=true)) (fun _ i=>x.size - (intOf i).toNat)
  case atStart=>exact⟨0,rfl,Nat.zero_le _,by intro b hb;simp at hb⟩
  case round =>
   obtain⟨j,rfl,hj,HJ⟩:=hrel
   by_cases qD:j < x.size
   ·have hj':(j:Int) < (x.size:Int):=by omega
    cases hw:Tk.inW x[j] with
    | false =>
      have NO:Hid (¬VT ⟨1,x,n⟩):=fun q=>by
       have:=(Vg.1 q).1 x[j] (by rw[show x[j]=x.data.toList[j]'(by rw[qe];exact qD) from rfl];exact List.getElem_mem _);rw[hw] at this;cases this
      have HW:Hid (jC (x[j].toNat:Int)=false):=(by unfold Hid;rw[jl,hw]);clear hw;go_wp2_with (go_at_call 66;refine(jN _ _).mono ?_;rw[HW.out];rintro e w' ⟨rfl,rfl⟩);go_ret;exact zL NO.out B0.out
    | true =>
      have HW:Hid (jC (x[j].toNat:Int)=true):=by unfold Hid;rw[jl,hw]
      have HN:Hid (∀b∈ x.data.toList.take (j+1),Tk.inW b=true):=by
       intro b hb;rw[yW x j qD] at hb;rcases List.mem_append.1 hb with hb|hb
       ·exact HJ.out b hb
       ·rw[List.mem_singleton.1 hb];exact hw
      clear hw;go_wp2_with (go_at_call 66;refine(jN _ _).mono ?_;rw[HW.out];rintro e w' ⟨rfl,rfl⟩)
      go_round
      case rel=>exact⟨j+1,by go_num,by omega,HN.out⟩
      case measure=>simp[intOf];omega
   ·have hj':¬(j:Int) < (x.size:Int):=by omega
    have ALL:Hid (∀b∈ x.data.toList,Tk.inW b=true):=by
     have:=HJ.out;rw[List.take_of_length_le (by rw[qe];omega)] at this;exact this
    go_wp2_with fail;refine(xq x _ hx ALL.out).mono ?_;rintro e w1 ⟨⟨t1,t2,t3,rfl,hq⟩,hb⟩;have c2:w1.cell? ⟨w.heap.size,2,none⟩=some (.int .i64 n):=yQ hb 2;have hz1:=j5 hb;have B1:Hid (Below w.heap.size w (w1.alloc (.cells #[.int .i64 t1,.string t2,.int .i64 t3,.int .i64 0] 68))):=(B0.out.trans (hb.mono (by simp))).alloc (Nat.le_of_lt hz1) _;have HQ:=hid hq;clear hb hq;cases ho:Tk.word x with
    | none =>
      have NO:Hid (¬VT ⟨1,x,n⟩):=fun q=>by have:=(Vg.1 q).2.1;rw[ho] at this;cases this
      clear ho HQ;rw[show(none:Option Tk.T3).isSome=false from rfl];go_wp2;go_ret;exact zL NO.out B1.out
    | some t =>
      obtain⟨rfl,rfl,rfl⟩:=HQ.out t ho;rw[show(some t:Option Tk.T3).isSome=true from rfl]
      by_cases y1:t.kind=1
      ·have a1:(t.kind==1)=true:=by simp[y1]
       have TE:=hid (Jp ho y1)
       by_cases y2:n=0
       ·have a2:(n==0)=true:=by simp[y2]
        have YES:Hid (VT ⟨1,x,n⟩):=Vg.2 ⟨ALL.out,by rw[ho,TE.out],y2⟩;clear ho HQ y1 y2;go_wp2;go_ret;exact ua YES.out B1.out
       ·have a2:(n==0)=false:=by simp[y2]
        have NO:Hid (¬VT ⟨1,x,n⟩):=fun q=>y2 (Vg.1 q).2.2;clear ho HQ y1 y2;go_wp2;go_ret;exact zL NO.out B1.out
      ·have a1:(t.kind==1)=false:=by simp[y1]
       have NO:Hid (¬VT ⟨1,x,n⟩):=fun q=>by have:=(Vg.1 q).2.1;rw[ho] at this;obtain rfl:=inj this;exact y1 rfl
       clear ho HQ y1;go_wp2;go_ret;exact zL NO.out B1.out
 ·have q1 : (k == 1)=false:=by simp[k1]
  have E0:Hid (x.toList.isEmpty=decide (x.size=0)):=yx x
  by_cases k23:k=2∨k=3
  ·have VV := hid (Vf (x:=x) (n:=n) k23)
   have qq:(k==2)=true∨((k==2)=false∧(k==3)=true):=by
    rcases k23 with rfl|rfl
    ·exact .inl rfl
    ·exact .inr ⟨rfl,rfl⟩
   clear k1 k23
   by_cases z0:x.size=0
   ·have e1:x.toList.isEmpty=true:=by rw[E0.out];simp[z0]
    have XE:=hid (xc.2 z0);clear z0
    by_cases z1:0≤n
    ·by_cases z2:n≤1099511627776
     ·have YES:Hid (VT ⟨k,x,n⟩):=VV.out.2 ⟨XE.out,z1,z2⟩;rcases qq with q2|⟨q2,q3⟩
      ·go_enter Tryz.func161,Tryz.ntmps161;go_wp2;go_ret;exact ua YES.out B0.out
      ·go_enter Tryz.func161,Tryz.ntmps161;go_wp2;go_ret;exact ua YES.out B0.out
     ·have NO:Hid (¬VT ⟨k,x,n⟩):=fun q=>z2 (VV.out.1 q).2.2;rcases qq with q2|⟨q2,q3⟩
      ·go_enter Tryz.func161,Tryz.ntmps161;go_wp2;go_ret;exact zL NO.out B0.out
      ·go_enter Tryz.func161,Tryz.ntmps161;go_wp2;go_ret;exact zL NO.out B0.out
    ·have NO:Hid (¬VT ⟨k,x,n⟩):=fun q=>z1 (VV.out.1 q).2.1;rcases qq with q2|⟨q2,q3⟩
     ·go_enter Tryz.func161,Tryz.ntmps161;go_wp2;go_ret;exact zL NO.out B0.out
     ·go_enter Tryz.func161,Tryz.ntmps161;go_wp2;go_ret;exact zL NO.out B0.out
   ·have e1:x.toList.isEmpty=false:=by rw[E0.out];simp[z0]
    have NO:Hid (¬VT ⟨k,x,n⟩):=fun q=>z0 (xc.1 (VV.out.1 q).1);clear z0;rcases qq with q2|⟨q2,q3⟩
    ·go_enter Tryz.func161,Tryz.ntmps161;go_wp2;go_ret;exact zL NO.out B0.out
    ·go_enter Tryz.func161,Tryz.ntmps161;go_wp2;go_ret;exact zL NO.out B0.out
  ·have q2 : (k==2)=false:=by simp;omega
   have q3:(k==3)=false:=by simp;omega
   by_cases k4:k=4
   ·subst k4;clear k1 k23
    have FE:Hid (Jc n=0↔0≤n∧n≤1439):=by
     unfold Hid Jc jb
     by_cases q:0≤n∧n < 1440
     ·rw[decide_eq_true q,if_pos rfl];exact⟨fun _=>by omega,fun _=>rfl⟩
     ·rw[decide_eq_false q,if_neg (by simp)];exact⟨(fun h=>by cases h),fun h=>absurd ⟨h.1,by omega⟩ q⟩
    go_enter Tryz.func161,Tryz.ntmps161;go_wp2_with fail;refine(jP n _ HT.out).mono ?_;generalize Jc n=fe at *;generalize ja n=fv at *;rintro e w1 ⟨rfl,hb⟩;have c1:w1.cell? ⟨w.heap.size,1,none⟩=some (.string x):=yQ hb 1;have hz1:=j5 hb;have B1:Hid (Below w.heap.size w w1):=B0.out.trans (hb.mono (by simp));clear hb
    by_cases z0:x.size=0
    ·have e1:x.toList.isEmpty=true:=by rw[E0.out];simp[z0]
     by_cases z1:fe=0
     ·have a1:(fe==0)=true:=by simp[z1]
      have YES:Hid (VT ⟨4,x,n⟩):=vt4.2 ⟨xc.2 z0,FE.out.1 z1⟩;clear z0 z1;go_wp2;go_ret;exact ua YES.out B1.out
     ·have a1:(fe==0)=false:=by simp[z1]
      have NO:Hid (¬VT ⟨4,x,n⟩):=fun q=>z1 (FE.out.2 (vt4.1 q).2);clear z0 z1;go_wp2;go_ret;exact zL NO.out B1.out
    ·have e1:x.toList.isEmpty=false:=by rw[E0.out];simp[z0]
     have NO:Hid (¬VT ⟨4,x,n⟩):=fun q=>z0 (xc.1 (vt4.1 q).1);clear z0;go_wp2;go_ret;exact zL NO.out B1.out
   ·have q4 : (k==4)=false:=by simp[k4]
    by_cases k5:k=5
    ·subst k5;clear k1 k23 k4;have SG:Hid (∀w,Calls Tryz.prog 68 #[.string x] w fun e w'=>e=.returned (.string (x.extract 0 (Tk.sgn x.data.toList)))∧w'=w):=fun w=>(uG x w hx).mono fun _ _ h=>⟨h.1,h.2.symm⟩;have hsl:=Tk.sgn_le x.data.toList;rw[qe] at hsl;have EX:=hid (ext_eq hsl);have V5:=hid (vt5 (x:=x) (n:=n));generalize Tk.sgn x.data.toList=sg at *
     by_cases z0:x.size=0
     ·have e1:x.toList.isEmpty=true:=by rw[E0.out];simp[z0]
      have e2:(!x.toList.isEmpty)=false:=(by rw[e1];rfl);have NO:Hid (¬VT ⟨5,x,n⟩):=fun q=>by have:=(V5.out.1 q).1;omega
      clear z0;go_enter Tryz.func161,Tryz.ntmps161;go_wp2_with fail
      go_quiet ((go_at_call 68;exact Calls.quiet_of_same (SG.out _)))
      go_wp2;go_ret;exact zL NO.out (qN B0.out _)
     ·have e1:x.toList.isEmpty=false:=by rw[E0.out];simp[z0]
      have e2:(!x.toList.isEmpty)=true:=by rw[e1];rfl
      by_cases z1:sg=x.size
      ·have XE:=EX.out.2 z1;rw[XE] at SG
       by_cases z2:n=0
       ·have a2:(n==0)=true:=by simp[z2]
        have YES:Hid (VT ⟨5,x,n⟩):=V5.out.2 ⟨by omega,z1,z2⟩;clear z0 z1 z2 XE EX V5;go_enter Tryz.func161,Tryz.ntmps161;go_wp2_with fail
        go_quiet ((go_at_call 68;exact Calls.quiet_of_same (SG.out _)))
        go_wp2;go_ret;exact ua YES.out (qN B0.out _)
       ·have a2:(n==0)=false:=by simp[z2]
        have NO:Hid (¬VT ⟨5,x,n⟩):=fun q=>z2 (V5.out.1 q).2.2;clear z0 z1 z2 XE EX V5;go_enter Tryz.func161,Tryz.ntmps161;go_wp2_with fail
        go_quiet ((go_at_call 68;exact Calls.quiet_of_same (SG.out _)))
        go_wp2;go_ret;exact zL NO.out (qN B0.out _)
      ·have NO:Hid (¬VT ⟨5,x,n⟩):=fun q=>z1 (V5.out.1 q).2.1;have a3:((x.extract 0 sg).toList==x.toList)=false:=(Qd fun q=>z1 (EX.out.1 q));clear z0 z1;generalize x.extract 0 sg=y at *;go_enter Tryz.func161,Tryz.ntmps161;go_wp2_with fail
       go_quiet ((go_at_call 68;exact Calls.quiet_of_same (SG.out _)))
       go_wp2;go_ret;exact zL NO.out (qN B0.out _)
    ·have q5:(k==5)=false:=by simp[k5]
     have NO:Hid (¬VT ⟨k,x,n⟩):=KF k1 (fun q=>k23 (.inl q)) (fun q=>k23 (.inr q)) k4 k5;clear k1 k23 k4 k5;go_enter Tryz.func161,Tryz.ntmps161;go_wp2;go_ret;exact zL NO.out B0.out
def Vw(D:List Tk.T4):Prop:=∀t∈ D,(-9223372036854775808≤t.t.num∧t.t.num≤9223372036854775807)∧t.t.text.size≤9223372036854775807
def VE(D:List Tk.T4)(c:Int):Prop:=(400 < D.length∧c=10)∨(¬ 400 < D.length∧(∀t∈ D,VT t.t)∧c=0)∨(¬ 400 < D.length∧¬(∀t∈ D,VT t.t)∧c=1)
theorem VE.zero{D:List Tk.T4}{c:Int}(h:VE D c):c=0↔¬ 400 < D.length∧∀t∈ D,VT t.t:=by
 rcases h with ⟨h1,rfl⟩|⟨h1,h2,rfl⟩|⟨h1,h2,rfl⟩
 ·exact⟨(fun q=>by cases q),fun q=>absurd h1 q.1⟩
 ·exact⟨fun _=>⟨h1,h2⟩,fun _=>rfl⟩
 ·exact⟨(fun q=>by cases q),fun q=>absurd q.2 h2⟩
theorem KO{D:List Tk.T4}{j:Nat}{t:Tk.T4}(h:∀t∈ D.take j,VT t.t)(ht:D[j]?=some t)(hv:VT t.t):∀t∈ D.take (j+1),VT t.t:=by
 intro u hu;rw[List.take_add_one,ht] at hu;rcases List.mem_append.1 hu with hu|hu
 ·exact h u hu
 ·rw[List.mem_singleton.1 hu];exact hv
theorem uu(D:List Tk.T4)(p:Option Addr)(cap:Nat)(w:World)(hD:TkAt w D (.slice p D.length cap))(hok:Vw D)(ht:Tab w) :
 Calls Tryz.prog 136 #[.slice p D.length cap] w fun e w'=>(∃c:Int,e=.returned (.int .i64 c)∧VE D c)∧Below w.heap.size w w':=by
 have HD:=hid hD;have HO:=hid hok;have HT:=hid ht;obtain⟨-,-,-,-,hsm,-⟩:=hD;clear hok ht
 by_cases h4:400 < D.length
 ·have h4':(400:Int) < (D.length:Int):=by omega
  have R:Hid (VE D 10):=.inl ⟨h4,rfl⟩;go_enter Tryz.func136,Tryz.ntmps136;go_wp2;go_ret;exact⟨⟨10,rfl,R.out⟩,Below.refl _ _⟩
 ·have h4':¬(400:Int) < (D.length:Int):=by omega
  go_enter Tryz.func136,Tryz.ntmps136;go_wp2_with fail
  go_loopw [4,10] (fun _ i wr=>∃j:Nat,i=.int .i64 j∧j≤D.length∧Hid (Below w.heap.size w wr∧∀t∈ D.take j,VT t.t)) (fun _ i _=>D.length - (intOf i).toNat)
  case atStart=>exact⟨0,rfl,Nat.zero_le _,Below.refl _ _,fun t ht=>by simp at ht⟩
  case round =>
   obtain⟨j,rfl,hj,HR⟩:=hrel
   by_cases qD:j < D.length
   ·have hj':(j:Int) < (D.length:Int):=by omega
    have hj0:(0:Int)≤(j:Int):=(by omega);obtain⟨t,htD⟩:∃t,D[j]?=some t:=⟨_,List.getElem?_eq_getElem qD⟩;obtain⟨g,O,rfl,c0,c1,c2,c3⟩:=(HD.out.next HR.out.1).get htD;have TD:=hid htD;have TM:=hid (HO.out t (List.mem_of_getElem? htD));have B1:Hid (Below w.heap.size w (wr.alloc (.cells #[.int .i64 t.t.kind,.string t.t.text,.int .i64 t.t.num,.int .i64 t.at'] 68))):=HR.out.1.alloc HR.out.1.size _;have T1:=hid (HT.out.next B1.out);clear htD;go_wp2_with fail;refine(Qk t.t.kind t.t.text t.t.num t.at' _ T1.out TM.out.2).mono ?_;rintro e w2 ⟨⟨b,rfl,hb⟩,hbel⟩;have B2:=hid (bt9 B1 hbel);have HB:=hid hb;clear hb hbel c0 c1 c2 c3;cases b with
    | true =>
      have HN:=hid (KO HR.out.2 TD.out (HB.out.1 rfl));go_wp2
      go_roundw
      case rel=>exact⟨j+1,by go_num,by omega,B2.out,HN.out⟩
      case measure=>simp[intOf];omega
    | false =>
      have R:Hid (VE D 1):=.inr (.inr ⟨h4,(fun q=>by have:=HB.out.2 (q t (List.mem_of_getElem? TD.out));cases this),rfl⟩);go_wp2;go_ret;exact⟨⟨1,rfl,R.out⟩,B2.out⟩
   ·have hj':¬(j:Int) < (D.length:Int):=by omega
    have R:Hid (VE D 0):=.inr (.inl ⟨h4,by have:=HR.out.2;rw[List.take_of_length_le (by omega)] at this;exact this,rfl⟩);go_wp2;go_ret;exact⟨⟨0,rfl,R.out⟩,HR.out.1⟩
def tx(t:Tk.T4):ByteArray:=qY t.t.kind t.t.text t.t.num
def Ux(D:List Tk.T4):List UInt8:=Lib.join ((D.map tx).map (·.data.toList)) [32]
def jn(D:List Tk.T4):ByteArray:=⟨(Ux D).toArray⟩
theorem uN(xs:List (List UInt8))(x sep:List UInt8):Lib.join (xs++[x]) sep=if xs=[] then x else Lib.join xs sep++sep++x:=by
 cases xs with
 | nil=>rw[if_pos rfl];exact Lib.join_one x sep
 | cons y r =>
   rw[if_neg (by simp),List.cons_append,Lib.join_cons,Lib.join_cons];simp[Lib.joinTail]
theorem Ui(D:List Tk.T4)(t:Tk.T4):jn (D++[t])=if D=[] then tx t else jn D++⟨#[32]⟩++tx t:=by
 have e:Ux (D++[t])=if D=[] then (tx t).data.toList else Ux D++[32]++(tx t).data.toList:=by
  unfold Ux;rw[List.map_append,List.map_append];refine(uN _ _ _).trans ?_;cases D with
  | nil=>rfl
  | cons d D=>rfl
 unfold jn;rw[e]
 by_cases h:D=[]
 ·rw[if_pos h,if_pos h,vo]
 ·rw[if_neg h,if_neg h,← vq,← vq,vo]
theorem QU{t:Tk.T4}(h:VT t.t):(tx t).size≤200:=by
 obtain⟨⟨k,x,n⟩,a⟩:=t;unfold tx;rcases h with ⟨h1,h2,h3,h4⟩|⟨h1,h2,h3,h4⟩|⟨h1,h2,h3,h4⟩|⟨h1,h2,h3,h4⟩
 ·dsimp only at h1 h2 h3 h4 ⊢;subst h1 h4;have e:qY 1 x 0=x:=(by unfold qY;rw[if_pos (.inl rfl)]);rw[e];unfold Tk.word at h3
  split at h3
  ·split at h3
   ·cases h3
   ·rename_i q;omega
  ·split at h3
   ·split at h3
    ·have:=congrArg Tk.T3.kind (inj h3);dsimp only at this;omega
    ·cases h3
   ·split at h3
    ·split at h3
     ·have:=congrArg Tk.T3.kind (inj h3);dsimp only at this;omega
     ·cases h3
    ·split at h3
     ·have:=congrArg Tk.T3.kind (inj h3);dsimp only at this;omega
     ·cases h3
 ·dsimp only at h1 h2 h3 h4 ⊢;subst h2;rcases h1 with rfl|rfl
  ·have e:qY 2 ⟨#[]⟩ n=ye n:=by unfold qY;rw[if_neg (by omega),if_pos rfl]
   rw[e];have:=zb n (by omega) (by omega);omega
  ·have e:qY 3 ⟨#[]⟩ n=zg n:=by unfold qY;rw[if_neg (by omega),if_neg (by omega),if_pos rfl]
   rw[e];have:=zC n;omega
 ·dsimp only at h1 h2 h3 h4 ⊢;subst h1 h2;have e:qY 4 ⟨#[]⟩ n=⟨#[64]⟩++ja n:=(by unfold qY;rw[if_neg (by omega),if_neg (by omega),if_neg (by omega),if_pos rfl]);rw[e,ByteArray.size_append];have:=jm n;have h9:(⟨#[64]⟩:ByteArray).size=1:=rfl;omega
 ·dsimp only at h1 h2 h3 h4 ⊢;subst h1 h4;have e:qY 5 x 0=x:=(by unfold qY;rw[if_pos (.inr rfl)]);rw[e,← h3];unfold Tk.sgn
  split
  ·omega
  ·split<;>omega
theorem Uj(D:List Tk.T4)(h:∀t∈ D,VT t.t):(jn D).size≤201 * D.length:=by
 have key:∀n,∀D:List Tk.T4,D.length=n→(∀t∈ D,VT t.t)→(jn D).size≤201 * D.length:=by
  intro n
  induction n with
  | zero=>intro D hD _;rw[List.eq_nil_of_length_eq_zero hD];decide
  | succ n ih =>
    intro D hD hv;obtain⟨E,t,rfl⟩:∃E t,D=E++[t]:=⟨D.dropLast,D.getLast (by rintro rfl;simp at hD),(List.dropLast_concat_getLast _).symm⟩;have hE:E.length=n:=(by simpa using hD);have h1:=ih E hE (fun u hu=>hv u (List.mem_append_left _ hu));have h2:=QU (hv t (List.mem_append_right _ (List.mem_singleton.2 rfl)));rw[Ui,List.length_append]
    split
    ·simp;omega
    ·rw [ByteArray.size_append,ByteArray.size_append];have h9:(⟨#[32]⟩:ByteArray).size=1:=rfl;simp;omega
 exact key _ D rfl h
def jR(D:List Tk.T4)(j:Nat):List Value:=(List.range D.length).map fun i=>.string (if i < j then tx (D.getD i ⟨⟨0,⟨#[]⟩,0⟩,0⟩) else ⟨#[]⟩)
theorem jx(D:List Tk.T4)(j i:Nat)(h:i < D.length):(jR D j)[i]?=some (.string (if i < j then tx (D.getD i ⟨⟨0,⟨#[]⟩,0⟩,0⟩) else ⟨#[]⟩)):=by simp[jR,h]
theorem xP(D:List Tk.T4)(j i:Nat)(h:i < D.length)(hi:j≤i):(jR D j)[i]?=some (.string ⟨#[]⟩):=by rw[jx D j i h,if_neg (by omega)]
theorem kV(D:List Tk.T4)(j:Nat)(t:Tk.T4)(h:D[j]?=some t):(jR D j).set j (.string (tx t))=jR D (j+1):=by
 have hj:=(List.getElem?_eq_some_iff.1 h).1;apply List.ext_getElem?;intro i
 by_cases hi:i < D.length
 ·rw [List.getElem?_set]
  by_cases hij:j=i
  ·subst hij;rw[if_pos rfl,if_pos (by simp[jR];omega),jx D _ _ hi,if_pos (by omega),List.getD_eq_getElem?_getD,h];rfl
  ·rw [if_neg hij,jx D _ _ hi,jx D _ _ hi]
   by_cases h1:i < j
   ·rw[if_pos h1,if_pos (by omega)]
   ·rw[if_neg h1,if_neg (by omega)]
 ·rw[List.getElem?_eq_none (by simp[jR];omega),List.getElem?_eq_none (by simp[jR];omega)]
theorem YA(D:List Tk.T4):(madeCells #[Value.string ⟨#[]⟩] D.length).toList=jR D 0:=by
 rw[toList_madeCells_one];apply List.ext_getElem?;intro i
 by_cases hi:i < D.length
 ·rw[jx D 0 i hi,if_neg (by omega)];simp[hi]
 ·rw[List.getElem?_eq_none (by simp;omega),List.getElem?_eq_none (by simp[jR];omega)]
theorem Jx(D:List Tk.T4)(i:Nat)(x:ByteArray)(h:(D.map tx)[i]?=some x):(jR D D.length)[i]?=some (.string x):=by
 rw[List.getElem?_map] at h;cases hq:D[i]? with
 | none=>rw[hq] at h;cases h
 | some t =>
   rw[hq] at h;obtain rfl:=inj h;have hi:=(List.getElem?_eq_some_iff.1 hq).1;rw[jx D _ i hi,if_pos hi,List.getD_eq_getElem?_getD,hq];rfl
theorem Tryz.infoST:(Tryz.prog.info? 9).map (fun i=>(i.zero,i.size,i.bytes))=some (some (.string ⟨#[]⟩),1,16):=by kernel_rfl
def FP(D:List Tk.T4)(w:World)(e:Ending)(w':World):Prop:=(∃c:Int,VE D c∧e=.returned (.tuple #[.string (if c=0 then jn D else ⟨#[]⟩),.int .i64 c]))∧Below w.heap.size w w'
theorem Vr{D:List Tk.T4}{w w':World}{c:Int}(h:VE D c)(hc:c≠0)(hb:Below w.heap.size w w'):FP D w (.returned (.tuple #[.string ⟨#[]⟩,.int .i64 c])) w':=⟨⟨c,h,by rw[if_neg hc]⟩,hb⟩
theorem Ke{D:List Tk.T4}{w w':World}{s:ByteArray}(h:VE D 0)(hs:s=jn D)(hb:Below w.heap.size w w'):FP D w (.returned (.tuple #[.string s,.int .i64 0])) w':=⟨⟨0,h,by rw[if_pos rfl,hs]⟩,hb⟩
theorem vw(D:List Tk.T4)(p:Option Addr)(cap:Nat)(w:World)(hD:TkAt w D (.slice p D.length cap))(hok:Vw D)(ht:Tab w):Calls Tryz.prog 103 #[.slice p D.length cap] w (FP D w):=by
 obtain⟨i0,hi,hi0,hi1,hi2⟩:=info_parts Tryz.infoST;have HI2:=hid hi2;have HD:=hid hD;have HO:=hid hok;have HT:=hid ht;go_enter Tryz.func103,Tryz.ntmps103;go_wp2_with fail;refine(uu D p cap w hD hok ht).mono ?_;clear hD hok ht;rintro e w1 ⟨⟨c,rfl,hve⟩,hb⟩;have V:=hid hve;have B0:=hid hb;clear hve hb
 by_cases hc:c=0
 ·obtain ⟨hn4, hall⟩:=V.out.zero.1 hc;have AL:=hid hall;have hn:D.length≤400:=(by omega);subst hc;clear hall hn4;go_wp2_with (refine wpList_make_full _ rfl _ _ 73 rfl w1.heap.size 9 i0 (.string ⟨#[]⟩) 1 Tryz.underlying73 hi hi0 hi1 .i64 .i64 _ _ D.length rfl rfl rfl rfl ?m1 ?m2 ?m3 ?_)
  case m1=>rw[HI2.out];omega
  case m2=>unfold maxLen;omega
  case m3=>exact Nat.le_refl _
  intro w2 qi hg
  have hown':w2.ownsRow w1.heap.size 9 1 (.slice (some ⟨w1.heap.size,0,none⟩) D.length D.length) D.length (jR D 0):=by
   rw[← YA D];simpa using qi
  have O0:=hid hown';have B1:Hid (Below w.heap.size w w2):=B0.out.trans (Below.mono ⟨hg.os,hg.tape,hg.output,hg.size,fun i hi=>hg.block i hi (by simp)⟩ B0.out.size);have hg0:w.heap.size≤w1.heap.size:=B0.out.size;clear qi hown' hg;go_wp2_with fail;generalize hB:w1.heap.size=g0 at *;clear hB
  go_loopw [6,7,8,9,20] (fun _ _ _ _ i wr=>∃j:Nat,i=.int .i64 j∧j≤D.length∧g0 < wr.heap.size∧Hid (wr.ownsRow g0 9 1 (.slice (some ⟨g0,0,none⟩) D.length D.length) D.length (jR D j))∧Hid (Below w.heap.size w wr)) (fun _ _ _ _ i _=>D.length - (intOf i).toNat)
  case atStart=>exact⟨0,rfl,Nat.zero_le _,(O0.out.lt _ rfl).2,O0.out,B1.out⟩
  case round =>
   obtain⟨j,rfl,hj,hgz,O1',B1'⟩:=hrel;clear O0 B1
   by_cases qD:j < D.length
   ·have hj' : (j:Int) < (D.length:Int):=by omega
    have hj0:(0:Int)≤(j:Int):=(by omega);obtain⟨t,htD⟩:∃t,D[j]?=some t:=⟨_,List.getElem?_eq_getElem qD⟩;obtain⟨g,O,rfl,c0,c1,c2,c3⟩:=(HD.out.next B1'.out).get htD;have TD:=hid htD;have VT1:=hid (AL.out t (List.mem_of_getElem? htD));have B1:Hid (Below w.heap.size w (wr.alloc (.cells #[.int .i64 t.t.kind,.string t.t.text,.int .i64 t.t.num,.int .i64 t.at'] 68))):=B1'.out.alloc B1'.out.size _;have T1:=hid (HT.out.next B1.out);have O1:Hid ((wr.alloc (.cells #[.int .i64 t.t.kind,.string t.t.text,.int .i64 t.t.num,.int .i64 t.at'] 68)).ownsRow g0 9 1 (.slice (some ⟨g0,0,none⟩) D.length D.length) D.length (jR D j)):=O1'.out.alloc _;clear htD
    by_cases k2:t.t.kind=2
    ·have q2:(t.t.kind==2)=true:=by simp[k2]
     have nn:=(Vf (k:=t.t.kind) (x:=t.t.text) (n:=t.t.num) (.inl k2)).1 VT1.out;have n0:0≤t.t.num:=nn.2.1;have n1:t.t.num≤1099511627776:=nn.2.2;clear nn
     have TX:Hid (uz t.t.num=tx t):=by
      unfold Hid tx qY ye uz Lib.itoa;rw[if_neg (by omega),if_pos k2,if_neg (by omega)]
     clear k2;go_wp2_with fail;refine(j1 t.t.num _ n0 (by omega) T1.out).mono ?_;rw[TX.out];rintro e w2 ⟨rfl,hb⟩;have OWN2:=hid (zY O1.out hb);have B2:=hid (bt9 B1 hb);have d2:w2.cell? ⟨wr.heap.size,2,none⟩=some (.int .i64 t.t.num):=yQ hb 2;have hz2:=j5 hb;have s0:=OWN2.out.cellAt j (by omega);rw[xP _ _ _ (by omega) (Nat.le_refl _)] at s0;have s1:=OWN2.out.frozenAt j;have ST:=OWN2.out.stored j (.string (tx t))
     have OWN3:Hid ((w2.setCell ⟨g0,j,none⟩ (.string (tx t))).ownsRow g0 9 1 (.slice (some ⟨g0,0,none⟩) D.length D.length) D.length (jR D (j+1))):=by
      have:=ST.1;rw[kV D j t TD.out] at this;exact this
     have B3:Hid (Below w.heap.size w (w2.setCell ⟨g0,j,none⟩ (.string (tx t)))):=B2.out.setCell (p:=⟨g0,j,none⟩) hg0 _;have hz3:g0 < w2.heap.size:=(by omega);clear hb ST;go_wp2
     go_roundw
     case rel=>exact⟨j+1,by go_num,by omega,by simpa using hz3,OWN3.out,B3.out⟩
     case measure=>simp[intOf];omega
    ·have q2 : (t.t.kind==2)=false:=by simp[k2]
     by_cases k3:t.t.kind=3
     ·have q3:(t.t.kind==3)=true:=by simp[k3]
      have TX:Hid (zg t.t.num=tx t):=by
       unfold Hid tx qY;rw[if_neg (by omega),if_neg k2,if_pos k3]
      clear k2 k3;go_wp2_with fail;refine(Qa t.t.num _ T1.out).mono ?_;rw[TX.out];rintro e w2 ⟨rfl,hb⟩;have OWN2:=hid (zY O1.out hb);have B2:=hid (bt9 B1 hb);have d2:w2.cell? ⟨wr.heap.size,2,none⟩=some (.int .i64 t.t.num):=yQ hb 2;have hz2:=j5 hb;have s0:=OWN2.out.cellAt j (by omega);rw[xP _ _ _ (by omega) (Nat.le_refl _)] at s0;have s1:=OWN2.out.frozenAt j;have ST:=OWN2.out.stored j (.string (tx t))
      have OWN3:Hid ((w2.setCell ⟨g0,j,none⟩ (.string (tx t))).ownsRow g0 9 1 (.slice (some ⟨g0,0,none⟩) D.length D.length) D.length (jR D (j+1))):=by
       have:=ST.1;rw[kV D j t TD.out] at this;exact this
      have B3:Hid (Below w.heap.size w (w2.setCell ⟨g0,j,none⟩ (.string (tx t)))):=B2.out.setCell (p:=⟨g0,j,none⟩) hg0 _;have hz3:g0 < w2.heap.size:=(by omega);clear hb ST;go_wp2
      go_roundw
      case rel=>exact⟨j+1,by go_num,by omega,by simpa using hz3,OWN3.out,B3.out⟩
      case measure=>simp[intOf];omega
     ·have q3:(t.t.kind==3)=false:=by simp[k3]
      by_cases k4:t.t.kind=4
      ·have q4:(t.t.kind==4)=true:=by simp[k4]
       have TX:Hid (⟨#[64]⟩++ja t.t.num=tx t):=by
        unfold Hid tx qY;rw[if_neg (by omega),if_neg k2,if_neg k3,if_pos k4]
       have hfs:=jm t.t.num;clear k2 k3 k4;go_wp2_with fail;refine(jP t.t.num _ T1.out).mono ?_;generalize ja t.t.num=fv at *;rintro e w2 ⟨rfl,hb⟩;have OWN2:=hid (zY O1.out hb);have B2:=hid (bt9 B1 hb);have d2:w2.cell? ⟨wr.heap.size,2,none⟩=some (.int .i64 t.t.num):=yQ hb 2;have hz2:=j5 hb;have s0:=OWN2.out.cellAt j (by omega);rw[xP _ _ _ (by omega) (Nat.le_refl _)] at s0;have s1:=OWN2.out.frozenAt j;have ST:=OWN2.out.stored j (.string (tx t))
       have OWN3:Hid ((w2.setCell ⟨g0,j,none⟩ (.string (tx t))).ownsRow g0 9 1 (.slice (some ⟨g0,0,none⟩) D.length D.length) D.length (jR D (j+1))):=by
        have:=ST.1;rw[kV D j t TD.out] at this;exact this
       have B3:Hid (Below w.heap.size w (w2.setCell ⟨g0,j,none⟩ (.string (tx t)))):=B2.out.setCell (p:=⟨g0,j,none⟩) hg0 _;have hz3:g0 < w2.heap.size:=(by omega);clear hb ST;have TXO:=TX.out;go_wp2
       go_roundw
       case rel=>exact⟨j+1,by go_num,by omega,by simpa using hz3,OWN3.out,B3.out⟩
       case measure=>simp[intOf];omega
      ·have q4:(t.t.kind==4)=false:=by simp[k4]
       have TX:Hid (t.t.text=tx t):=by
        unfold Hid tx qY
        have:t.t.kind=1∨t.t.kind=5:=by
         rcases VT1.out with ⟨h,-⟩|⟨h,-⟩|⟨h,-⟩|⟨h,-⟩
         ·exact .inl h
         ·exact absurd h (fun q=>q.elim k2 k3)
         ·exact absurd h k4
         ·exact .inr h
        rw[if_pos this]
       clear k2 k3 k4;have s0:=O1'.out.cellAt j (by omega);rw[xP _ _ _ (by omega) (Nat.le_refl _)] at s0;have s1:=O1'.out.frozenAt j;have ST:=O1'.out.stored j (.string t.t.text)
       have OWN3:Hid (((wr.setCell ⟨g0,j,none⟩ (.string t.t.text)).alloc (.cells #[.int .i64 t.t.kind,.string t.t.text,.int .i64 t.t.num,.int .i64 t.at'] 68)).ownsRow g0 9 1 (.slice (some ⟨g0,0,none⟩) D.length D.length) D.length (jR D (j+1))):=by
        have:=ST.1.alloc (.cells #[.int .i64 t.t.kind,.string t.t.text,.int .i64 t.t.num,.int .i64 t.at'] 68);rw[TX.out,kV D j t TD.out] at this;rw[TX.out];exact this
       have B3:Hid (Below w.heap.size w ((wr.setCell ⟨g0,j,none⟩ (.string t.t.text)).alloc (.cells #[.int .i64 t.t.kind,.string t.t.text,.int .i64 t.t.num,.int .i64 t.at'] 68))):=(B1'.out.setCell (p:=⟨g0,j,none⟩) hg0 _).alloc (by simp;exact B1'.out.size) _;clear ST;go_wp2
       go_roundw
       case rel=>exact⟨j+1,by go_num,by omega,by simp;omega,OWN3.out,B3.out⟩
       case measure=>simp[intOf];omega
   ·have hj':¬(j:Int) < (D.length:Int):=by omega
    obtain rfl:j=D.length:=by omega
    have JS:=Uj D AL.out
    by_cases hz:D.length=0
    ·have hz2:=List.eq_nil_of_length_eq_zero hz;have JN:Hid ((⟨#[]⟩:ByteArray)=jn D):=(by unfold Hid;rw[hz2];rfl);have HZ:=hid hz;clear hz hz2;go_wp2_with fail;rw[HZ.out];refine(Tryz.strings_Join_none _ _ _ _).mono ?_;rintro e w3 ⟨rfl,rfl⟩;go_wp2
     go_ret2
     exact Ke V.out JN.out B1'.out
    ·have J:=Tryz.strings_Join g0 0 D.length (D.map tx) ⟨#[32]⟩ wr (fun q x hx=>by
      rw[Nat.zero_add,O1'.out.cellAt q (by have:=(List.getElem?_eq_some_iff.1 hx).1;simpa using this)]
      exact Jx D q x hx) hgz (by rw[List.length_map];omega) (by rw[List.length_map];exact Nat.le_refl _) (by
       have h1:(jn D).size=(Ux D).length:=by show(Ux D).toArray.size=_;simp
       show(Ux D).length≤_
       omega)
     rw[List.length_map] at J;have HJ:=hid J;clear J;go_wp2_with fail;refine HJ.out.mono ?_;rintro e w3 ⟨rfl,hb⟩;have B3:=hid (B1'.out.trans (hb.mono B1'.out.size));clear hb HJ;go_wp2
     go_ret2
     exact Ke V.out (by unfold jn Ux;rw[List.map_map]) B3.out
 ·have hcB:(c != 0)=true:=by simp[hc]
  have HC:=hid hc;clear hc;go_wp2
  go_ret2
  exact Vr V.out HC.out B0.out
def WT(s:ByteArray)(t:Tk.T3):Prop:=0 < s.size∧(∀b∈ s.data.toList,Tk.inW b=true)∧Tk.word s=some t
theorem KA(n:Int)(h0:0≤n)(h1:n≤1099511627776):WT (ye n) ⟨2,⟨#[]⟩,n⟩:=by
 have e:(ye n).data.toList=Lib.decDigits n.toNat:=by unfold ye Lib.itoa;rw[if_neg (by omega)]
 have hd:=Txt.dec_allD n.toNat;have hp:=kN n.toNat;have hz:(ye n).size=(Lib.decDigits n.toNat).length:=by rw[← qe,e]
 have hw:∀b∈ (ye n).data.toList,Tk.inW b=true:=by rw[e];exact fun b hb=>(yw hd b hb).1
 refine⟨by omega,hw,?_⟩;have qD:0 < (ye n).size:=by omega
 have g0:(ye n)[0]∈ Lib.decDigits n.toNat:=by rw[← e,← qR _ 0 qD];exact zu (by rw[qe];exact qD)
 have f0:=yw hd _ g0
 have hh:Tk.has (ye n).data.toList 58=false:=by
  rw[e];unfold Tk.has;rw[List.any_eq_false];intro b hb;simpa using (yw hd b hb).2.1
 rw[kP qD (by omega) f0.2.2.2 hh,e];have hl:=Txt.dec_len_le n.toNat 13 (by omega) (by omega);have hv:Txt.num (Lib.decDigits n.toNat)=n:=by rw[Txt.dec_num];omega
 rw[jW ⟨hp,hl,hd,?_,by rw[hv];exact h1⟩,hv];rintro ⟨q1,q2⟩
 by_cases hn:n.toNat=0
 ·rw [hn] at q2;have:=Txt.dec_len_le 0 1 (by omega) (by omega);omega
 ·exact ur n.toNat (by omega) q1
theorem Jn(n:Int)(h0:0≤n)(h1:n≤1099511627776):WT (zg n) ⟨3,⟨#[]⟩,n⟩:=by
 have hb:J8 n=true:=by unfold J8;rw[decide_eq_true_eq];omega
 have ev:zg n=vt n:=by unfold zg;rw[if_pos hb]
 rw[ev];obtain⟨d1,d2⟩:=Qb n hb;have e:=uk n;rw[if_neg (by simp;omega),List.nil_append] at e;have hA:yq n=n:=by unfold yq;rw[if_neg (by omega)]
 rw[hA] at e;have hd:=Txt.dec_allD (n / 60).toNat;have hpd:=Txt.pad_allD (n % 60).toNat 2;have hp:=kN (n / 60).toNat;have i58:Tk.inW 58=true:=by decide
 have hw:∀b∈ (vt n).data.toList,Tk.inW b=true:=by
  rw[e];intro b hb';rcases List.mem_append.1 hb' with q|q
  ·exact(yw hd b q).1
  ·rcases List.mem_append.1 q with q|q
   ·rw[List.mem_singleton.1 q];exact i58
   ·exact(yw hpd b q).1
 have hz:0 < (vt n).size:=by rw[← qe,e,List.length_append];omega
 refine⟨hz,hw,?_⟩
 have g0:(vt n)[0]∈ Lib.decDigits (n / 60).toNat:=by
  rw[← qR _ 0 hz,e,List.getD_eq_getElem?_getD,List.getElem?_append_left (by omega),← List.getD_eq_getElem?_getD];exact zu (by omega)
 have f0:=yw hd _ g0
 have hh:Tk.has (vt n).data.toList 58=true:=by
  rw[e];unfold Tk.has;rw[List.any_eq_true];exact⟨58,List.mem_append.2 (.inr (List.mem_append.2 (.inl (List.mem_singleton.2 rfl)))),by decide⟩
 rw[ke hz (by omega) f0.2.2.2 hh,if_pos d1,d2]
theorem Yu(n:Int)(h0:0≤n)(h1:n≤1439):WT (⟨#[64]⟩++ja n) ⟨4,⟨#[]⟩,n⟩:=by
 have hb:jb n=true:=by unfold jb;rw[decide_eq_true_eq];omega
 have ev:ja n=jQ n:=by unfold ja;rw[if_pos hb]
 rw[ev];obtain⟨d1,d2⟩:=kc n hb;have e:(⟨#[64]⟩++jQ n:ByteArray).data.toList=64 :: (jQ n).data.toList:=by rw[qP];rfl
 have e2:=xh n;have i58:Tk.inW 58=true:=by decide
 have i64:Tk.inW 64=true:=by decide
 have hw:∀b∈ (⟨#[64]⟩++jQ n:ByteArray).data.toList,Tk.inW b=true:=by
  rw[e,e2];intro b hb';rcases List.mem_cons.1 hb' with rfl|q
  ·exact i64
  ·rcases List.mem_append.1 q with q|q
   ·rcases List.mem_append.1 q with q|q
    ·exact(yw (Txt.pad_allD _ 2) b q).1
    ·rw[List.mem_singleton.1 q];exact i58
   ·exact(yw (Txt.pad_allD _ 2) b q).1
 have hz:0 < (⟨#[64]⟩++jQ n:ByteArray).size:=by rw[← qe,e];simp
 refine⟨hz,hw,?_⟩
 have g0:(⟨#[64]⟩++jQ n:ByteArray)[0].toNat=64:=by
  rw[← qR _ 0 hz,e];rfl
 have ex:(⟨#[64]⟩++jQ n:ByteArray).extract 1 (⟨#[64]⟩++jQ n:ByteArray).size=jQ n:=by
  apply ByteArray.ext;apply Array.toList_inj.1
  show((⟨#[64]⟩++jQ n:ByteArray).extract 1 (⟨#[64]⟩++jQ n:ByteArray).size).data.toList=(jQ n).data.toList
  rw[ext_list,List.take_of_length_le (by rw[qe];exact Nat.le_refl _),e];rfl
 rw[jG hz g0,ex,if_pos d1,d2]
theorem QT{t:Tk.T4}(h:VT t.t):WT (tx t) t.t∨(t.t=⟨5,tx t,0⟩∧0 < (tx t).size∧Tk.sgn (tx t).data.toList=(tx t).size):=by
 obtain⟨⟨k,x,n⟩,a⟩:=t;unfold tx;rcases h with ⟨h1,h2,h3,h4⟩|⟨h1,h2,h3,h4⟩|⟨h1,h2,h3,h4⟩|⟨h1,h2,h3,h4⟩
 ·dsimp only at h1 h2 h3 h4 ⊢;subst h1 h4;have e:qY 1 x 0=x:=(by unfold qY;rw[if_pos (.inl rfl)]);rw[e];refine .inl ⟨?_,h2,h3⟩
  by_cases hz:x.size=0
  ·rw[xY hz] at h3;cases h3
  ·omega
 ·dsimp only at h1 h2 h3 h4 ⊢;subst h2;rcases h1 with rfl|rfl
  ·have e:qY 2 ⟨#[]⟩ n=ye n:=by unfold qY;rw[if_neg (by omega),if_pos rfl]
   rw[e];exact .inl (KA n h3 h4)
  ·have e:qY 3 ⟨#[]⟩ n=zg n:=by unfold qY;rw[if_neg (by omega),if_neg (by omega),if_pos rfl]
   rw[e];exact .inl (Jn n h3 h4)
 ·dsimp only at h1 h2 h3 h4 ⊢;subst h1 h2;have e:qY 4 ⟨#[]⟩ n=⟨#[64]⟩++ja n:=(by unfold qY;rw[if_neg (by omega),if_neg (by omega),if_neg (by omega),if_pos rfl]);rw[e];exact .inl (Yu n h3 h4)
 ·dsimp only at h1 h2 h3 h4 ⊢;subst h1 h4;have e:qY 5 x 0=x:=(by unfold qY;rw[if_pos (.inr rfl)]);rw[e];exact .inr ⟨rfl,h2,h3⟩
theorem ku(S s:ByteArray)(i:Nat)(r:List UInt8)(h:S.data.toList.drop i=s.data.toList++r):S.extract i (i+s.size)=s:=by
 apply ByteArray.ext;apply Array.toList_inj.1
 show(S.extract i (i+s.size)).data.toList=s.data.toList
 rw[ext_list,List.drop_take,show i+s.size - i=s.size by omega,h,List.take_append_of_le_length (by rw[qe];exact Nat.le_refl _),List.take_of_length_le (by rw[qe];exact Nat.le_refl _)]
theorem jM{S:ByteArray}{i:Nat}{c:UInt8}{l:List UInt8}(h:S.data.toList.drop i=c :: l):i < S.size∧S.data.toList.getD i 0=c∧S.data.toList.drop (i+1)=l:=by
 have hl:=congrArg List.length h;rw[List.length_drop,qe] at hl;simp at hl;refine⟨by omega,by rw[← Tk.getD_drop,h];rfl,?_⟩;rw[← List.drop_drop,h];rfl
theorem Qn{S:ByteArray}{i:Nat}{l:List UInt8}(D:List Tk.T4)(h:S.data.toList.drop i=32 :: l):Tk.scan S (S.size - i) i D=Tk.scan S (S.size - (i+1)) (i+1) D:=by
 obtain⟨h1,h2,-⟩:=jM h;rw[Tk.scan_step S i D h1,h2,if_neg (by decide),if_pos (by decide)]
theorem scan_len(s:ByteArray):∀(n i:Nat)(D:List Tk.T4),D.length≤400→(Tk.scan s n i D).1.length≤400:=by
 intro n
 induction n with
 | zero=>intro i D h;exact h
 | succ n ih =>
   intro i D h;rw[Tk.scan]
   by_cases h1:s.size≤i
   ·rw[if_pos h1];exact h
   ·rw [if_neg h1]
    split
    ·exact h
    ·split
     ·exact ih _ _ h
     ·split
      ·exact Nat.zero_le _
      ·split
       ·exact Nat.zero_le _
       ·refine ih _ _ ?_;rw[List.length_append];simp;omega
namespace Fp
open Pz
def tb(t:Tk.T3):List UInt8:=(tx ⟨t,0⟩).data.toList
def pb(p:P):List UInt8:=if p.1=true then 32 :: tb p.2 else tb p.2
def bts(l:List P):List UInt8:=l.flatMap pb
def nb(a b:Tk.T3):Prop:=a=sg wMinus∨a=sg wOpen∨b=sg wOpen∨b=sg wShut∨b=sg wComma
def okL:List P→Prop
 | []=>True
 | [_]=>True
 | p :: q :: l=>(q.1=true∨nb p.2 q.2)∧okL (q :: l)
def Gp(r:List UInt8):Prop:=r=[]∨∃c l,r=c :: l∧Tk.inW c=false∧c.toNat≠61
theorem wl_app2(l r:List UInt8)(h:∀b∈ l,Tk.inW b=true)(hr:Gp r):Tk.wl (l++r)=l.length:=by
 induction l with
 | nil =>
   rcases hr with rfl|⟨c,l,rfl,h1,h2⟩
   ·rfl
   ·rw[List.nil_append,Tk.wl_cons,if_neg (by rw[h1];decide)];rfl
 | cons c l ih =>
   rw[List.cons_append,Tk.wl_cons,if_pos (h c (List.mem_cons_self ..)),ih (fun b hb=>h b (List.mem_cons_of_mem _ hb))];rfl
theorem sgn_app2(l r:List UInt8)(h:Tk.sgn l=l.length)(hp:0 < l.length)(hr:Gp r):Tk.sgn (l++r)=l.length:=by
 unfold Tk.sgn at h
 by_cases h2:(l.getD 0 0).toNat=60∧(l.getD 1 0).toNat=61
 ·rw [if_pos h2] at h
  match l,h,h2 with
  | [a,b],_,h2 =>
    unfold Tk.sgn;exact if_pos h2
 ·rw [if_neg h2] at h
  by_cases h1:1≤l.length∧Tk.inS (l.getD 0 0)=true
  ·rw [if_pos h1] at h
   match l,h,h1 with
   | [a],_,h1 =>
     have hs:Tk.inS a=true:=h1.2;unfold Tk.sgn;rcases hr with rfl|⟨c,l,rfl,q1,q2⟩
     ·exact(if_neg (fun q=>by have h9:(0:UInt8).toNat=61:=q.2;revert h9;decide)).trans (if_pos ⟨by simp,hs⟩)
     ·exact(if_neg (fun q=>q2 q.2)).trans (if_pos ⟨by simp,hs⟩)
  ·rw[if_neg h1] at h;omega
theorem sgn_one(a:UInt8)(r:List UInt8)(h1:a.toNat≠60)(h2:Tk.inS a=true):Tk.sgn (a :: r)=1:=by
 unfold Tk.sgn;exact(if_neg (fun q=>h1 q.1)).trans (if_pos ⟨by simp,h2⟩)
theorem tok_at2{S:ByteArray}{t:Tk.T3}{i:Nat}{r:List UInt8}(hv:VT t)(h:S.data.toList.drop i=tb t++r)(hr:Gp r∨t=sg wMinus∨t=sg wOpen) :
 Tk.tokAt S i=(some t,(tb t).length)∧(S.data.toList.getD i 0).toNat≠35∧(S.data.toList.getD i 0).toNat≠32∧0 < (tb t).length:=by
 have one:∀(a:UInt8),t=sg ⟨#[a]⟩→a.toNat≠60→Tk.inS a=true→Tk.inW a=false→a.toNat≠35∧a.toNat≠32→
  Tk.tokAt S i=(some t,(tb t).length)∧(S.data.toList.getD i 0).toNat≠35∧(S.data.toList.getD i 0).toNat≠32∧0 < (tb t).length:=by
  intro a ha a1 a2 a3 a4;have e:tx ⟨t,0⟩=⟨#[a]⟩:=by rw[ha];rfl
  have e1:tb t=[a]:=by unfold tb;rw[e]
  rw[e1] at h ⊢;have g:S.data.toList.getD i 0=a:=by rw[← Tk.getD_drop,h];rfl
  rw[g];refine⟨?_,a4.1,a4.2,by simp⟩;unfold Tk.tokAt;have q:=ku S ⟨#[a]⟩ i r h;rw[g,if_neg (by rw[a3];decide),h]
  show(if Tk.sgn (a :: r)=0 then none else some (⟨5,S.extract i (i+Tk.sgn (a :: r)),0⟩:Tk.T3),Tk.sgn (a :: r))=_
  rw[sgn_one a r a1 a2,if_neg (by decide),show i+1=i+(⟨#[a]⟩:ByteArray).size from rfl,q,ha];rfl
 rcases hr with hr|hr|hr
 ·have g:S.data.toList.getD i 0=(tb t++r).getD 0 0:=by rw[← h,Tk.getD_drop]
  have g2:0 < (tb t).length→S.data.toList.getD i 0=(tb t).getD 0 0:=fun hp=>by
   rw[g,List.getD_eq_getElem?_getD,List.getElem?_append_left hp,← List.getD_eq_getElem?_getD]
  have ym:(tx ⟨t,0⟩).size=(tb t).length:=(qe _).symm;rcases QT (t:=⟨t,0⟩) hv with ⟨hp,hw,ho⟩|⟨he,hp,hs⟩
  ·rw [ym] at hp;have h0:Tk.inW ((tb t).getD 0 0)=true:=hw _ (zu hp);rw[g2 hp];refine⟨?_,(jX h0).2,(jX h0).1,hp⟩;unfold Tk.tokAt;have wl2:Tk.wl (tb t++r)=(tb t).length:=wl_app2 (tb t) r hw hr;rw[g2 hp,if_pos h0,h,wl2,← ym,ku S (tx ⟨t,0⟩) i r h,ho]
  ·rw [ym] at hp hs;have hb:=xr hs hp;have h0:Tk.inS ((tb t).getD 0 0)=true:=hb _ (zu hp);rw[g2 hp];refine⟨?_,(jq h0).2.1,(jq h0).1,hp⟩;unfold Tk.tokAt;have sg2:Tk.sgn (tb t++r)=(tb t).length:=sgn_app2 (tb t) r hs hp hr;rw[g2 hp,if_neg (by rw[(jq h0).2.2];simp),h,sg2,if_neg (by omega),← ym,ku S (tx ⟨t,0⟩) i r h,← he]
 ·exact one 45 hr (by decide) (by decide) (by decide) (by decide)
 ·exact one 40 hr (by decide) (by decide) (by decide) (by decide)
theorem gp_of{p q:P}{l:List P}(hq:VT q.2)(h:q.1=true∨nb p.2 q.2):Gp (bts (q :: l))∨p.2=sg wMinus∨p.2=sg wOpen:=by
 unfold bts;rw[List.flatMap_cons];unfold pb;rcases h with h|h|h|h|h|h
 ·rw [if_pos h];exact .inl (.inr ⟨32,_,rfl,by decide,by decide⟩)
 ·exact .inr (.inl h)
 ·exact .inr (.inr h)
 all_goals
  left;right
  by_cases hb:q.1=true
  ·rw[if_pos hb];exact⟨32,_,rfl,by decide,by decide⟩
  ·rw[if_neg hb,h];exact⟨_,_,rfl,by decide,by decide⟩
theorem scan_pcs{S:ByteArray}:∀(l:List P)(i:Nat)(A:List Tk.T4),(∀p∈ l,VT p.2)→okL l→S.data.toList.drop i=bts l→
 (A.length+l.length≤400→∃E:List Tk.T4,E.map (fun t=>t.t)=l.map (fun p=>p.2)∧Tk.scan S (S.size - i) i A=(A++E,0,0))∧
 (A.length≤400→400 < A.length+l.length→∃j,Tk.scan S (S.size - i) i A=([],j,10)):=by
 intro l
 induction l with
 | nil =>
   intro i A _ _ h;have hj:=congrArg List.length h;rw[List.length_drop,qe] at hj;simp[bts] at hj;refine⟨fun _=>⟨[],rfl,by rw[List.append_nil];exact Tk.scan_end S i A (by omega)⟩,fun h1 h2=>by simp at h2;omega⟩
 | cons p l ih =>
   intro i A hv hok h;have hvp:=hv p (List.mem_cons_self ..);have hvl:∀q∈ l,VT q.2:=fun q hq=>hv q (List.mem_cons_of_mem _ hq)
   have hokl:okL l:=by
    cases l with
    | nil=>trivial
    | cons q l=>exact hok.2
   have hr:Gp (bts l)∨p.2=sg wMinus∨p.2=sg wOpen:=by
    cases l with
    | nil=>exact .inl (.inl rfl)
    | cons q l=>exact gp_of (hvl q (List.mem_cons_self ..)) hok.1
   have e:bts (p :: l)=pb p++bts l:=(by unfold bts;rw[List.flatMap_cons]);rw[e] at h
   obtain ⟨j,hj,hs⟩:∃j,S.data.toList.drop j=tb p.2++bts l∧∀A:List Tk.T4,Tk.scan S (S.size - i) i A=Tk.scan S (S.size - j) j A:=by
    unfold pb at h
    by_cases hb:p.1=true
    ·rw [if_pos hb,List.cons_append] at h;exact⟨i+1,(jM h).2.2,fun A=>Qn A h⟩
    ·rw [if_neg hb] at h;exact⟨i,h,fun A=>rfl⟩
   obtain⟨h1,h2,h3,h4⟩:=tok_at2 hvp hj hr;have hl:=congrArg List.length hj;rw[List.length_drop,qe,List.length_append] at hl
   have nx:S.data.toList.drop (j+(tb p.2).length)=bts l:=by
    rw[← List.drop_drop,hj,List.drop_append_of_le_length (Nat.le_refl _),List.drop_of_length_le (Nat.le_refl _)];rfl
   have st:Tk.scan S (S.size - j) j A=if A.length=400 then ([],(j:Int),10) else Tk.scan S (S.size - (j+(tb p.2).length)) (j+(tb p.2).length) (A++[⟨p.2,(j:Int)⟩]):=by
    rw[Tk.scan_step S j A (by omega),if_neg h2,if_neg h3,h1]
   rw[hs A,st];obtain⟨i1,i2⟩:=ih (j+(tb p.2).length) (A++[⟨p.2,(j:Int)⟩]) hvl hokl nx;rw[List.length_append,List.length_singleton] at i1 i2;rw[List.length_cons];constructor
   ·intro hc;rw[if_neg (by omega)];obtain⟨E,e1,e2⟩:=i1 (by omega);exact⟨⟨p.2,(j:Int)⟩ :: E,by rw[List.map_cons,List.map_cons,e1],by rw[e2,List.append_assoc];rfl⟩
   ·intro hc hc2
    by_cases h0:A.length=400
    ·rw[if_pos h0];exact⟨_,rfl⟩
    ·rw[if_neg h0];exact i2 (by omega) (by omega)
theorem scan_text(S:ByteArray)(l:List P)(hv:∀p∈ l,VT p.2)(hok:okL l)(h:S.data.toList=bts l) :
 (l.length≤400→∃E:List Tk.T4,E.map (fun t=>t.t)=l.map (fun p=>p.2)∧Tk.scanT S=(E,0,0))∧(400 < l.length→∃j,Tk.scanT S=([],j,10)):=by
 obtain⟨h1,h2⟩:=scan_pcs (S:=S) l 0 [] hv hok (by rw[List.drop_zero];exact h);constructor
 ·intro hl;obtain⟨E,e1,e2⟩:=h1 (by simpa using hl);exact⟨E,e1,by rw[Nat.sub_zero,List.nil_append] at e2;exact e2⟩
 ·intro hl;obtain⟨j,e⟩:=h2 (by simp) (by simpa using hl);exact⟨j,by rw[Nat.sub_zero] at e;exact e⟩
end Fp
namespace Fp
open Pz
theorem okL_tail{p:P}{l:List P}(h:okL (p :: l)):okL l:=by
 cases l with
 | nil=>trivial
 | cons q l=>exact h.2
theorem okL_cons{p:P}{l:List P}(h:okL l)(hj:∀q,l.head?=some q→q.1=true∨nb p.2 q.2):okL (p :: l):=by
 cases l with
 | nil=>trivial
 | cons q l=>exact⟨hj q rfl,h⟩
theorem okL_app{l m:List P}(h1:okL l)(h2:okL m)(hj:∀q,m.head?=some q→q.1=true∨q.2=sg wShut∨q.2=sg wComma):okL (l++m):=by
 induction l with
 | nil=>exact h2
 | cons p l ih =>
   cases l with
   | nil =>
     refine okL_cons h2 fun q hq=>?_;rcases hj q hq with e|e|e
     ·exact .inl e
     ·exact .inr (.inr (.inr (.inr (.inl e))))
     ·exact .inr (.inr (.inr (.inr (.inr e))))
   | cons r l=>exact⟨h1.1,ih h1.2⟩
theorem okL_bl{l:List P}(h:okL l):okL (bl l):=by
 cases l with
 | nil=>trivial
 | cons p l =>
   cases l with
   | nil=>trivial
   | cons q l=>exact h
theorem okL_cbl{p:P}{l:List P}(h:okL l):okL (p :: bl l):=by
 refine okL_cons (okL_bl h) fun q hq=>?_;cases l with
 | nil=>cases hq
 | cons r l=>cases hq;exact .inl rfl
def VL(l:List P):Prop:=∀p∈ l,VT p.2
theorem vl_nil:VL []:=fun p h=>by cases h
theorem vl_cons{p:P}{l:List P}(h:VT p.2)(h2:VL l):VL (p :: l):=fun q hq=>by
 rcases List.mem_cons.1 hq with rfl|hq
 ·exact h
 ·exact h2 q hq
theorem vl_app{l m:List P}(h:VL l)(h2:VL m):VL (l++m):=fun q hq=>by
 rcases List.mem_append.1 hq with hq|hq
 ·exact h q hq
 ·exact h2 q hq
theorem vl_bl{l:List P}(h:VL l):VL (bl l):=by
 cases l with
 | nil=>exact vl_nil
 | cons p l=>exact vl_cons (h p (by simp)) fun q hq=>h q (by simp[hq])
theorem vt_sg{w:ByteArray}(h1:0 < w.size)(h2:Tk.sgn w.data.toList=w.size):VT (sg w):=.inr (.inr (.inr ⟨rfl,h1,h2,rfl⟩))
theorem vt_wd{w:ByteArray}(h1:∀b∈ w.data.toList,Tk.inW b=true)(h2:Tk.word w=some ⟨1,w,0⟩):VT (wd w):=.inl ⟨rfl,h1,h2,rfl⟩
theorem word_low{s:ByteArray}(h1:97≤(s.data.toList.getD 0 0).toNat∧(s.data.toList.getD 0 0).toNat≤122)(h2:s.size≤33)(h3:Tk.has s.data.toList 58=false)(h4:Tk.has s.data.toList 64=false):Tk.word s=some ⟨1,s,0⟩:=by
 unfold Tk.word;rw[if_pos h1,if_neg];rintro (q|q|q)
 ·omega
 ·rw[h3] at q;cases q
 ·rw[h4] at q;cases q
theorem attr_bytes{l:List UInt8}(h:Nam.attr l=true):l.length≤33∧∀b∈ l,Nam.wordB b=true∨b=46:=by
 have one:∀m,Nam.isName m=true→m.length≤16∧∀b∈ m,Nam.wordB b=true:=fun m q=>by
  unfold Nam.isName at q;rw[decide_eq_true_eq] at q;exact⟨q.2.1,List.all_eq_true.1 q.2.2.2⟩
 unfold Nam.attr at h
 by_cases h1:Lib.indexByte l 46 = -1
 ·rw [if_pos h1] at h;unfold Nam.declName at h;rw[Bool.and_eq_true] at h;obtain⟨q1,q2⟩:=one _ h.1;exact⟨by omega,fun b hb=>.inl (q2 b hb)⟩
 ·rw [if_neg h1,Bool.and_eq_true] at h;obtain⟨a1,a2⟩:=one _ h.1;obtain⟨b1,b2⟩:=one _ h.2;have hge:=Lib.indexByte_ge l 46;obtain⟨n,hn⟩:∃n:Nat,Lib.indexByte l 46=n:=⟨(Lib.indexByte l 46).toNat,by omega⟩;obtain⟨s1,-⟩:=Lib.indexByte_some hn;rw[hn] at a1 a2 b1 b2;rw[Int.toNat_natCast] at a1 a2 b1 b2;obtain⟨hl,hv⟩:=List.getElem?_eq_some_iff.1 s1;rw[List.length_take] at a1;rw[List.length_drop] at b1;refine⟨by omega,fun b hb=>?_⟩;have e:l=l.take n++l[n] :: l.drop (n+1):=(by rw[← List.drop_eq_getElem_cons hl,List.take_append_drop]);rw[e] at hb;rcases List.mem_append.1 hb with hb|hb
  ·exact .inl (a2 b hb)
  ·rcases List.mem_cons.1 hb with hb|hb
   ·exact .inr (hb.trans hv)
   ·exact .inl (b2 b hb)
theorem vt_attr{s:ByteArray}(h:zv s=true):VT (wd s):=by
 have h':Nam.attr s.data.toList=true:=h;obtain⟨h1,h2⟩:=attr_bytes h';have h3:=attr_first h';unfold Nam.lowB at h3;rw[decide_eq_true_eq] at h3
 have key:∀b,Nam.wordB b=true∨b=46→Tk.inW b=true∧b.toNat≠58∧b.toNat≠64:=by
  rintro b (q|rfl)
  ·unfold Nam.wordB at q;rw[decide_eq_true_eq] at q;unfold Tk.inW;rw[decide_eq_true_eq];omega
  ·decide
 have ym:s.size=s.data.toList.length:=(Array.length_toList).symm;refine vt_wd (fun b hb=>(key b (h2 b hb)).1) (word_low h3 (by omega) ?_ ?_)
 ·unfold Tk.has;rw[List.any_eq_false];intro b hb;have:=(key b (h2 b hb)).2.1
  simpa using this
 ·unfold Tk.has;rw[List.any_eq_false];intro b hb;have:=(key b (h2 b hb)).2.2
  simpa using this
theorem vt_opW(op:Int):VT (opW op):=by
 unfold opW
 repeat' split
 all_goals first
  | exact vt_sg (by decide) (by decide)
  | exact vt_wd (by decide) rfl
def Nice(l:List P):Prop:=VL l∧okL l
theorem nice_I{c:Ch}(h:Nice (F c)):Nice (I c):=by
 unfold I tI
 by_cases q:len c.k=0∨c.a.op=12∨c.a.op=13
 ·rw[if_pos q];exact h
 ·rw [if_neg q];refine⟨vl_cons (vt_sg (by decide) (by decide)) (vl_app h.1 (vl_cons (vt_sg (by decide) (by decide)) vl_nil)),okL_cons (okL_app h.2 trivial fun q hq=>?_) fun q _=>.inr (.inr (.inl rfl))⟩;cases hq;exact .inr (.inl rfl)
theorem nice_list:∀(l:List Ch),(∀c∈ l,Nice (F c))→Nice (jnC (l.map fun c=>(F c,I c))):=by
 intro l
 induction l with
 | nil=>intro _;exact⟨vl_nil,trivial⟩
 | cons c l ih =>
   intro h;cases l with
   | nil=>exact h c (by simp)
   | cons d l =>
     have q:=ih fun x hx=>h x (by simp only[List.mem_cons] at hx ⊢;exact .inr hx);have hc:=h c (by simp)
     show Nice (F c++(false,sg wComma) :: bl (jnC ((d :: l).map fun c=>(F c,I c))))
     refine⟨vl_app hc.1 (vl_cons (vt_sg (by decide) (by decide)) (vl_bl q.1)),okL_app hc.2 (okL_cbl q.2) fun r hr=>?_⟩;cases hr;exact .inr (.inr rfl)
theorem nice_node(c:Ch)(hw:zk c.a (len c.k)=true)(hg:∀x∈ kl c.k,Nice (F x)):Nice (F c):=by
 unfold zk at hw;rw[Bool.and_eq_true,Bool.and_eq_true,Bool.and_eq_true,decide_eq_true_eq] at hw;obtain⟨⟨⟨⟨o1,o2⟩,ha⟩,hn⟩,hm⟩:=hw;have hkl:=kl_len c.k;unfold j6 at ha;unfold j8 at hn;unfold zQ at hm
 have hop:c.a.op=1∨c.a.op=2∨c.a.op=3∨c.a.op=4∨c.a.op=5∨c.a.op=6∨c.a.op=7∨c.a.op=19∨c.a.op=12∨c.a.op=13∨c.a.op=14∨c.a.op=15∨
  (c.a.op=8∨c.a.op=9∨c.a.op=10∨c.a.op=11∨c.a.op=16∨c.a.op=17∨c.a.op=18∨c.a.op=20∨c.a.op=21∨c.a.op=22):=by omega
 rcases hop with h|h|h|h|h|h|h|h|h|h|h|h|h
 ·rw [h] at hn;have q:=of_decide_eq_true hn;rw[tF_eq c 1 h];exact⟨vl_cons (.inr (.inl ⟨.inl rfl,rfl,q.1,q.2⟩)) vl_nil,trivial⟩
 ·rw [h] at hn;have q:=of_decide_eq_true hn;rw[tF_eq c 2 h];exact⟨vl_cons (.inr (.inl ⟨.inr rfl,rfl,q.1,q.2⟩)) vl_nil,trivial⟩
 ·rw [h] at hn;have q:=of_decide_eq_true hn;rw[tF_eq c 3 h];exact⟨vl_cons (.inr (.inr (.inl ⟨rfl,rfl,q.1,q.2⟩))) vl_nil,trivial⟩
 ·rw [tF_eq c 4 h];exact⟨vl_cons (vt_wd (by decide) rfl) vl_nil,trivial⟩
 ·rw [tF_eq c 5 h];exact⟨vl_cons (vt_wd (by decide) rfl) vl_nil,trivial⟩
 ·rw [h] at hm;have hat:zv c.a.name=true:=hm;rw[tF_eq c 6 h];exact⟨vl_cons (vt_attr hat) vl_nil,trivial⟩
 ·rw [h] at ha;have k1:len c.k=1:=(by have:=of_decide_eq_true ha;omega);obtain⟨x,hx⟩:=len_one (hkl.trans k1);have gx:=nice_I (hg x (by rw[hx];simp));rw[tF_eq c 7 h,tK_one hx];exact⟨vl_cons (vt_sg (by decide) (by decide)) gx.1,okL_cons gx.2 fun q _=>.inr (.inl rfl)⟩
 ·rw [h] at ha;have k1:len c.k=1:=(by have:=of_decide_eq_true ha;omega);obtain⟨x,hx⟩:=len_one (hkl.trans k1);have gx:=nice_I (hg x (by rw[hx];simp));rw[tF_eq c 19 h,tK_one hx];exact⟨vl_cons (vt_wd (by decide) rfl) (vl_bl gx.1),okL_cbl gx.2⟩
 ·rw [tF_eq c 12 h,tK_kl];have q:=nice_list (kl c.k) hg;refine⟨vl_cons (vt_wd (by decide) rfl) (vl_cons (vt_sg (by decide) (by decide)) (vl_app q.1 (vl_cons (vt_sg (by decide) (by decide)) vl_nil))),?_⟩;refine okL_cons (okL_cons (okL_app q.2 trivial fun r hr=>?_) fun r _=>.inr (.inr (.inl rfl))) fun r hr=>?_
  ·cases hr;exact .inr (.inl rfl)
  ·cases hr;exact .inr (.inr (.inr (.inl rfl)))
 ·rw [tF_eq c 13 h,tK_kl];have q:=nice_list (kl c.k) hg;refine⟨vl_cons (vt_wd (by decide) rfl) (vl_cons (vt_sg (by decide) (by decide)) (vl_app q.1 (vl_cons (vt_sg (by decide) (by decide)) vl_nil))),?_⟩;refine okL_cons (okL_cons (okL_app q.2 trivial fun r hr=>?_) fun r _=>.inr (.inr (.inl rfl))) fun r hr=>?_
  ·cases hr;exact .inr (.inl rfl)
  ·cases hr;exact .inr (.inr (.inr (.inl rfl)))
 ·rw [h] at ha;have k3:len c.k=3:=(by have:=of_decide_eq_true ha;omega);obtain⟨x,y,z,hx⟩:=len_three (hkl.trans k3);have gx:=hg x (by rw[hx];simp);have gy:=hg y (by rw[hx];simp);have gz:=hg z (by rw[hx];simp);rw[tF_eq c 14 h,tK_three hx]
  show Nice ((false,wd wIf) :: (bl (F x)++(true,wd wThen) :: (bl (F y)++(true,wd wElse) :: bl (F z))))
  have z2:Nice ((true,wd wElse) :: bl (F z)):=⟨vl_cons (vt_wd (by decide) rfl) (vl_bl gz.1),okL_cbl gz.2⟩
  have y2:Nice ((true,wd wThen) :: (bl (F y)++(true,wd wElse) :: bl (F z))):=by
   refine⟨vl_cons (vt_wd (by decide) rfl) (vl_app (vl_bl gy.1) z2.1),?_⟩;have e:okL (bl (F y)++(true,wd wElse) :: bl (F z)):=okL_app (okL_bl gy.2) z2.2 fun q hq=>by cases hq;exact .inl rfl
   refine okL_cons e fun q hq=>?_;cases hF:F y with
   | nil=>rw[hF] at hq;cases hq;exact .inl rfl
   | cons p l=>rw[hF] at hq;cases hq;exact .inl rfl
  refine⟨vl_cons (vt_wd (by decide) rfl) (vl_app (vl_bl gx.1) y2.1),?_⟩;have e:okL (bl (F x)++(true,wd wThen) :: (bl (F y)++(true,wd wElse) :: bl (F z))):=okL_app (okL_bl gx.2) y2.2 fun q hq=>by cases hq;exact .inl rfl
  refine okL_cons e fun q hq=>?_;cases hF:F x with
  | nil=>rw[hF] at hq;cases hq;exact .inl rfl
  | cons p l=>rw[hF] at hq;cases hq;exact .inl rfl
 ·rw [h] at ha;have k3:len c.k=3:=(by have:=of_decide_eq_true ha;omega);obtain⟨x,y,z,hx⟩:=len_three (hkl.trans k3);have gx:=nice_I (hg x (by rw[hx];simp));have gy:=nice_I (hg y (by rw[hx];simp));have gz:=nice_I (hg z (by rw[hx];simp));rw[tF_eq c 15 h,tK_three hx]
  show Nice (I x++(true,wd wIn) :: (bl (I y)++(true,wd wTo) :: bl (I z)))
  have z2:Nice ((true,wd wTo) :: bl (I z)):=⟨vl_cons (vt_wd (by decide) rfl) (vl_bl gz.1),okL_cbl gz.2⟩
  have y2:Nice ((true,wd wIn) :: (bl (I y)++(true,wd wTo) :: bl (I z))):=by
   refine⟨vl_cons (vt_wd (by decide) rfl) (vl_app (vl_bl gy.1) z2.1),?_⟩;have e:okL (bl (I y)++(true,wd wTo) :: bl (I z)):=okL_app (okL_bl gy.2) z2.2 fun q hq=>by cases hq;exact .inl rfl
   refine okL_cons e fun q hq=>?_;cases hF:I y with
   | nil=>rw[hF] at hq;cases hq;exact .inl rfl
   | cons p l=>rw[hF] at hq;cases hq;exact .inl rfl
  exact⟨vl_app gx.1 y2.1,okL_app gx.2 y2.2 fun q hq=>by cases hq;exact .inl rfl⟩
 ·have n1:¬(1≤c.a.op∧c.a.op≤6):=by omega
  have n2:¬(c.a.op=7∨c.a.op=19):=(by omega);have n3:¬(c.a.op=12∨c.a.op=13):=(by omega);have n4:¬(c.a.op=14∨c.a.op=15):=(by omega);rw[if_neg n1,if_neg n2,if_neg n3,if_neg n4] at ha;have k2:len c.k=2:=(by have:=of_decide_eq_true ha;omega);obtain⟨x,y,hx⟩:=len_two (hkl.trans k2);have gx:=nice_I (hg x (by rw[hx];simp));have gy:=nice_I (hg y (by rw[hx];simp))
  have e:F c=I x++(true,opW c.a.op) :: bl (I y):=by
   unfold F tF;rw[tK_two hx];rw[if_neg (by omega),if_neg (by omega),if_neg (by omega),if_neg (by omega),if_neg (by omega),if_neg (by omega),if_neg (by omega),if_neg (by omega),if_neg (by omega),if_neg (by omega),if_neg (by omega),if_neg (by omega)];rfl
  rw[e];exact⟨vl_app gx.1 (vl_cons (vt_opW _) (vl_bl gy.1)),okL_app gx.2 (okL_cbl gy.2) fun q hq=>by cases hq;exact .inl rfl⟩
theorem nice_all(k:Fo):za k=true→∀c∈ kl k,Nice (F c):=by
 induction k with
 | nil=>intro _ c hc;cases hc
 | node b o a k r ihk ihr =>
   intro hw c hc;unfold za at hw;rw[Bool.and_eq_true,Bool.and_eq_true] at hw;rcases List.mem_cons.1 hc with rfl|hc
   ·exact nice_node _ hw.1.1 (ihk hw.1.2)
   ·exact ihr hw.2 c hc
theorem nice_of(c:Ch)(hw:(zk c.a (len c.k) && za c.k)=true):Nice (F c):=by
 rw[Bool.and_eq_true] at hw;exact nice_node c hw.1 (nice_all c.k hw.2)
end Fp
namespace Pz
def FNe(s:Nat):Fo→Nat→Prop
 | .nil,_=>True
 | .node b _ _ k r,B=>B≠s∧FNe s k b∧FNe s r B
theorem FNe.ofLt{s:Nat}{T:Fo}{B:Nat}(h:FoLt s T B):FNe s T B:=by
 induction T generalizing B with
 | nil=>trivial
 | node b o a k r ihk ihr=>exact⟨Nat.ne_of_lt h.1,ihk h.2.1,ihr h.2.2⟩
theorem fat_grown{w w':World}{s:Nat}{T:Fo}{B O:Nat}(h:FoAt w T B O)(hn:FNe s T B)(hg:w.grownBy w' (some s)):FoAt w' T B O:=by
 induction T generalizing B O with
 | nil=>trivial
 | node b o a k r ihk ihr =>
   obtain⟨⟨h0,h1,h2,h3⟩,hp,hk,hr⟩:=h;obtain⟨n0,nk,nr⟩:=hn;have hne:some B≠some s:=fun e=>n0 (inj e);exact⟨⟨hg.cell h0 hne,hg.cell h1 hne,hg.cell h2 hne,hg.cell h3 hne⟩,hp,ihk hk nk,ihr hr nr⟩
theorem fne_row{s g:Nat}{l:List Ch}(h:∀c∈ l,FNe s c.k c.b)(hg:g≠s):FNe s (qC l) g:=by
 induction l with
 | nil=>trivial
 | cons c l ih=>exact⟨hg,h c (by simp),ih fun d hd=>h d (by simp[hd])⟩
theorem gb_next{a b c:World}{row:Option Nat}(h:a.grownBy b row)(k:Below a.heap.size b c):a.grownBy c row:=⟨k.os.trans h.os,k.tape.trans h.tape,k.output.trans h.output,Nat.le_trans h.size k.size,fun i hi hr=>(k.block i hi).trans (h.block i hi hr)⟩
def z0:Ch:=⟨0,0,⟨0,0,⟨#[]⟩,none,0⟩,.nil⟩
structure B4 (w:World) (b:Nat) (c:Ch):Prop where
 c0:w.cell? ⟨b,0,none⟩=some (.int .i64 c.a.op)
 c1:w.cell? ⟨b,1,none⟩=some (.int .i64 c.a.num)
 c2:w.cell? ⟨b,2,none⟩=some (.string c.a.name)
 c3:w.cell? ⟨b,3,none⟩=some (.slice c.a.ptr (len c.k) c.a.cap)
 f0:w.frozen? ⟨b,0,none⟩=false
 f1:w.frozen? ⟨b,1,none⟩=false
 f2:w.frozen? ⟨b,2,none⟩=false
 f3:w.frozen? ⟨b,3,none⟩=false
 lt:b < w.heap.size
theorem B4.grown{w w':World}{b:Nat}{c:Ch}{row:Option Nat}(h:B4 w b c)(hg:w.grownBy w' row)(hne:some b≠row):B4 w' b c where
 c0:=by rw[World.cell?_of_block (hg.block b h.lt hne)];exact h.c0
 c1:=by rw[World.cell?_of_block (hg.block b h.lt hne)];exact h.c1
 c2:=by rw[World.cell?_of_block (hg.block b h.lt hne)];exact h.c2
 c3:=by rw[World.cell?_of_block (hg.block b h.lt hne)];exact h.c3
 f0:=by rw[World.frozen?_of_block (hg.block b h.lt hne)];exact h.f0
 f1:=by rw[World.frozen?_of_block (hg.block b h.lt hne)];exact h.f1
 f2:=by rw[World.frozen?_of_block (hg.block b h.lt hne)];exact h.f2
 f3:=by rw[World.frozen?_of_block (hg.block b h.lt hne)];exact h.f3
 lt:=Nat.lt_of_lt_of_le h.lt hg.size
theorem B4.next{w w':World}{b:Nat}{c:Ch}(h:B4 w b c)(hb:Below w.heap.size w w'):B4 w' b c:=h.grown (zF hb none) (by simp)
structure Fr4 (w:World) (b:Nat):Prop where
 c0:∃u,w.cell? ⟨b,0,none⟩=some u
 c1:∃u,w.cell? ⟨b,1,none⟩=some u
 c2:∃u,w.cell? ⟨b,2,none⟩=some u
 c3:∃u,w.cell? ⟨b,3,none⟩=some u
 f0:w.frozen? ⟨b,0,none⟩=false
 f1:w.frozen? ⟨b,1,none⟩=false
 f2:w.frozen? ⟨b,2,none⟩=false
 f3:w.frozen? ⟨b,3,none⟩=false
 lt:b < w.heap.size
theorem B4.fr{w:World}{b:Nat}{c:Ch}(h:B4 w b c):Fr4 w b:=⟨⟨_,h.c0⟩,⟨_,h.c1⟩,⟨_,h.c2⟩,⟨_,h.c3⟩,h.f0,h.f1,h.f2,h.f3,h.lt⟩
theorem b4_alloc(w:World)(c:Ch)(cells:Array Value)(h:cells=(xp c).toArray)(t:TypeId):B4 (w.alloc (.cells cells t)) w.heap.size c:=by
 subst h;refine⟨?_,?_,?_,?_,?_,?_,?_,?_,?_⟩<;>simp[xp,go_sem]
theorem b4_four{w:World}{b:Nat}(h:Fr4 w b)(c:Ch):B4 ((((w.setCell ⟨b,0,none⟩ (.int .i64 c.a.op)).setCell ⟨b,1,none⟩ (.int .i64 c.a.num)).setCell ⟨b,2,none⟩ (.string c.a.name)).setCell ⟨b,3,none⟩ (.slice c.a.ptr (len c.k) c.a.cap)) b c:=by
 obtain⟨⟨u0,c0⟩,⟨u1,c1⟩,⟨u2,c2⟩,⟨u3,c3⟩,f0,f1,f2,f3,lt⟩:=h;refine⟨?_,?_,?_,?_,?_,?_,?_,?_,?_⟩<;>simp[go_sem,c0,c1,c2,c3,f0,f1,f2,f3,lt]
theorem gb_four(w:World)(b:Nat)(x0 x1 x2 x3:Value):w.grownBy ((((w.setCell ⟨b,0,none⟩ x0).setCell ⟨b,1,none⟩ x1).setCell ⟨b,2,none⟩ x2).setCell ⟨b,3,none⟩ x3) (some b) :=
 yZ (p:=⟨b,3,none⟩) (yZ (p:=⟨b,2,none⟩) (yZ (p:=⟨b,1,none⟩) (yZ (p:=⟨b,0,none⟩) (ks _ _) _) _) _) _
theorem below_of_gb{w w':World}{b B:Nat}(h:w.grownBy w' (some b))(hb:B≤b)(hs:b < w.heap.size):Below B w w':=⟨h.os,h.tape,h.output,h.size,fun k hk=>h.block k (by omega) (by simp;omega)⟩
structure Env (w W:World) (sb:Nat) (St:World→Prop) (gv:List Ch) (bs:List (Nat× Ch)) (ts:List Ch):Prop where
 st:St W
 cl:∀W W':World,St W→Below (sb+1) W W'→St W'
 lt:sb < w.heap.size
 gr:w.grownBy W (some sb)
 bx:∀q∈ bs,B4 W q.1 q.2∧w.heap.size≤q.1
 nd:bs.Pairwise fun a b=>a.1≠b.1
 tr:∀c∈ ts,ExAt W c.b c.o c.a c.k∧FNe sb c.k c.b∧(∀q∈ bs,FNe q.1 c.k c.b)∧∀r,r < w.heap.size→(∀d∈ gv,FNe r d.k d.b)→FNe r c.k c.b
variable {w W W':World} {sb:Nat} {St:World→Prop} {gv:List Ch} {bs:List (Nat× Ch)} {ts:List Ch}
theorem Env.init{St:World→Prop}(h:St w)(hc:∀W W':World,St W→Below (sb+1) W W'→St W')(hl:sb < w.heap.size)(hg:∀c∈ gv,ExAt w c.b c.o c.a c.k∧FNe sb c.k c.b):Env w w sb St gv [] gv :=
 ⟨h,hc,hl,ks _ _,(fun _ h=>by cases h),.nil,fun c h=>⟨(hg c h).1,(hg c h).2,(fun _ h=>by cases h),fun r _ q=>q c h⟩⟩
theorem Env.ht(E:Env w W sb St gv bs ts):sb < W.heap.size:=Nat.lt_of_lt_of_le E.lt E.gr.size
theorem Env.below(E:Env w W sb St gv bs ts)(hb:Below W.heap.size W W'):Env w W' sb St gv bs ts where
 st:=E.cl _ _ E.st (hb.mono E.ht)
 cl:=E.cl
 lt:=E.lt
 gr:=gb_next E.gr (hb.mono E.gr.size)
 bx:=fun q hq=>⟨(E.bx q hq).1.next hb,(E.bx q hq).2⟩
 nd:=E.nd
 tr:=fun c hc=>⟨(E.tr c hc).1.next hb,(E.tr c hc).2⟩
theorem Env.grown{St':World→Prop}(E:Env w W sb St gv bs ts)(hs:St' W')(hc:∀W W':World,St' W→Below (sb+1) W W'→St' W')(hg:W.grownBy W' (some sb)):Env w W' sb St' gv bs ts where
 st:=hs
 cl:=hc
 lt:=E.lt
 gr:=jD E.gr hg
 bx:=fun q hq=>⟨(E.bx q hq).1.grown hg (by have:=(E.bx q hq).2;have:=E.lt;simp;omega),(E.bx q hq).2⟩
 nd:=E.nd
 tr:=fun c hc=>⟨⟨(E.tr c hc).1.1,fat_grown (E.tr c hc).1.2 (E.tr c hc).2.1 hg⟩,(E.tr c hc).2⟩
theorem Env.add(E:Env w W sb St gv bs ts)(c:Ch)(hx:ExAt W c.b c.o c.a c.k)(h1:FNe sb c.k c.b)(h2:∀q∈ bs,FNe q.1 c.k c.b)(h3:∀r,r < w.heap.size→(∀d∈ gv,FNe r d.k d.b)→FNe r c.k c.b):Env w W sb St gv bs (c :: ts) :=
 ⟨E.st,E.cl,E.lt,E.gr,E.bx,E.nd,fun d hd=>by rcases List.mem_cons.1 hd with rfl|hd;exact⟨hx,h1,h2,h3⟩;exact E.tr d hd⟩
theorem Env.box(E:Env w W sb St gv bs ts)(c:Ch)(cells:Array Value)(h:cells=(xp c).toArray)(t:TypeId):Env w (W.alloc (.cells cells t)) sb St gv ((W.heap.size,c) :: bs) ts:=by
 have B:=E.below ((Below.refl W.heap.size W).alloc (Nat.le_refl _) (.cells cells t));refine⟨B.st,B.cl,B.lt,B.gr,fun q hq=>?_,?_,fun d hd=>⟨(B.tr d hd).1,(B.tr d hd).2.1,(fun q hq=>?_),(B.tr d hd).2.2.2⟩⟩
 ·rcases List.mem_cons.1 hq with rfl|hq
  ·exact⟨b4_alloc W c cells h t,E.gr.size⟩
  ·exact B.bx q hq
 ·refine List.pairwise_cons.2 ⟨fun q hq=>?_,E.nd⟩;have:=(E.bx q hq).1.lt
  show W.heap.size≠q.1
  omega
 ·rcases List.mem_cons.1 hq with rfl|hq
  ·exact FNe.ofLt ((E.tr d hd).1.2.lt)
  ·exact(B.tr d hd).2.2.1 q hq
theorem Env.put{k:Nat}{c0:Ch}(E:Env w W sb St gv ((k,c0) :: bs) ts)(c:Ch) :
 Env w ((((W.setCell ⟨k,0,none⟩ (.int .i64 c.a.op)).setCell ⟨k,1,none⟩ (.int .i64 c.a.num)).setCell ⟨k,2,none⟩ (.string c.a.name)).setCell ⟨k,3,none⟩ (.slice c.a.ptr (len c.k) c.a.cap)) sb St gv ((k,c) :: bs) ts:=by
 have hk:=E.bx (k,c0) (by simp);have hg:=gb_four W k (.int .i64 c.a.op) (.int .i64 c.a.num) (.string c.a.name) (.slice c.a.ptr (len c.k) c.a.cap);have hkw:w.heap.size≤k:=hk.2;have hkl:k < W.heap.size:=hk.1.lt;have qD:=E.lt;refine⟨E.cl _ _ E.st (below_of_gb hg (by omega) hkl),E.cl,E.lt,gb_next E.gr (below_of_gb hg hkw hkl),fun q hq=>?_,?_,fun d hd=>?_⟩
 ·rcases List.mem_cons.1 hq with rfl|hq
  ·exact⟨b4_four hk.1.fr c,hk.2⟩
  ·have hn:=(List.pairwise_cons.1 E.nd).1 q hq;exact⟨(E.bx q (by simp[hq])).1.grown hg (fun e=>hn (inj e).symm),(E.bx q (by simp[hq])).2⟩
 ·exact List.pairwise_cons.2 ⟨fun q hq=>(List.pairwise_cons.1 E.nd).1 q hq,(List.pairwise_cons.1 E.nd).2⟩
 ·have ht:=E.tr d hd;refine⟨⟨ht.1.1,fat_grown ht.1.2 (ht.2.2.1 (k,c0) (by simp)) hg⟩,ht.2.1,(fun q hq=>?_),ht.2.2.2⟩;rcases List.mem_cons.1 hq with rfl|hq
  ·exact ht.2.2.1 (k,c0) (by simp)
  ·exact ht.2.2.1 q (by simp[hq])
theorem Env.put4{k:Nat}{c0:Ch}(E:Env w W sb St gv ((k,c0) :: bs) ts)(c:Ch){v0 v1 v2 v3:Value}(h0:v0=.int .i64 c.a.op)(h1:v1=.int .i64 c.a.num)(h2:v2=.string c.a.name)(h3:v3=.slice c.a.ptr (len c.k) c.a.cap) :
 Env w ((((W.setCell ⟨k,0,none⟩ v0).setCell ⟨k,1,none⟩ v1).setCell ⟨k,2,none⟩ v2).setCell ⟨k,3,none⟩ v3) sb St gv ((k,c) :: bs) ts:=by
 subst h0 h1 h2 h3;exact E.put c
theorem Env.tail{q:Nat× Ch}(E:Env w W sb St gv (q :: bs) ts):Env w W sb St gv bs ts :=
 ⟨E.st,E.cl,E.lt,E.gr,fun p hp=>E.bx p (by simp[hp]),(List.pairwise_cons.1 E.nd).2,fun d hd=>⟨(E.tr d hd).1,(E.tr d hd).2.1,(fun p hp=>(E.tr d hd).2.2.1 p (by simp[hp])),(E.tr d hd).2.2.2⟩⟩
theorem Env.less{ts':List Ch}(E:Env w W sb St gv bs ts)(h:∀c∈ ts',c∈ ts):Env w W sb St gv bs ts':=⟨E.st,E.cl,E.lt,E.gr,E.bx,E.nd,fun d hd=>E.tr d (h d hd)⟩
theorem foge:∀(T:Fo)(B:Nat),FoGe 0 T B:=by
 intro T
 induction T with
 | nil=>intro B;trivial
 | node b o a k r ihk ihr=>intro B;exact⟨Nat.zero_le _,ihk _,ihr _⟩
theorem Env.row(E:Env w W sb St gv bs ts)(hb:Below W.heap.size W W')(l:List Ch)(h:∀c∈ l,c∈ ts)(op:Int)(g n:Nat)(hg:W.heap.size≤g)(hc:∀j u,(jL l)[j]?=some u→W'.cell? ⟨g,j,none⟩=some u) :
 Env w W' sb St gv bs ((⟨g,0,⟨op,0,⟨#[]⟩,some ⟨g,0,none⟩,n⟩,qC l⟩:Ch) :: ts):=by
 have B:=E.below hb;have hr:=(Y9 (w:=W') (B0:=0) (g:=g) (O:=0) l (fun c hx=>⟨(B.tr c (h c hx)).1,foge _ _⟩) (fun j u hu=>by rw[Nat.zero_add];exact hc j u hu) (Nat.zero_le _)).1;have qD:=E.ht;have hgr:=E.gr.size;refine B.add _ ⟨fun _=>rfl,hr⟩ (fne_row (fun c hx=>(E.tr c (h c hx)).2.1) (by show g≠sb;omega)) (fun q hq=>fne_row (fun c hx=>(E.tr c (h c hx)).2.2.1 q hq) (by have:=(E.bx q hq).1.lt;show g≠q.1;omega)) fun r hr q=>fne_row (fun c hx=>(E.tr c (h c hx)).2.2.2 r hr q) (by show g≠r;omega)
theorem Env.node(E:Env w W sb St gv bs ts)(l:List Ch)(h:∀c∈ l,c∈ ts)(op:Int)(cells:Array Value)(hc:cells=(jL l).toArray)(t:TypeId)(n:Nat) :
 Env w (W.alloc (.cells cells t)) sb St gv bs ((⟨W.heap.size,0,⟨op,0,⟨#[]⟩,some ⟨W.heap.size,0,none⟩,n⟩,qC l⟩:Ch) :: ts):=by
 subst hc;refine E.row ba1 l h op W.heap.size n (Nat.le_refl _) fun j u hu=>?_;rw[World.cell?_alloc_new,List.getElem?_toArray];exact hu
theorem nr_node(g n:Nat)(op:Int)(p:Option Addr)(l:List Ch):nr ⟨g,0,⟨op,0,⟨#[]⟩,p,n⟩,qC l⟩=tn op (l.map nr):=by
 unfold nr tn;rw[nrm_rowF];rfl
def Fin(w:World)(sb:Nat)(given:List Ch)(St:World→Prop)(o:Option Ch)(c:Ch)(w':World):Prop :=
 (∀x,o=some x→nr c=x∧ExAt w' c.b c.o c.a c.k∧FNe sb c.k c.b∧∀r,r < w.heap.size→(∀d∈ given,FNe r d.k d.b)→FNe r c.k c.b)∧St w'∧w.grownBy w' (some sb)
theorem Env.call{St':World→Prop}{c x:Ch}{given:List Ch}(E:Env w W sb St gv bs ts)(h:Fin W sb given St' (some x) c W')(hc:∀W W':World,St' W→Below (sb+1) W W'→St' W')(hgiv:∀d∈ given,d∈ ts):nr c=x∧Env w W' sb St' gv bs (c :: ts):=by
 obtain⟨h1,h2,h3,h4⟩:=h.1 x rfl;exact⟨h1,(E.grown h.2.1 hc h.2.2).add c h2 h3 (fun q hq=>h4 q.1 (E.bx q hq).1.lt fun d hd=>(E.tr d (hgiv d hd)).2.2.1 q hq) fun r hr q=>h4 r (Nat.lt_of_lt_of_le hr E.gr.size) fun d hd=>(E.tr d (hgiv d hd)).2.2.2 r hr q⟩
theorem Env.callno{St':World→Prop}{c:Ch}{o:Option Ch}{given:List Ch}(E:Env w W sb St gv bs ts)(h:Fin W sb given St' o c W')(hc:∀W W':World,St' W→Below (sb+1) W W'→St' W'):Env w W' sb St' gv bs ts:=E.grown h.2.1 hc h.2.2
theorem Env.done{k:Nat}{z:Ch}(E:Env w W sb St gv ((k,z) :: bs) ts)(c:Ch)(o:Option Ch)(ho:∀x,o=some x→nr c=x∧c∈ ts) :
 Fin w sb gv St o c ((((W.setCell ⟨k,0,none⟩ (.int .i64 c.a.op)).setCell ⟨k,1,none⟩ (.int .i64 c.a.num)).setCell ⟨k,2,none⟩ (.string c.a.name)).setCell ⟨k,3,none⟩ (.slice c.a.ptr (len c.k) c.a.cap)) :=
 ⟨fun x hx=>⟨(ho x hx).1,((E.put c).tr c (ho x hx).2).1,((E.put c).tr c (ho x hx).2).2.1,((E.put c).tr c (ho x hx).2).2.2.2⟩,(E.put c).st,(E.put c).gr⟩
theorem Env.done4{k:Nat}{z:Ch}(E:Env w W sb St gv ((k,z) :: bs) ts)(c:Ch)(o:Option Ch)(ho:∀x,o=some x→nr c=x∧c∈ ts){v0 v1 v2 v3:Value}(h0:v0=.int .i64 c.a.op)(h1:v1=.int .i64 c.a.num)(h2:v2=.string c.a.name)(h3:v3=.slice c.a.ptr (len c.k) c.a.cap) :
 Fin w sb gv St o c ((((W.setCell ⟨k,0,none⟩ v0).setCell ⟨k,1,none⟩ v1).setCell ⟨k,2,none⟩ v2).setCell ⟨k,3,none⟩ v3):=by
 subst h0 h1 h2 h3;exact E.done c o ho
theorem Env.fin(E:Env w W sb St gv bs ts)(c:Ch)(o:Option Ch)(ho:∀x,o=some x→nr c=x∧c∈ ts):Fin w sb gv St o c W :=
 ⟨fun x hx=>⟨(ho x hx).1,(E.tr c (ho x hx).2).1,(E.tr c (ho x hx).2).2.1,(E.tr c (ho x hx).2).2.2.2⟩,E.st,E.gr⟩
theorem Env.done_node{k:Nat}{z:Ch}(E:Env w W sb St gv ((k,z) :: bs) ts)(l:List Ch)(op:Int)(n:Nat)(hn:l.length=n)(o:Option Ch)(ho:∀x,o=some x→(∀c∈ l,c∈ ts)∧tn op (l.map nr)=x)(cells:Array Value)(hc:cells=(jL l).toArray)(t:TypeId) :
 Fin w sb gv St o ⟨W.heap.size,0,⟨op,0,⟨#[]⟩,some ⟨W.heap.size,0,none⟩,n⟩,qC l⟩
  (((((W.setCell ⟨k,0,none⟩ (.int .i64 op)).setCell ⟨k,1,none⟩ (.int .i64 0)).setCell ⟨k,2,none⟩ (.string ⟨#[]⟩)).setCell ⟨k,3,none⟩ (.slice (some ⟨W.heap.size,0,none⟩) n n)).alloc (.cells cells t)):=by
 have P:=E.put4 (⟨W.heap.size,0,⟨op,0,⟨#[]⟩,some ⟨W.heap.size,0,none⟩,n⟩,qC l⟩:Ch) (v0:=.int .i64 op) (v1:=.int .i64 0) (v2:=.string ⟨#[]⟩) (v3:=.slice (some ⟨W.heap.size,0,none⟩) n n) rfl rfl rfl (by rw[ql,hn]);have hz:((((W.setCell ⟨k,0,none⟩ (.int .i64 op)).setCell ⟨k,1,none⟩ (.int .i64 0)).setCell ⟨k,2,none⟩ (.string ⟨#[]⟩)).setCell ⟨k,3,none⟩ (.slice (some ⟨W.heap.size,0,none⟩) n n)).heap.size=W.heap.size:=by simp
 generalize ((((W.setCell ⟨k,0,none⟩ (.int .i64 op)).setCell ⟨k,1,none⟩ (.int .i64 0)).setCell ⟨k,2,none⟩ (.string ⟨#[]⟩)).setCell ⟨k,3,none⟩ (.slice (some ⟨W.heap.size,0,none⟩) n n))=V at *;cases o with
 | none=>exact(P.below ba1).fin _ _ fun x hx=>by cases hx
 | some x =>
   obtain⟨h1,h2⟩:=ho x rfl;have Q:=P.node l h1 op cells hc t n;rw[hz] at Q;exact Q.fin _ _ fun y hy=>by cases hy;exact⟨by rw[nr_node,h2],by simp⟩
theorem exat_lf(W:World)(op num:Int)(s:ByteArray):ExAt W (lf op num s).b (lf op num s).o (lf op num s).a (lf op num s).k:=⟨fun h=>absurd rfl h,trivial⟩
theorem Env.leaf(E:Env w W sb St gv bs ts)(op num:Int)(s:ByteArray):Env w W sb St gv bs (lf op num s :: ts):=E.add _ (exat_lf W op num s) trivial (fun _ _=>trivial) fun _ _ _=>trivial
end Pz
namespace Pz
theorem Env.go{w W W':World}{sb:Nat}{St St':World→Prop}{gv given:List Ch}{bs:List (Nat× Ch)}{ts:List Ch}{c:Ch}{o:Option Ch}(E:Env w W sb St gv bs ts)(h:Fin W sb given St' o c W')(hc:∀W W':World,St' W→Below (sb+1) W W'→St' W')(hgiv:∀d∈ given,d∈ ts) :
 ∃ts',Env w W' sb St' gv bs ts'∧(∀x,o=some x→nr c=x∧c∈ ts')∧∀d∈ ts,d∈ ts':=by
 cases o with
 | none=>exact⟨ts,E.callno h hc,(fun x hx=>by cases hx),fun d hd=>hd⟩
 | some x =>
   obtain⟨h1,h2⟩:=E.call h hc hgiv;exact⟨c :: ts,h2,(fun y hy=>by cases hy;exact⟨h1,by simp⟩),fun d hd=>by simp[hd]⟩
def goL(f:Ch→R)(o:Option Ch)(j:Nat):R:=match o with
 | none=>(none,j)
 | some x=>f x
theorem Env.pair{w W W':World}{sb:Nat}{St:World→Prop}{gv:List Ch}{bs:List (Nat× Ch)}{ts:List Ch}(E:Env w W sb St gv bs ts)(hb:Below W.heap.size W W'){c d x:Ch}{o:Option Ch}(hc:nr c=x∧c∈ ts)(hd:∀y,o=some y→nr d=y∧d∈ ts)(op:Int)(g:Nat)(hg:W.heap.size≤g)(hr:∀j u,(jL [c,d])[j]?=some u→W'.cell? ⟨g,j,none⟩=some u) :
 ∃ts',Env w W' sb St gv bs ts'∧(∀y,o=some y→nr (⟨g,0,⟨op,0,⟨#[]⟩,some ⟨g,0,none⟩,2⟩,qC [c,d]⟩:Ch)=tn op [x,y]∧(⟨g,0,⟨op,0,⟨#[]⟩,some ⟨g,0,none⟩,2⟩,qC [c,d]⟩:Ch)∈ ts')∧∀e∈ ts,e∈ ts':=by
 cases o with
 | none=>exact⟨ts,E.below hb,(fun y hy=>by cases hy),fun e he=>he⟩
 | some y =>
   obtain⟨h1,h2⟩:=hd y rfl;refine⟨_,E.row hb [c,d] (fun e he=>?_) op g 2 hg hr,(fun z hz=>?_),fun e he=>List.mem_cons_of_mem _ he⟩
   ·simp only [List.mem_cons,List.not_mem_nil,or_false] at he;rcases he with rfl|rfl
    ·exact hc.2
    ·exact h2
   ·obtain rfl:=inj hz;refine⟨?_,by simp⟩;rw[nr_node,List.map_cons,List.map_cons,List.map_nil,hc.1,h1]
theorem goL_none(f:Ch→R)(j:Nat):goL f none j=(none,j):=rfl
theorem goL_some(f:Ch→R)(x:Ch)(j:Nat):goL f (some x) j=f x:=rfl
theorem bnd_goL(o:Option Ch)(j:Nat)(f:Ch→Nat→R):bnd (o,j) f=goL (fun x=>f x j) o j:=by cases o<;>rfl
end Pz
end Go.Proofs.YtcejjdmnlejbaaaGreatDoor
