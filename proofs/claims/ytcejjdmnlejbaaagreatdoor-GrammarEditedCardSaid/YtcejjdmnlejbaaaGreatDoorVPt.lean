import Derived.Test.YtcejjdmnlejbaaaGreatDoorVPl3
import Derived.Test.YtcejjdmnlejbaaaGreatDoorVAtb
namespace Go.Proofs.YtcejjdmnlejbaaaGreatDoor
open Option.some(inj)
open Lib(hid)
set_option linter.unusedVariables false
set_option linter.unusedSimpArgs false
open Go.ChangeShapes Go.WideShapes Go.ChangeAt Go.RowKit
set_option maxHeartbeats 4000000
set_option maxRecDepth 100000
inductive Sd where
 | eq (v:Value)
 | arr (n:Nat)
 | nat
 | nlt (n:Nat)
 | ptr
 | str (n:Nat)
 | any
def jg(n:Nat)(s:ByteArray):Prop:=0 < s.size∧s.size≤n
instance(n:Nat)(s:ByteArray):Decidable (jg n s):=inferInstanceAs (Decidable (0 < s.size∧s.size≤n))
def Sd.ok:Sd→Value→World→Prop
 | .eq u,v,_=>v=u
 | .arr n,v,w=>∃g,v=.slice (some ⟨g,0,none⟩) n n∧∀j,j < n→∃s,w.cell? ⟨g,j,none⟩=some (.string s)∧jg 200 s
 | .nat,v,_=>∃m:Nat,v=.int .i64 m
 | .nlt n,v,_=>∃m:Nat,m < n∧v=.int .i64 m
 | .ptr,v,w=>∃g j s,v=.pointer (some ⟨g,j,none⟩)∧w.cell? ⟨g,j,none⟩=some (.string s)∧jg 200 s
 | .str n,v,_=>∃s,v=.string s∧jg n s
 | .any,_,_=>True
theorem Sd.ext{d:Sd}{v:Value}{w w':World}(h:d.ok v w)(he:Ext w w'):d.ok v w':=by
 cases d with
 | eq u=>exact h
 | nat=>exact h
 | nlt n=>exact h
 | str n=>exact h
 | any=>exact h
 | arr n =>
   obtain⟨g,h1,h2⟩:=h;refine⟨g,h1,fun j hj=>?_⟩;obtain⟨s,h3,h4⟩:=h2 j hj;exact⟨s,by rw[Below.cell he (p:=⟨g,j,none⟩) (block_lt_of_cell h3)];exact h3,h4⟩
 | ptr =>
   obtain⟨g,j,s,h1,h3,h4⟩:=h;exact⟨g,j,s,h1,by rw[Below.cell he (p:=⟨g,j,none⟩) (block_lt_of_cell h3)];exact h3,h4⟩
section
variable (ρ:Operand→Value) (d:Option Tmp) (ty:TypeId) (pos:String) (af:Array Edge) (gd:Option (Nat× Bool)) (w:World)
theorem ja(s0 s1 s2:ByteArray)(x y z:Operand)(h0:ρ x=.string s0)(h1:ρ y=.string s1)(h2:ρ z=.string s2)(b0:jg 200 s0)(b1:jg 200 s1)(b2:jg 200 s2) :
 ∃v w',(execOp ρ ⟨d,.buildSlice 73 3 #[(0,x),(1,y),(2,z)],ty,pos,af,gd⟩).run Tryz.prog w=.ok (.value v) w'∧Ext w w'∧(Sd.arr 3).ok v w':=by
 refine⟨.slice (some ⟨w.heap.size,0,none⟩) 3 3,w.alloc (.cells #[.string s0,.string s1,.string s2] 9),?_,Ext.alloc _ _,_,rfl,?_⟩
 ·simp only [execOp,List.map_toArray,List.map,h0,h1,h2];go_simp
 ·intro j hj
  match j,hj with
  | 0,_=>exact⟨s0,by simp[go_sem],b0⟩
  | 1,_=>exact⟨s1,by simp[go_sem],b1⟩
  | 2,_=>exact⟨s2,by simp[go_sem],b2⟩
theorem jb(x:Operand)(k:Nat)(hc:ρ (.const (.int .i64 k))=.int .i64 k)(hk:0 < k)(hk2:k≤1000)(h:Sd.nat.ok (ρ x) w):∃v,(execOp ρ ⟨d,.binOp .rem 3 x (.const (.int .i64 k)) 3,ty,pos,af,gd⟩).run Tryz.prog w=.ok (.value v) w∧(Sd.nlt k).ok v w:=by
 obtain⟨m,h⟩:=h;have hk3:((k:Int)==0)=false:=by rw[beq_eq_false_iff_ne];omega
 have hk4:((k:Int) == -1)=false:=by rw[beq_eq_false_iff_ne];omega
 refine⟨.int .i64 (m % k:Nat),?_,m % k,Nat.mod_lt _ hk,rfl⟩;simp only[execOp,h,hc];go_simp;rw[if_neg (by omega),Int.tmod_eq_emod_of_nonneg (by omega)]
theorem jG(x y:Operand)(n:Nat)(h:(Sd.arr n).ok (ρ x) w)(k:(Sd.nlt n).ok (ρ y) w):∃v,(execOp ρ ⟨d,.indexAddr 73 x y,ty,pos,af,gd⟩).run Tryz.prog w=.ok (.value v) w∧Sd.ptr.ok v w:=by
 obtain⟨g,h1,h2⟩:=h;obtain⟨m,hm,k1⟩:=k;obtain⟨s,h3,h4⟩:=h2 m hm;have hm1:(m:Int) < (n:Int):=by omega
 refine⟨.pointer (some ⟨g,m,none⟩),?_,g,m,s,rfl,h3,h4⟩;simp only[execOp,h1,k1];go_simp
theorem jF(x:Operand)(h:Sd.ptr.ok (ρ x) w):∃v,(execOp ρ ⟨d,.load 9 x,ty,pos,af,gd⟩).run Tryz.prog w=.ok (.value v) w∧(Sd.str 200).ok v w:=by
 obtain⟨g,j,s,h1,h3,h4⟩:=h;refine⟨.string s,?_,s,rfl,h4⟩;simp only[execOp,h1];go_simp
theorem yO(x y:Operand)(n m k:Nat)(h:(Sd.str n).ok (ρ x) w)(h':(Sd.str m).ok (ρ y) w)(hk:n+m≤k)(hk2:k≤1000000):∃v,(execOp ρ ⟨d,.binOp .add 9 x y 9,ty,pos,af,gd⟩).run Tryz.prog w=.ok (.value v) w∧(Sd.str k).ok v w:=by
 obtain⟨s,h1,h2,h3⟩:=h;obtain⟨t,h4,h5,h6⟩:=h';refine⟨.string (s++t),?_,s++t,rfl,by rw[ByteArray.size_append];omega,by rw[ByteArray.size_append];omega⟩;have q9:s.size+t.size≤9223372036854775807:=by omega
 simp only[execOp,h1,h4];go_simp
end
def UG:List (Nat× Nat):=[(9,0),(10,1),(11,2),(12,3),(13,4),(14,5),(15,6),(16,7),(17,8),(18,9),(19,10),(20,11),(21,12),(22,13),(23,14),(24,15),(25,16),(26,17),(27,18),(28,19),(29,20),(30,21),(31,22),(3,23)]
def tx1W(V0:Value)(i:Nat):Sd :=
 match i with
 | 0=>.arr 3
 | 1=>.eq V0
 | 2=>.nat
 | 3=>.nlt 3
 | 4=>.ptr
 | 5=>.str 200
 | 6=>.str 400
 | 7=>.str 600
 | 8=>.arr 3
 | 9=>.eq V0
 | 10=>.nat
 | 11=>.nlt 3
 | 12=>.ptr
 | 13=>.str 200
 | 14=>.str 800
 | 15=>.str 1000
 | 16=>.arr 3
 | 17=>.eq V0
 | 18=>.nat
 | 19=>.nlt 3
 | 20=>.ptr
 | 21=>.str 200
 | 22=>.str 1200
 | 23=>.str 1200
 | _=>.any
def tx1G(V0:Value)(i:Nat)(v:Value)(w:World):Prop:=(tx1W V0 i).ok v w
def UF:List (Nat× Nat):=[(32,0),(33,1),(34,2),(35,3),(36,4),(37,5),(38,6),(39,7),(40,8),(41,9),(42,10),(43,11),(44,12),(45,13),(46,14),(47,15),(48,16),(49,17),(50,18),(51,19),(52,20),(53,21),(54,22),(55,23),(56,24),(57,25),(58,26),(59,27),(60,28),(61,29),(62,30),(63,31),(64,32),(65,33),(3,34)]
def tx2W(V0:Value)(i:Nat):Sd :=
 match i with
 | 0=>.str 5000
 | 1=>.str 5200
 | 2=>.arr 3
 | 3=>.eq V0
 | 4=>.nat
 | 5=>.nlt 3
 | 6=>.ptr
 | 7=>.str 200
 | 8=>.str 5400
 | 9=>.str 5600
 | 10=>.arr 3
 | 11=>.eq V0
 | 12=>.nat
 | 13=>.nlt 3
 | 14=>.ptr
 | 15=>.str 200
 | 16=>.str 5800
 | 17=>.str 6000
 | 18=>.arr 3
 | 19=>.eq V0
 | 20=>.nat
 | 21=>.nlt 3
 | 22=>.ptr
 | 23=>.str 200
 | 24=>.str 6200
 | 25=>.str 6400
 | 26=>.arr 3
 | 27=>.eq V0
 | 28=>.nat
 | 29=>.nlt 3
 | 30=>.ptr
 | 31=>.str 200
 | 32=>.str 6600
 | 33=>.str 6800
 | 34=>.str 6800
 | _=>.any
def tx2G(V0:Value)(i:Nat)(v:Value)(w:World):Prop:=(tx2W V0 i).ok v w
def Ut(n:Nat)(L:List Value):Bool:=L.all fun v=>match v with|.string s=>decide (jg n s)|_=>false
theorem kX(w:World)(a:Array Value)(t:TypeId)(n:Nat)(hn:a.size=n)(h:Ut 200 a.toList=true):∀j,j < n→∃s,(w.alloc (.cells a t)).cell? ⟨w.heap.size,j,none⟩=some (.string s)∧jg 200 s:=by
 intro j hj;subst hn;have hm:a[j]∈ a.toList:=Array.getElem_mem_toList hj;have q:=List.all_eq_true.1 h _ hm;cases hv:a[j] with
 | string s =>
   rw[hv] at q;refine⟨s,?_,of_decide_eq_true q⟩;simp[go_sem,hj,hv]
 | _=>(rw[hv] at q;cases q)
theorem Yu(w:World):Calls Tryz.prog 42 #[] w fun e w'=>∃g,e=.returned (.slice (some ⟨g,0,none⟩) 18 18)∧Below w.heap.size w w'∧∀j,j < 18→∃s,w'.cell? ⟨g,j,none⟩=some (.string s)∧jg 200 s:=by
 go_enter Tryz.func42,Tryz.ntmps42;go_wp2;go_ret;exact⟨_,rfl,(Below.refl _ _).alloc (Nat.le_refl _) _,kX w _ _ _ rfl (by kernel_rfl)⟩
theorem YY(w:World):Calls Tryz.prog 43 #[] w fun e w'=>∃g,e=.returned (.slice (some ⟨g,0,none⟩) 10 10)∧Below w.heap.size w w'∧∀j,j < 10→∃s,w'.cell? ⟨g,j,none⟩=some (.string s)∧jg 200 s:=by
 go_enter Tryz.func43,Tryz.ntmps43;go_wp2;go_ret;exact⟨_,rfl,(Below.refl _ _).alloc (Nat.le_refl _) _,kX w _ _ _ rfl (by kernel_rfl)⟩
theorem Qd(w:World):Calls Tryz.prog 44 #[] w fun e w'=>∃g,e=.returned (.slice (some ⟨g,0,none⟩) 3 3)∧Below w.heap.size w w'∧∀j,j < 3→∃s,w'.cell? ⟨g,j,none⟩=some (.string s)∧jg 200 s:=by
 go_enter Tryz.func44,Tryz.ntmps44;go_wp2;go_ret;exact⟨_,rfl,(Below.refl _ _).alloc (Nat.le_refl _) _,kX w _ _ _ rfl (by kernel_rfl)⟩
theorem Jb(v0:Value)(n0:Nat)(w:World)(h:IntsLA w v0 n0 w.heap.size) :
 Calls Tryz.prog 20 #[v0] w fun e w'=>∃s,e=.returned (.string s)∧jg 20000 s∧Below w.heap.size w w':=by
 have H:=hid h
 have AT:Hid (∀(k:Nat) (wq:World),k≤1000→Below w.heap.size w wq→Calls Tryz.prog 41 #[v0,.int .i64 k] wq fun e w''=>∃v,e=.returned v∧Ext wq w''∧Sd.nat.ok v w''):=by
  intro k wq hk hb;refine(KC v0 n0 w.heap.size k k wq (H.out.below hb (Nat.le_refl _)) (by omega) rfl).mono ?_;rintro e w'' ⟨⟨m,rfl⟩,hb2⟩;exact⟨_,rfl,hb2,m,rfl⟩
 clear h;go_enter Tryz.func20,Tryz.ntmps20;go_upto_region 1 with (fail);have YW:Hid (∀wq,Ext w.drew wq→Below w.heap.size w wq):=fun wq h=>((Below.refl w.heap.size w).drew).trans h;refine vJ UG (tx1G v0) 24 (fun _ _ _=>True) (by kernel_rfl) (by kernel_rfl) (fun i v w w' h he=>Sd.ext h he) (fun _ _ _ _ _ _=>trivial) ?hst ?hpu ?hla ?hfin
 case hst =>
  intro i o ho hz
  match i,ho with
  | 0,ho=>obtain rfl:=inj ho;intro a w hx qq qa qM;obtain⟨v,w',h1,h2,h3⟩:=ja a.eval _ _ _ _ _ w ⟨#[48,58,48,48]⟩ ⟨#[48,58,52,53]⟩ ⟨#[49,58,48,48]⟩ (.const (.string ⟨#[48,58,48,48]⟩)) (.const (.string ⟨#[48,58,52,53]⟩)) (.const (.string ⟨#[49,58,48,48]⟩)) rfl rfl rfl (by decide) (by decide) (by decide);exact⟨rfl,yL h1 h2 h3⟩
  | 1,ho=>exact qI ho fun a w hx qq qa=>⟨rfl,_,run_move (.tmp 0) v0 (qq 0 rfl),rfl⟩
  | 2,ho=>obtain rfl:=inj ho;intro a w hx qq qa qM;have h9:a.tmps.getD 10 undef=v0:=qa 10 1 rfl rfl;exact⟨rfl,zx (zy _ #[v0,.int .i64 0] _ Tryz.func41 (by kernel_rfl) rfl rfl (by rw[QD];exact congrArg (fun z=>#[z,Value.int .i64 0]) h9)) (AT.out 0 w (by decide) (YW.out w hx))⟩
  | 3,ho=>exact qI ho fun a w hx qq qa=>⟨rfl,jb a.eval _ _ _ _ _ w (.tmp 11) 3 rfl (by decide) (by decide) (qa 11 2 rfl rfl)⟩
  | 4,ho=>exact qI ho fun a w hx qq qa=>⟨rfl,jG a.eval _ _ _ _ _ w (.tmp 9) (.tmp 12) 3 (qa 9 0 rfl rfl) (qa 12 3 rfl rfl)⟩
  | 5,ho=>exact qI ho fun a w hx qq qa=>⟨rfl,jF a.eval _ _ _ _ _ w (.tmp 13) (qa 13 4 rfl rfl)⟩
  | 6,ho=>exact qI ho fun a w hx qq qa=>⟨rfl,yO a.eval _ _ _ _ _ w (.const (.string ⟨#[114,101,112,111,114,116,32]⟩)) (.tmp 14) 200 200 400 ⟨⟨#[114,101,112,111,114,116,32]⟩,rfl,by decide⟩ (show(Sd.ok (.str 200) (a.eval (.tmp 14)) w) from qa 14 5 rfl rfl) (by decide) (by decide)⟩
  | 7,ho=>exact qI ho fun a w hx qq qa=>⟨rfl,yO a.eval _ _ _ _ _ w (.tmp 15) (.const (.string ⟨#[10,114,101,108,101,97,115,101,32]⟩)) 400 200 600 (show(Sd.ok (.str 400) (a.eval (.tmp 15)) w) from qa 15 6 rfl rfl) ⟨⟨#[10,114,101,108,101,97,115,101,32]⟩,rfl,by decide⟩ (by decide) (by decide)⟩
  | 8,ho=>obtain rfl:=inj ho;intro a w hx qq qa qM;obtain⟨v,w',h1,h2,h3⟩:=ja a.eval _ _ _ _ _ w ⟨#[48,58,48,48]⟩ ⟨#[48,58,49,53]⟩ ⟨#[48,58,51,48]⟩ (.const (.string ⟨#[48,58,48,48]⟩)) (.const (.string ⟨#[48,58,49,53]⟩)) (.const (.string ⟨#[48,58,51,48]⟩)) rfl rfl rfl (by decide) (by decide) (by decide);exact⟨rfl,yL h1 h2 h3⟩
  | 9,ho=>exact qI ho fun a w hx qq qa=>⟨rfl,_,run_move (.tmp 0) v0 (qq 0 rfl),rfl⟩
  | 10,ho=>obtain rfl:=inj ho;intro a w hx qq qa qM;have h9:a.tmps.getD 18 undef=v0:=qa 18 9 rfl rfl;exact⟨rfl,zx (zy _ #[v0,.int .i64 1] _ Tryz.func41 (by kernel_rfl) rfl rfl (by rw[QD];exact congrArg (fun z=>#[z,Value.int .i64 1]) h9)) (AT.out 1 w (by decide) (YW.out w hx))⟩
  | 11,ho=>exact qI ho fun a w hx qq qa=>⟨rfl,jb a.eval _ _ _ _ _ w (.tmp 19) 3 rfl (by decide) (by decide) (qa 19 10 rfl rfl)⟩
  | 12,ho=>exact qI ho fun a w hx qq qa=>⟨rfl,jG a.eval _ _ _ _ _ w (.tmp 17) (.tmp 20) 3 (qa 17 8 rfl rfl) (qa 20 11 rfl rfl)⟩
  | 13,ho=>exact qI ho fun a w hx qq qa=>⟨rfl,jF a.eval _ _ _ _ _ w (.tmp 21) (qa 21 12 rfl rfl)⟩
  | 14,ho=>exact qI ho fun a w hx qq qa=>⟨rfl,yO a.eval _ _ _ _ _ w (.tmp 16) (.tmp 22) 600 200 800 (show(Sd.ok (.str 600) (a.eval (.tmp 16)) w) from qa 16 7 rfl rfl) (show(Sd.ok (.str 200) (a.eval (.tmp 22)) w) from qa 22 13 rfl rfl) (by decide) (by decide)⟩
  | 15,ho=>exact qI ho fun a w hx qq qa=>⟨rfl,yO a.eval _ _ _ _ _ w (.tmp 23) (.const (.string ⟨#[10,99,111,110,110,101,99,116,32]⟩)) 800 200 1000 (show(Sd.ok (.str 800) (a.eval (.tmp 23)) w) from qa 23 14 rfl rfl) ⟨⟨#[10,99,111,110,110,101,99,116,32]⟩,rfl,by decide⟩ (by decide) (by decide)⟩
  | 16,ho=>obtain rfl:=inj ho;intro a w hx qq qa qM;obtain⟨v,w',h1,h2,h3⟩:=ja a.eval _ _ _ _ _ w ⟨#[48,58,51,48]⟩ ⟨#[48,58,52,48]⟩ ⟨#[48,58,49,53]⟩ (.const (.string ⟨#[48,58,51,48]⟩)) (.const (.string ⟨#[48,58,52,48]⟩)) (.const (.string ⟨#[48,58,49,53]⟩)) rfl rfl rfl (by decide) (by decide) (by decide);exact⟨rfl,yL h1 h2 h3⟩
  | 17,ho=>exact qI ho fun a w hx qq qa=>⟨rfl,_,run_move (.tmp 0) v0 (qq 0 rfl),rfl⟩
  | 18,ho=>obtain rfl:=inj ho;intro a w hx qq qa qM;have h9:a.tmps.getD 26 undef=v0:=qa 26 17 rfl rfl;exact⟨rfl,zx (zy _ #[v0,.int .i64 2] _ Tryz.func41 (by kernel_rfl) rfl rfl (by rw[QD];exact congrArg (fun z=>#[z,Value.int .i64 2]) h9)) (AT.out 2 w (by decide) (YW.out w hx))⟩
  | 19,ho=>exact qI ho fun a w hx qq qa=>⟨rfl,jb a.eval _ _ _ _ _ w (.tmp 27) 3 rfl (by decide) (by decide) (qa 27 18 rfl rfl)⟩
  | 20,ho=>exact qI ho fun a w hx qq qa=>⟨rfl,jG a.eval _ _ _ _ _ w (.tmp 25) (.tmp 28) 3 (qa 25 16 rfl rfl) (qa 28 19 rfl rfl)⟩
  | 21,ho=>exact qI ho fun a w hx qq qa=>⟨rfl,jF a.eval _ _ _ _ _ w (.tmp 29) (qa 29 20 rfl rfl)⟩
  | 22,ho=>exact qI ho fun a w hx qq qa=>⟨rfl,yO a.eval _ _ _ _ _ w (.tmp 24) (.tmp 30) 1000 200 1200 (show(Sd.ok (.str 1000) (a.eval (.tmp 24)) w) from qa 24 15 rfl rfl) (show(Sd.ok (.str 200) (a.eval (.tmp 30)) w) from qa 30 21 rfl rfl) (by decide) (by decide)⟩
  | 23,ho=>obtain rfl:=inj ho;intro a w hx qq qa qM;exact⟨rfl,yL (run_assign _ _ rfl) (Ext.refl _) (qa 31 22 rfl rfl)⟩
  | n+24,ho=>cases ho
 case hpu=>exact fun i o ho hz=>.inr (.inl (by decide))
 case hla=>intro o ho;cases ho
 case hfin =>
  intro x w1 w' hb hg hf hw;have hw':=hw (Nat.le_refl _);subst hw';obtain⟨s0,hs3,hs0⟩:=(hg 3 23 rfl:(Sd.str 1200).ok (x 3) w');have S0:Hid (jg 5000 s0):=⟨hs0.1,Nat.le_trans hs0.2 (by decide)⟩;have BW:=hid (YW.out _ hb);clear hg hf hw hb hs0 YW;dsimp only[frameT,UG,List.foldl];rw[hs3];clear hs3;generalize x 9=q9;generalize x 10=q10;generalize x 11=q11;generalize x 12=q12;generalize x 13=q13;generalize x 14=q14;generalize x 15=q15;generalize x 16=q16;generalize x 17=q17;generalize x 18=q18;generalize x 19=q19;generalize x 20=q20;generalize x 21=q21;generalize x 22=q22;generalize x 23=q23;generalize x 24=q24;generalize x 25=q25;generalize x 26=q26;generalize x 27=q27;generalize x 28=q28;generalize x 29=q29;generalize x 30=q30;generalize x 31=q31;clear x;go_simp;go_upto_region 2 with (fail);have YW:Hid (∀wq,Ext w'.drew wq→Below w.heap.size w wq):=fun wq h=>(BW.out.drew).trans (Below.mono h (by have:=BW.out.size;simpa using this));have hs0:=S0.out;refine vJ UF (tx2G v0) 35 (fun _ _ _=>True) (by kernel_rfl) (by kernel_rfl) (fun i v w w' h he=>Sd.ext h he) (fun _ _ _ _ _ _=>trivial) ?hst ?hpu ?hla ?hfin
  case hst =>
   intro i o ho hz
   match i,ho with
   | 0,ho=>obtain rfl:=inj ho;intro a w hx qq qa qM;exact⟨rfl,yL (run_move (.tmp 3) (.string s0) (qM 3 34 rfl rfl)) (Ext.refl _) ⟨s0,rfl,hs0⟩⟩
   | 1,ho=>exact qI ho fun a w hx qq qa=>⟨rfl,yO a.eval _ _ _ _ _ w (.tmp 32) (.const (.string ⟨#[10,115,105,116,32]⟩)) 5000 200 5200 (show(Sd.ok (.str 5000) (a.eval (.tmp 32)) w) from qa 32 0 rfl rfl) ⟨⟨#[10,115,105,116,32]⟩,rfl,by decide⟩ (by decide) (by decide)⟩
   | 2,ho=>obtain rfl:=inj ho;intro a w hx qq qa qM;obtain⟨v,w',h1,h2,h3⟩:=ja a.eval _ _ _ _ _ w ⟨#[51,58,48,48]⟩ ⟨#[50,52,58,48,48]⟩ ⟨#[49,58,48,48]⟩ (.const (.string ⟨#[51,58,48,48]⟩)) (.const (.string ⟨#[50,52,58,48,48]⟩)) (.const (.string ⟨#[49,58,48,48]⟩)) rfl rfl rfl (by decide) (by decide) (by decide);exact⟨rfl,yL h1 h2 h3⟩
   | 3,ho=>exact qI ho fun a w hx qq qa=>⟨rfl,_,run_move (.tmp 0) v0 (qq 0 rfl),rfl⟩
   | 4,ho=>obtain rfl:=inj ho;intro a w hx qq qa qM;have h9:a.tmps.getD 35 undef=v0:=qa 35 3 rfl rfl;exact⟨rfl,zx (zy _ #[v0,.int .i64 3] _ Tryz.func41 (by kernel_rfl) rfl rfl (by rw[QD];exact congrArg (fun z=>#[z,Value.int .i64 3]) h9)) (AT.out 3 w (by decide) (YW.out w hx))⟩
   | 5,ho=>exact qI ho fun a w hx qq qa=>⟨rfl,jb a.eval _ _ _ _ _ w (.tmp 36) 3 rfl (by decide) (by decide) (qa 36 4 rfl rfl)⟩
   | 6,ho=>exact qI ho fun a w hx qq qa=>⟨rfl,jG a.eval _ _ _ _ _ w (.tmp 34) (.tmp 37) 3 (qa 34 2 rfl rfl) (qa 37 5 rfl rfl)⟩
   | 7,ho=>exact qI ho fun a w hx qq qa=>⟨rfl,jF a.eval _ _ _ _ _ w (.tmp 38) (qa 38 6 rfl rfl)⟩
   | 8,ho=>exact qI ho fun a w hx qq qa=>⟨rfl,yO a.eval _ _ _ _ _ w (.tmp 33) (.tmp 39) 5200 200 5400 (show(Sd.ok (.str 5200) (a.eval (.tmp 33)) w) from qa 33 1 rfl rfl) (show(Sd.ok (.str 200) (a.eval (.tmp 39)) w) from qa 39 7 rfl rfl) (by decide) (by decide)⟩
   | 9,ho=>exact qI ho fun a w hx qq qa=>⟨rfl,yO a.eval _ _ _ _ _ w (.tmp 40) (.const (.string ⟨#[10,108,97,121,111,118,101,114,32]⟩)) 5400 200 5600 (show(Sd.ok (.str 5400) (a.eval (.tmp 40)) w) from qa 40 8 rfl rfl) ⟨⟨#[10,108,97,121,111,118,101,114,32]⟩,rfl,by decide⟩ (by decide) (by decide)⟩
   | 10,ho=>obtain rfl:=inj ho;intro a w hx qq qa qM;obtain⟨v,w',h1,h2,h3⟩:=ja a.eval _ _ _ _ _ w ⟨#[50,52,58,48,48]⟩ ⟨#[49,54,58,48,48]⟩ ⟨#[51,54,58,48,48]⟩ (.const (.string ⟨#[50,52,58,48,48]⟩)) (.const (.string ⟨#[49,54,58,48,48]⟩)) (.const (.string ⟨#[51,54,58,48,48]⟩)) rfl rfl rfl (by decide) (by decide) (by decide);exact⟨rfl,yL h1 h2 h3⟩
   | 11,ho=>exact qI ho fun a w hx qq qa=>⟨rfl,_,run_move (.tmp 0) v0 (qq 0 rfl),rfl⟩
   | 12,ho=>obtain rfl:=inj ho;intro a w hx qq qa qM;have h9:a.tmps.getD 43 undef=v0:=qa 43 11 rfl rfl;exact⟨rfl,zx (zy _ #[v0,.int .i64 4] _ Tryz.func41 (by kernel_rfl) rfl rfl (by rw[QD];exact congrArg (fun z=>#[z,Value.int .i64 4]) h9)) (AT.out 4 w (by decide) (YW.out w hx))⟩
   | 13,ho=>exact qI ho fun a w hx qq qa=>⟨rfl,jb a.eval _ _ _ _ _ w (.tmp 44) 3 rfl (by decide) (by decide) (qa 44 12 rfl rfl)⟩
   | 14,ho=>exact qI ho fun a w hx qq qa=>⟨rfl,jG a.eval _ _ _ _ _ w (.tmp 42) (.tmp 45) 3 (qa 42 10 rfl rfl) (qa 45 13 rfl rfl)⟩
   | 15,ho=>exact qI ho fun a w hx qq qa=>⟨rfl,jF a.eval _ _ _ _ _ w (.tmp 46) (qa 46 14 rfl rfl)⟩
   | 16,ho=>exact qI ho fun a w hx qq qa=>⟨rfl,yO a.eval _ _ _ _ _ w (.tmp 41) (.tmp 47) 5600 200 5800 (show(Sd.ok (.str 5600) (a.eval (.tmp 41)) w) from qa 41 9 rfl rfl) (show(Sd.ok (.str 200) (a.eval (.tmp 47)) w) from qa 47 15 rfl rfl) (by decide) (by decide)⟩
   | 17,ho=>exact qI ho fun a w hx qq qa=>⟨rfl,yO a.eval _ _ _ _ _ w (.tmp 48) (.const (.string ⟨#[10,110,105,103,104,116,32]⟩)) 5800 200 6000 (show(Sd.ok (.str 5800) (a.eval (.tmp 48)) w) from qa 48 16 rfl rfl) ⟨⟨#[10,110,105,103,104,116,32]⟩,rfl,by decide⟩ (by decide) (by decide)⟩
   | 18,ho=>obtain rfl:=inj ho;intro a w hx qq qa qM;obtain⟨v,w',h1,h2,h3⟩:=ja a.eval _ _ _ _ _ w ⟨#[64,50,50,58,48,48,32,116,111,32,64,48,54,58,48,48]⟩ ⟨#[64,48,48,58,48,48,32,116,111,32,64,48,53,58,48,48]⟩ ⟨#[64,49,50,58,48,48,32,116,111,32,64,49,50,58,48,48]⟩ (.const (.string ⟨#[64,50,50,58,48,48,32,116,111,32,64,48,54,58,48,48]⟩)) (.const (.string ⟨#[64,48,48,58,48,48,32,116,111,32,64,48,53,58,48,48]⟩)) (.const (.string ⟨#[64,49,50,58,48,48,32,116,111,32,64,49,50,58,48,48]⟩)) rfl rfl rfl (by decide) (by decide) (by decide);exact⟨rfl,yL h1 h2 h3⟩
   | 19,ho=>exact qI ho fun a w hx qq qa=>⟨rfl,_,run_move (.tmp 0) v0 (qq 0 rfl),rfl⟩
   | 20,ho=>obtain rfl:=inj ho;intro a w hx qq qa qM;have h9:a.tmps.getD 51 undef=v0:=qa 51 19 rfl rfl;exact⟨rfl,zx (zy _ #[v0,.int .i64 5] _ Tryz.func41 (by kernel_rfl) rfl rfl (by rw[QD];exact congrArg (fun z=>#[z,Value.int .i64 5]) h9)) (AT.out 5 w (by decide) (YW.out w hx))⟩
   | 21,ho=>exact qI ho fun a w hx qq qa=>⟨rfl,jb a.eval _ _ _ _ _ w (.tmp 52) 3 rfl (by decide) (by decide) (qa 52 20 rfl rfl)⟩
   | 22,ho=>exact qI ho fun a w hx qq qa=>⟨rfl,jG a.eval _ _ _ _ _ w (.tmp 50) (.tmp 53) 3 (qa 50 18 rfl rfl) (qa 53 21 rfl rfl)⟩
   | 23,ho=>exact qI ho fun a w hx qq qa=>⟨rfl,jF a.eval _ _ _ _ _ w (.tmp 54) (qa 54 22 rfl rfl)⟩
   | 24,ho=>exact qI ho fun a w hx qq qa=>⟨rfl,yO a.eval _ _ _ _ _ w (.tmp 49) (.tmp 55) 6000 200 6200 (show(Sd.ok (.str 6000) (a.eval (.tmp 49)) w) from qa 49 17 rfl rfl) (show(Sd.ok (.str 200) (a.eval (.tmp 55)) w) from qa 55 23 rfl rfl) (by decide) (by decide)⟩
   | 25,ho=>exact qI ho fun a w hx qq qa=>⟨rfl,yO a.eval _ _ _ _ _ w (.tmp 56) (.const (.string ⟨#[10,99,111,110,115,116,32,115,104,105,102,116,115,32,105,115,32]⟩)) 6200 200 6400 (show(Sd.ok (.str 6200) (a.eval (.tmp 56)) w) from qa 56 24 rfl rfl) ⟨⟨#[10,99,111,110,115,116,32,115,104,105,102,116,115,32,105,115,32]⟩,rfl,by decide⟩ (by decide) (by decide)⟩
   | 26,ho=>obtain rfl:=inj ho;intro a w hx qq qa qM;obtain⟨v,w',h1,h2,h3⟩:=ja a.eval _ _ _ _ _ w ⟨#[50]⟩ ⟨#[55,32,47,32,50]⟩ ⟨#[45,40,49,41]⟩ (.const (.string ⟨#[50]⟩)) (.const (.string ⟨#[55,32,47,32,50]⟩)) (.const (.string ⟨#[45,40,49,41]⟩)) rfl rfl rfl (by decide) (by decide) (by decide);exact⟨rfl,yL h1 h2 h3⟩
   | 27,ho=>exact qI ho fun a w hx qq qa=>⟨rfl,_,run_move (.tmp 0) v0 (qq 0 rfl),rfl⟩
   | 28,ho=>obtain rfl:=inj ho;intro a w hx qq qa qM;have h9:a.tmps.getD 59 undef=v0:=qa 59 27 rfl rfl;exact⟨rfl,zx (zy _ #[v0,.int .i64 6] _ Tryz.func41 (by kernel_rfl) rfl rfl (by rw[QD];exact congrArg (fun z=>#[z,Value.int .i64 6]) h9)) (AT.out 6 w (by decide) (YW.out w hx))⟩
   | 29,ho=>exact qI ho fun a w hx qq qa=>⟨rfl,jb a.eval _ _ _ _ _ w (.tmp 60) 3 rfl (by decide) (by decide) (qa 60 28 rfl rfl)⟩
   | 30,ho=>exact qI ho fun a w hx qq qa=>⟨rfl,jG a.eval _ _ _ _ _ w (.tmp 58) (.tmp 61) 3 (qa 58 26 rfl rfl) (qa 61 29 rfl rfl)⟩
   | 31,ho=>exact qI ho fun a w hx qq qa=>⟨rfl,jF a.eval _ _ _ _ _ w (.tmp 62) (qa 62 30 rfl rfl)⟩
   | 32,ho=>exact qI ho fun a w hx qq qa=>⟨rfl,yO a.eval _ _ _ _ _ w (.tmp 57) (.tmp 63) 6400 200 6600 (show(Sd.ok (.str 6400) (a.eval (.tmp 57)) w) from qa 57 25 rfl rfl) (show(Sd.ok (.str 200) (a.eval (.tmp 63)) w) from qa 63 31 rfl rfl) (by decide) (by decide)⟩
   | 33,ho=>exact qI ho fun a w hx qq qa=>⟨rfl,yO a.eval _ _ _ _ _ w (.tmp 64) (.const (.string ⟨#[10]⟩)) 6600 200 6800 (show(Sd.ok (.str 6600) (a.eval (.tmp 64)) w) from qa 64 32 rfl rfl) ⟨⟨#[10]⟩,rfl,by decide⟩ (by decide) (by decide)⟩
   | 34,ho=>obtain rfl:=inj ho;intro a w hx qq qa qM;exact⟨rfl,yL (run_assign _ _ rfl) (Ext.refl _) (qa 65 33 rfl rfl)⟩
   | n+35,ho=>cases ho
  case hpu=>exact fun i o ho hz=>.inr (.inl (by decide))
  case hla=>intro o ho;cases ho
  case hfin =>
   intro x w1 w2 hb hg hf hw;have hw':=hw (Nat.le_refl _);subst hw';obtain⟨s1,hs3,hs1⟩:=(hg 3 34 rfl:(Sd.str 6800).ok (x 3) w2);have S1:Hid (jg 8000 s1):=⟨hs1.1,Nat.le_trans hs1.2 (by decide)⟩;have BW2:=hid (YW.out _ hb);clear hg hf hw hb hs1 YW BW S0 hs0;dsimp only[frameT,UF,List.foldl];rw[hs3];clear hs3;generalize x 32=q32;generalize x 33=q33;generalize x 34=q34;generalize x 35=q35;generalize x 36=q36;generalize x 37=q37;generalize x 38=q38;generalize x 39=q39;generalize x 40=q40;generalize x 41=q41;generalize x 42=q42;generalize x 43=q43;generalize x 44=q44;generalize x 45=q45;generalize x 46=q46;generalize x 47=q47;generalize x 48=q48;generalize x 49=q49;generalize x 50=q50;generalize x 51=q51;generalize x 52=q52;generalize x 53=q53;generalize x 54=q54;generalize x 55=q55;generalize x 56=q56;generalize x 57=q57;generalize x 58=q58;generalize x 59=q59;generalize x 60=q60;generalize x 61=q61;generalize x 62=q62;generalize x 63=q63;generalize x 64=q64;generalize x 65=q65;clear x;go_simp;go_upto_region 4 with (go_at_call 42;refine(Yu _).mono ?_;rintro e w3 ⟨g,rfl,hb,hc⟩;have HB:=hid hb;have HC:=hid hc;clear hb hc);have B3:=hid (BW2.out.trans (HB.out.mono BW2.out.size));clear HB;go_wp2_with fail
   go_loopw [3,5] (fun t i wr=>∃(j:Nat) (s:ByteArray),j≤18∧i=.int .i64 j∧t=.string s∧Hid (jg (8000+201 * j) s∧Below w3.heap.size w3 wr)) (fun _ i _=>18 - (intOf i).toNat)
   case atStart=>exact⟨0,s1,by omega,rfl,rfl,S1.out,Below.refl _ _⟩
   case round =>
    obtain⟨wp,hwp⟩:∃z,z=wr:=⟨_,rfl⟩;subst hwp;clear S1;obtain⟨j,s,hj,rfl,rfl,HR⟩:=hrel;have ST:=hid HR.out.1;have BP:=hid HR.out.2;clear HR
    by_cases qN:j < 18
    ·have hj1:(j:Int) < 18:=by omega
     obtain⟨x,hx,hxs⟩:=HC.out j qN;have XS:=hid hxs;have CX:Hid (∀wq,Below w3.heap.size w3 wq→wq.cell? ⟨g,j,none⟩=some (.string x)):=fun wq hb=>by rw[Below.cell hb (p:=⟨g,j,none⟩) (block_lt_of_cell hx)];exact hx
     have ATJ:Hid (Calls Tryz.prog 41 #[v0,.int .i64 (7+(j:Int))] wp fun e w''=>∃v,e=.returned v∧Ext wp w''∧Sd.nat.ok v w''):=(by
      have q:=AT.out (7+j) wp (by omega) (B3.out.trans (BP.out.mono B3.out.size));rw[Int.natCast_add] at q;exact q)
     clear hx hxs;have q9:s.size+x.size≤9223372036854775807:=(by have:=XS.out.2;have:=ST.out.2;omega);have q8:s.size+x.size+1≤9223372036854775807:=(by have:=XS.out.2;have:=ST.out.2;omega);go_wp2_with (go_at_call 41;refine ATJ.out.mono ?_;rintro e w4 ⟨v4,rfl,hb,m,rfl⟩;have B4:=hid (BP.out.trans (Below.mono hb BP.out.size));have lc:=CX.out _ B4.out;clear hb ATJ)
     all_goals
      go_roundw
      case rel =>
       refine⟨j+1,_,by omega,by go_num,rfl,?_,B4.out⟩;have h1:=ST.out;have h2:=XS.out;unfold jg at h1 h2 ⊢
       first
        | (simp only[ByteArray.size_append];rw[show(⟨#[10]⟩:ByteArray).size=1 from rfl];omega)
        | omega
      case measure=>simp[intOf];omega
    obtain rfl:j=18:=by omega
    have hj1:¬((18:Nat):Int) < 18:=(by omega);have S1:Hid (jg 12000 s):=⟨ST.out.1,Nat.le_trans ST.out.2 (by decide)⟩;have BW2:=hid (B3.out.trans (BP.out.mono B3.out.size));clear ST BP B3 HC qN hj hj1;go_upto_region 10 with (go_at_call 43;refine(YY _).mono ?_;rintro e w3 ⟨g,rfl,hb,hc⟩;have HB:=hid hb;have HC:=hid hc;clear hb hc);have B3:=hid (BW2.out.trans (HB.out.mono BW2.out.size));clear HB;go_wp2_with fail
    go_loopw [3,7] (fun t i wr=>∃(j:Nat) (s:ByteArray),j≤10∧i=.int .i64 j∧t=.string s∧Hid (jg (12000+201 * j) s∧Below w3.heap.size w3 wr)) (fun _ i _=>10 - (intOf i).toNat)
    case atStart=>exact⟨0,s,by omega,rfl,rfl,S1.out,Below.refl _ _⟩
    case round =>
     obtain⟨wp,hwp⟩:∃z,z=wr:=⟨_,rfl⟩;subst hwp;clear S1;obtain⟨j,s,hj,rfl,rfl,HR⟩:=hrel;have ST:=hid HR.out.1;have BP:=hid HR.out.2;clear HR
     by_cases qN:j < 10
     ·have hj1:(j:Int) < 10:=by omega
      obtain⟨x,hx,hxs⟩:=HC.out j qN;have XS:=hid hxs;have CX:Hid (∀wq,Below w3.heap.size w3 wq→wq.cell? ⟨g,j,none⟩=some (.string x)):=fun wq hb=>by rw[Below.cell hb (p:=⟨g,j,none⟩) (block_lt_of_cell hx)];exact hx
      have ATJ:Hid (Calls Tryz.prog 41 #[v0,.int .i64 (30+(j:Int))] wp fun e w''=>∃v,e=.returned v∧Ext wp w''∧Sd.nat.ok v w''):=(by
       have q:=AT.out (30+j) wp (by omega) (B3.out.trans (BP.out.mono B3.out.size));rw[Int.natCast_add] at q;exact q)
      clear hx hxs;have q9:s.size+x.size≤9223372036854775807:=(by have:=XS.out.2;have:=ST.out.2;omega);have q8:s.size+x.size+1≤9223372036854775807:=(by have:=XS.out.2;have:=ST.out.2;omega);go_wp2_with (go_at_call 41;refine ATJ.out.mono ?_;rintro e w4 ⟨v4,rfl,hb,m,rfl⟩;have B4:=hid (BP.out.trans (Below.mono hb BP.out.size));have lc:=CX.out _ B4.out;clear hb ATJ)
      all_goals
       go_roundw
       case rel =>
        refine⟨j+1,_,by omega,by go_num,rfl,?_,B4.out⟩;have h1:=ST.out;have h2:=XS.out;unfold jg at h1 h2 ⊢
        first
         | (simp only[ByteArray.size_append];rw[show(⟨#[10]⟩:ByteArray).size=1 from rfl];omega)
         | omega
       case measure=>simp[intOf];omega
     obtain rfl:j=10:=by omega
     have hj1:¬((10:Nat):Int) < 10:=(by omega);have S1:Hid (jg 15000 s):=⟨ST.out.1,Nat.le_trans ST.out.2 (by decide)⟩;have BW2:=hid (B3.out.trans (BP.out.mono B3.out.size));clear ST BP B3 HC qN hj hj1;go_upto_region 16 with (go_at_call 41;refine(AT.out 41 _ (by decide) BW2.out).mono ?_;rintro e w4 ⟨v4,rfl,hb,m,rfl⟩;have B4:=hid (BW2.out.trans (Below.mono hb BW2.out.size));clear hb);obtain⟨q,hq⟩:∃q:Nat,(m:Int) % 4=q:=⟨m % 4,by omega⟩;rw[hq];clear hq
     by_cases hq3:q < 3
     ·have hq4:(q:Int) < 3:=by omega
      have q9:∀x:ByteArray,jg 200 x→s.size+x.size≤9223372036854775807:=(by intro x hx;have:=hx.2;have:=S1.out.2;omega);have q8:∀x:ByteArray,jg 200 x→s.size+x.size+1≤9223372036854775807:=(by intro x hx;have:=hx.2;have:=S1.out.2;omega);go_wp2_with (go_at_call 44;refine(Qd _).mono ?_;rintro e w5 ⟨g5,rfl,hb,hc⟩;have B5:=hid (B4.out.trans (Below.mono hb B4.out.size));obtain⟨x,hx,hxs⟩:=hc q hq3;have XS:=hid hxs;have r9:=q9 x hxs;have r8:=q8 x hxs;clear hb hc hxs);go_ret;refine⟨_,rfl,?_,B5.out⟩;have h1:=S1.out;have h2:=XS.out;unfold jg at h1 h2 ⊢;simp only[ByteArray.size_append];rw[show(⟨#[10]⟩:ByteArray).size=1 from rfl];omega
     ·have hq4:¬(q:Int) < 3:=by omega
      go_wp2;go_ret;exact⟨_,rfl,⟨S1.out.1,Nat.le_trans S1.out.2 (by decide)⟩,B4.out⟩
end Go.Proofs.YtcejjdmnlejbaaaGreatDoor
