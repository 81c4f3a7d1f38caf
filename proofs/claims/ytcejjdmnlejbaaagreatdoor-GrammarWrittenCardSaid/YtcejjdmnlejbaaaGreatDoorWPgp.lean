import Derived.Deep.Onto
import Derived.Lib.SplitLaws
import Derived.Test.YtcejjdmnlejbaaaGreatDoorWPgi
namespace Go.Proofs.YtcejjdmnlejbaaaGreatDoor
open Option.some(inj)
open Lib(hid)
set_option linter.unusedVariables false
set_option linter.unusedSimpArgs false
open Go.ChangeShapes Go.WideShapes Go.ChangeAt Go.RowKit
open Go.Deep (BT)
set_option maxHeartbeats 8000000
set_option maxRecDepth 100000
theorem yz{fn:Func}{p u v:Tmp}{ty:TypeId}(h:fn.results=#[.cell p ty,.tmp u,.tmp v])(tmps:Array Value)(P:Program)(w:World) :
 (results fn tmps).run P w=((asAddr (tmps.getD p undef)).run P w).andThen fun a w₁=>((loadVar ty a).run P w₁).andThen fun x w₂=>.ok (.tuple #[x,tmps.getD u undef,tmps.getD v undef]) w₂:=by
 simp only[results,h];simp[Sem.run_bind,Result.andThen]
theorem vA(s:ByteArray):∀(n i:Nat)(D:List Tk.T4),D.length≤400→(Tk.scan s n i D).1.length≤400:=by
 intro n
 induction n with
 | zero=>intro i D h;exact h
 | succ n ih =>
   intro i D h;rw[Tk.scan]
   by_cases h1:s.size≤i
   ·rw[if_pos h1];exact h
   ·rw [if_neg h1]
    split
    ·exact h
    ·split
     ·exact ih _ _ h
     ·split
      ·exact Nat.zero_le _
      ·split
       ·exact Nat.zero_le _
       ·refine ih _ _ ?_;rw[List.length_append];simp;omega
theorem va(s:ByteArray):(Tk.scanT s).1.length≤400:=vA s _ _ _ (Nat.zero_le _)
theorem KR(l:List UInt8):Tk.sgn l≤2:=by
 unfold Tk.sgn
 split
 ·exact Nat.le_refl _
 ·split<;>omega
theorem Qi{t:Tk.T3}(h:VT t):t.text.size≤100:=by
 have q:=kQ h;rcases h with h|h|h|⟨h1,h2,h3,h4⟩
 ·rcases q with q|q|q|q|q
  ·omega
  ·rw[q.2.1];decide
  ·rw[q.2.1];decide
  ·rw[q.2.1];decide
  ·rw[q.1] at h;omega
 ·rw[h.2.1];decide
 ·rw[h.2.1];decide
 ·have:=KR t.text.data.toList;omega
structure PcD (w:World) (bs:Nat) (c:Pc.PC) (vs:Fin 6→Value) (D:Six):Prop where
 rows:RwF w (fun _=>False) bs (yf vs D)
 ecs:D.cs.map (fun x=>(x.name,Pz.nr (jd x)))=c.cs
 ers:D.rs.map (fun x=>(x.sc,x.name,Pz.nr (j7 x)))=c.rs
 eos:D.os.map (fun x=>(x.sc,Pz.nr (jc x)))=c.os
 ecr:D.cr.map Pz.nr=c.cr
 els:D.ls=c.ls
 efs:D.fs=c.fs
 ok:SixOk D
 nb:Pc.NumB c
 ln:Pc.cnt c≤1000
def Kw(c:Pc.PC)(vs:Fin 6→Value):Value:=.agg #[.int .i64 c.rep,.int .i64 c.rel,.int .i64 c.con,.int .i64 c.sit,.int .i64 c.lay,.int .i64 c.nf,.int .i64 c.nt,vs 0,vs 1,vs 2,vs 3,vs 4,vs 5,.int .i64 c.gua]
def vz:Fin 6→Value:=fun _=>.slice none 0 0
def dz:Six:=⟨[],[],[],[],[],[]⟩
def VI(s:ByteArray)(w:World)(e:Ending)(w':World):Prop:=Below w.heap.size w w'∧
 ((Pc.readT s).2.2≠0∧e=.returned (.tuple #[Kw Pc.pcz vz,.int .i64 (Pc.readT s).2.1,.int .i64 (Pc.readT s).2.2])∨
  (Pc.readT s).2.2=0∧∃vs D,PcD w' w.heap.size (Pc.readT s).1 vs D∧
    (yj (us (Pc.readT s).1 D)≠0∧e=.returned (.tuple #[Kw Pc.pcz vz,.int .i64 0,.int .i64 (yj (us (Pc.readT s).1 D))])∨
     yj (us (Pc.readT s).1 D)=0∧e=.returned (.tuple #[Kw (Pc.readT s).1 vs,.int .i64 0,.int .i64 0])))
theorem Vs{w:World}{T:Fo}{B O:Nat}{g:Nat}(h:FoAt w T B O)(hn:∀i s,w.cell? ⟨g,i,none⟩≠some (.string s)):FoAv (fun x=>x≠g) T B:=by
 induction T generalizing B O with
 | nil=>trivial
 | node b o a k r ihk ihr =>
   refine⟨?_,ihk h.2.2.1,ihr h.2.2.2⟩;rintro rfl;exact hn _ _ h.1.2.2.1
theorem UV{w:World}{g:Nat}{c:Pc.PC}{vs:Fin 6→Value}(h:PcB w g c vs)(hv:∀i,∃q n z,vs i=.slice q n z):∀i s,w.cell? ⟨g,i,none⟩≠some (.string s):=by
 intro i s e;have V:∀j s,vs j≠.string s:=fun j s e=>by obtain⟨q,n,z,h⟩:=hv j;rw[h] at e;cases e
 match i,e with
 | 0,e=>rw[h.c0] at e;cases e
 | 1,e=>rw[h.c1] at e;cases e
 | 2,e=>rw[h.c2] at e;cases e
 | 3,e=>rw[h.c3] at e;cases e
 | 4,e=>rw[h.c4] at e;cases e
 | 5,e=>rw[h.c5] at e;cases e
 | 6,e=>rw[h.c6] at e;cases e
 | 7,e=>rw[h.c7] at e;exact V _ _ (inj e)
 | 8,e=>rw[h.c8] at e;exact V _ _ (inj e)
 | 9,e=>rw[h.c9] at e;exact V _ _ (inj e)
 | 10,e=>rw[h.c10] at e;exact V _ _ (inj e)
 | 11,e=>rw[h.c11] at e;exact V _ _ (inj e)
 | 12,e=>rw[h.c12] at e;exact V _ _ (inj e)
 | 13,e=>rw[h.c13] at e;cases e
 | n+14,e=>rw[h.n (n+14) (by omega)] at e;cases e
theorem Um{A B:Nat→Prop}{T:Fo}{g:Nat}(h1:FoAv A T g)(h2:FoAv B T g):FoAv (fun x=>A x∧B x) T g:=by
 induction T generalizing g with
 | nil=>trivial
 | node b o a k r ihk ihr=>exact⟨⟨h1.1,h2.1⟩,ihk h1.2.1 h2.2.1,ihr h1.2.2 h2.2.2⟩
theorem KpX.setC{X:Nat→Prop}{w a:World}{t:Nat}(h:KpX X w a)(ht:X t)(k:Nat)(u:Value):KpX X w (a.setCell ⟨t,k,none⟩ u):=h.trans (KpX.set ht k u)
def Vy(w:World)(L:List ByteArray)(v:Value):Prop:=∃g cap,(L=[]→True)∧L.length≤1000∧(v=.slice none 0 0∧L=[]∨v=.slice (some ⟨g,0,none⟩) L.length cap∧g < w.heap.size∧∀i s,L[i]?=some s→w.cell? ⟨g,i,none⟩=some (.string s))
theorem U9{w:World}{L:List ByteArray}{v:Value}(h:Vy w L v):∃p cap,v=.slice p L.length cap∧(∀i s,L[i]?=some s→∃g,p=some ⟨g,0,none⟩∧g < w.heap.size∧w.cell? ⟨g,i,none⟩=some (.string s)):=by
 obtain⟨g,cap,-,-,⟨rfl,rfl⟩|⟨rfl,h1,h2⟩⟩:=h
 ·exact⟨none,0,rfl,fun i s q=>(by cases q)⟩
 ·exact⟨_,_,rfl,fun i s q=>⟨g,rfl,h1,h2 i s q⟩⟩
theorem YY(s:ByteArray):(Ln.lines s).1.length≤1000:=by
 unfold Ln.lines
 split
 ·simp
 ·split
  ·simp
  ·split
   ·simp
   ·dsimp only;omega
theorem QB(s:ByteArray)(hs:s.size≤9223372036854775807):∀l∈ (Ln.lines s).1,l.size≤9223372036854775807:=by
 intro l hl;unfold Ln.lines at hl
 split at hl
 ·cases hl
 ·split at hl
  ·cases hl
  ·split at hl
   ·cases hl
   ·exact Nat.le_trans (Ln.go_size s _ _ _ l hl) hs
theorem vW{c:Pc.PC}{i:Nat}{s:ByteArray}{r:List ByteArray}(h:(Tk.scanT s).2.2≠0):Pc.linesT c i (s :: r)=(c,(i:Int)+1,(Tk.scanT s).2.2):=by
 rw[Pc.linesT,if_pos h]
theorem vU{c:Pc.PC}{i:Nat}{s:ByteArray}{r:List ByteArray}(h:(Tk.scanT s).2.2=0)(h2:(Tk.scanT s).1=[]):Pc.linesT c i (s :: r)=Pc.linesT c (i+1) r:=by
 rw[Pc.linesT,if_neg (by rw[h];simp),if_pos h2]
theorem vV{c:Pc.PC}{i:Nat}{s:ByteArray}{r:List ByteArray}(h:(Tk.scanT s).2.2=0)(h2:(Tk.scanT s).1≠[])(h3:(Pc.declT c (Tk.scanT s).1).2≠0):Pc.linesT c i (s :: r)=(c,(i:Int)+1,(Pc.declT c (Tk.scanT s).1).2):=by
 rw[Pc.linesT,if_neg (by rw[h];simp),if_neg h2,if_pos h3]
theorem YZ{c:Pc.PC}{i:Nat}{s:ByteArray}{r:List ByteArray}(h:(Tk.scanT s).2.2=0)(h2:(Tk.scanT s).1≠[])(h3:(Pc.declT c (Tk.scanT s).1).2=0):Pc.linesT c i (s :: r)=Pc.linesT (Pc.declT c (Tk.scanT s).1).1 (i+1) r:=by
 rw[Pc.linesT,if_neg (by rw[h];simp),if_neg h2,if_neg (by rw[h3];simp)]
namespace Ln
def cut:List UInt8→List UInt8→List (List UInt8)
 | p,[]=>[p]
 | p,b :: r=>if b=10 then p :: cut [] r else cut (p++[b]) r
def cutE:List UInt8→List UInt8→List (List UInt8)
 | p,[]=>if p=[] then [] else [p]
 | p,b :: r=>if b=10 then p :: cutE [] r else cutE (p++[b]) r
theorem cut_none(p l:List UInt8)(h:(10:UInt8) ∉ l):cut p l=[p++l]:=by
 induction l generalizing p with
 | nil=>simp[cut]
 | cons b r ih =>
   rw[List.mem_cons] at h;rw[cut,if_neg (fun e=>h (.inl e.symm)),ih _ (fun e=>h (.inr e))];simp
theorem cut_hit(p a r:List UInt8)(h:(10:UInt8) ∉ a):cut p (a++10 :: r)=(p++a) :: cut [] r:=by
 induction a generalizing p with
 | nil=>simp[cut]
 | cons b a ih =>
   rw[List.mem_cons] at h;rw[List.cons_append,cut,if_neg (fun e=>h (.inl e.symm)),ih _ (fun e=>h (.inr e))];simp
theorem ix_hit(a r:List UInt8)(h:(10:UInt8) ∉ a):Lib.indexByte (a++10 :: r) 10=a.length:=by
 induction a with
 | nil=>simp[Lib.indexByte]
 | cons b a ih =>
   rw[List.mem_cons] at h;rw[List.cons_append,Lib.indexByte,if_neg (by rw[beq_iff_eq];exact fun e=>h (.inl e.symm)),ih (fun e=>h (.inr e)),if_neg (by rw[beq_iff_eq];omega),List.length_cons];omega
theorem first10{l:List UInt8}(h:(10:UInt8)∈ l):∃a r,l=a++10 :: r∧(10:UInt8) ∉ a:=by
 induction l with
 | nil=>cases h
 | cons b l ih =>
   by_cases e:b=10
   ·subst e;exact⟨[],l,rfl,by simp⟩
   ·obtain ⟨a,r,q1,q2⟩:=ih (by rcases List.mem_cons.1 h with q|q<;>first|exact absurd q.symm e|exact q);exact⟨b :: a,r,by rw[q1];rfl,by rw[List.mem_cons];rintro (q|q)<;>first|exact e q.symm|exact q2 q⟩
theorem splitK_cut:∀(k:Nat)(l:List UInt8),l.count 10=k→Lib.splitK [10] 0 k l=cut [] l:=by
 intro k
 induction k with
 | zero =>
   intro l h;rw[cut_none [] l (List.count_eq_zero.1 h),List.nil_append];rfl
 | succ k ih =>
   intro l h;obtain⟨a,r,rfl,ha⟩:=first10 (List.count_pos_iff.1 (by omega:0 < l.count 10));have hx:Lib.index (a++10 :: r) [10]=a.length:=by rw[Lib.index_one];exact ix_hit a r ha
   have hc:r.count 10=k:=by
    rw[List.count_append,List.count_cons_self,List.count_eq_zero.2 ha] at h;omega
   rw[Lib.splitK,hx,if_neg (by rw[beq_iff_eq];omega),cut_hit [] a r ha,Int.toNat_natCast];have e1:(a++10 :: r).take (a.length+0)=a:=(by simp);have e2:(a++10 :: r).drop (a.length+([10]:List UInt8).length)=r:=(by simp[List.drop_append]);rw[e1,e2,ih r hc,List.nil_append]
theorem cut_end(p m:List UInt8):cut p m=cutE p (m++[10]):=by
 induction m generalizing p with
 | nil=>simp[cut,cutE]
 | cons b m ih =>
   rw[List.cons_append,cut,cutE,ih,ih]
theorem cut_more(p l:List UInt8)(h:p++l≠[])(h2:∀m,l≠m++[10]):cut p l=cutE p l:=by
 induction l generalizing p with
 | nil =>
   rw[List.append_nil] at h;rw[cut,cutE,if_neg h]
 | cons b r ih =>
   rw[cut,cutE]
   by_cases e:b=10
   ·subst e;rw[if_pos rfl,if_pos rfl,ih [] (by rw[List.nil_append];rintro rfl;exact h2 [] rfl) (fun m q=>h2 (10 :: m) (by rw[q];rfl))]
   ·rw[if_neg e,if_neg e,ih _ (by simp) (fun m q=>h2 (b :: m) (by rw[q];rfl))]
theorem cut_trim(l:List UInt8)(h:l≠[]):cut [] (Lib.trimSuffix l [10])=cutE [] l:=by
 by_cases q:∃m,l=m++[10]
 ·obtain ⟨m,rfl⟩:=q
  have e:Lib.trimSuffix (m++[10]) [10]=m:=by
   unfold Lib.trimSuffix;rw[if_pos (by simp[Lib.hasSuffix])];simp
  rw[e,cut_end]
 ·have e:Lib.trimSuffix l [10]=l:=by
   unfold Lib.trimSuffix;rw[if_neg];intro hs;apply q;obtain⟨m,hm⟩:=(List.isSuffixOf_iff_suffix.1 (show([10]:List UInt8).isSuffixOf l=true from hs));exact⟨m,hm.symm⟩
  rw[e];exact cut_more [] l (by simpa using h) (fun m q2=>q ⟨m,q2⟩)
theorem go_cutE(s:ByteArray)(n:Nat):∀i f,f≤i→i+n=s.size→(go s n i f).map (·.data.toList)=cutE ((s.data.toList.drop f).take (i - f)) (s.data.toList.drop i):=by
 have hl:s.data.toList.length=s.size:=(Lib.size_eq s).symm
 induction n with
 | zero =>
   intro i f hf hi;have e1:s.data.toList.drop i=[]:=List.drop_eq_nil_of_le (by omega);have e2:(s.data.toList.drop f).take (i - f)=s.data.toList.drop f:=List.take_of_length_le (by rw[List.length_drop];omega);rw[e1,e2,cutE,go]
   by_cases h:f < s.size
   ·rw [if_pos h,if_neg (by intro e;have:=congrArg List.length e;rw[List.length_drop] at this;simp at this;omega)];rw[List.map_cons,List.map_nil,Lib.extract_to_end]
   ·rw[if_neg h,if_pos (List.drop_eq_nil_of_le (by omega))];rfl
 | succ n ih =>
   intro i f hf hi;have hi2:i < s.data.toList.length:=(by omega);rw[List.drop_eq_getElem_cons hi2,cutE,go];have eg:s.data.toList.getD i 0=s.data.toList[i]:=(by rw[List.getD_eq_getElem?_getD,List.getElem?_eq_getElem hi2];rfl);rw[eg]
   by_cases h:s.data.toList[i]=10
   ·rw [if_pos (show s.data.toList[i].toNat=10 by rw[h];rfl),if_pos h,List.map_cons,ih (i+1) (i+1) (Nat.le_refl _) (by omega),Nat.sub_self,List.take_zero]
    congr 1
    rw[Lib.extract_data]
   ·rw [if_neg (show ¬s.data.toList[i].toNat=10 from fun e=>h (UInt8.toNat_inj.1 (e.trans rfl))),if_neg h,ih (i+1) f (by omega) (by omega)]
    congr 1
    rw[show i+1 - f=(i - f)+1 by omega,List.take_add_one,List.getElem?_drop,show f+(i - f)=i by omega,List.getElem?_eq_getElem hi2];rfl
theorem split_go(s:ByteArray)(h:s.size≠0):Lib.splitB ⟨#[10]⟩ 0 (Lib.countB (⟨(Lib.trimSuffix s.data.toList [10]).toArray⟩:ByteArray) ⟨#[10]⟩) ⟨(Lib.trimSuffix s.data.toList [10]).toArray⟩=go s s.size 0 0:=by
 have hinj:∀(A B:List ByteArray),A.map (·.data.toList)=B.map (·.data.toList)→A=B:=by
  intro A
  induction A with
  | nil=>intro B h;cases B with
    | nil=>rfl
    | cons b B=>simp at h
  | cons a A ih=>intro B h;cases B with
    | nil=>simp at h
    | cons b B =>
      simp only[List.map_cons,List.cons.injEq] at h;rw[ih B h.2,ByteArray.ext (Array.toList_inj.1 h.1)]
 apply hinj;have hl:s.data.toList≠[]:=fun e=>h (by rw[Lib.size_eq,e];rfl);rw[Lib.splitB_data,go_cutE s s.size 0 0 (Nat.le_refl _) (by omega)];have e:(⟨(Lib.trimSuffix s.data.toList [10]).toArray⟩:ByteArray).data.toList=Lib.trimSuffix s.data.toList [10]:=List.toList_toArray
 have ec:Lib.countB (⟨(Lib.trimSuffix s.data.toList [10]).toArray⟩:ByteArray) ⟨#[10]⟩=(Lib.trimSuffix s.data.toList [10]).count 10:=by
  unfold Lib.countB;rw[e];exact Lib.count_one _ _
 rw[ec,e];rw[show(⟨#[10]⟩:ByteArray).data.toList=[10] from rfl,splitK_cut _ _ rfl,cut_trim _ hl];simp
end Ln
def LnT(s:ByteArray)(w:World)(e:Ending)(w':World):Prop:=∃v,e=.returned (.tuple #[v,.int .i64 (Ln.lines s).2])∧Vy w' (Ln.lines s).1 v∧Below w.heap.size w w'
theorem xS{s:ByteArray}{w:World}{x:Int}(h:Ln.lines s=([],x)):LnT s w (.returned (.tuple #[.slice none 0 0,.int .i64 x])) w :=
 ⟨_,by rw[h],by rw[h];exact⟨0,0,fun _=>trivial,by simp,.inl ⟨rfl,rfl⟩⟩,Below.refl _ _⟩
theorem Qr(s:ByteArray)(m:Int)(w:World)(hs:s.size≤9223372036854775807)(hm:w.cell? ⟨0,0,none⟩=some (.int .i64 m)) :
 Calls Tryz.prog 37 #[.string s] w (LnT s w):=by
 have LD:Hid (Ln.lines s=if 20000 < s.size then ([],10) else if Ln.okS s s.size=false then ([],1) else if 1000 < (Ln.go s s.size 0 0).length then ([],10) else (Ln.go s s.size 0 0,0)):=rfl;have HM:=hid hm;clear hm
 by_cases h2:20000 < s.size
 ·have RQ:Hid (Ln.lines s=([],10)):=by unfold Hid;rw[LD.out,if_pos h2]
  have h21:(20000:Int) < (s.size:Int):=(by omega);clear LD;go_enter Tryz.func37,Tryz.ntmps37;go_wp2
  go_ret2
  exact xS RQ.out
 have h21:¬(20000:Int) < (s.size:Int):=by omega
 have LD2:Hid (Ln.lines s=if Ln.okS s s.size=false then ([],1) else if 1000 < (Ln.go s s.size 0 0).length then ([],10) else (Ln.go s s.size 0 0,0)):=by unfold Hid;rw[LD.out,if_neg h2]
 clear LD;have hs2:s.size≤20000:=by omega
 go_enter Tryz.func37,Tryz.ntmps37;go_wp2_with fail
 go_loop [4,11] (fun _ i=>∃k:Nat,k≤s.size∧i=.int .i64 k∧Hid (Ln.okS s k=true)) (fun _ i=>s.size - (intOf i).toNat)
 case atStart=>exact⟨0,by omega,rfl,rfl⟩
 case round =>
  obtain⟨k,hk,rfl,HG⟩:=hrel
  by_cases qD:k < s.size
  ·have hst:Ln.okS s (k+1)=Ln.okB (s.data.toList.getD k 0):=by show(Ln.okS s k && _)=_;rw[HG.out,Bool.true_and]
   rw[getD_at s k qD] at hst;have ST:=hid hst;clear hst
   have SP:Hid (Ln.okS s (k+1)=false→Ln.lines s=([],1)):=fun q=>by
    have:=Ln.okS_stop s q (s.size - (k+1));rw[show k+1+(s.size - (k+1))=s.size by omega] at this;rw[LD2.out,if_pos this]
   have hi:(k:Int) < (s.size:Int):=(by omega);obtain⟨c,hc⟩:∃c:UInt8,s[k]=c:=⟨_,rfl⟩;rw[hc] at ST
   by_cases c1:(c.toNat:Int)=10
   ·have b1:((c.toNat:Int) != 10)=false:=by simp[c1]
    go_wp2
    go_round
    case rel=>exact⟨k+1,by omega,by go_num,by unfold Hid;rw[ST.out];unfold Ln.okB;rw[decide_eq_true_eq];omega⟩
    case measure=>simp[intOf];omega
   ·have b1:((c.toNat:Int) != 10)=true:=by simp[c1]
    by_cases c2:(c.toNat:Int) < 32
    ·go_wp2
     go_ret2
     refine xS (SP.out ?_);rw[ST.out];unfold Ln.okB;rw[decide_eq_false_iff_not];omega
    ·by_cases c3:(126:Int) < (c.toNat:Int)
     ·go_wp2
      go_ret2
      refine xS (SP.out ?_);rw[ST.out];unfold Ln.okB;rw[decide_eq_false_iff_not];omega
     ·go_wp2
      go_round
      case rel=>exact⟨k+1,by omega,by go_num,by unfold Hid;rw[ST.out];unfold Ln.okB;rw[decide_eq_true_eq];omega⟩
      case measure=>simp[intOf];omega
  ·obtain rfl:k=s.size:=by omega
   have LD3:Hid (Ln.lines s=if 1000 < (Ln.go s s.size 0 0).length then ([],10) else (Ln.go s s.size 0 0,0)):=by unfold Hid;rw[LD2.out,if_neg (by rw[HG.out];simp)]
   by_cases h0:s.size=0
   ·have e0:s=⟨#[]⟩:=ByteArray.ext (Array.toList_inj.1 (List.eq_nil_of_length_eq_zero (by rw[← Lib.size_eq];exact h0)));have q0:s.toList=[]:=(by rw[e0,Lib.toList_data]);have RQ:Hid (Ln.lines s=([],0)):=(by unfold Hid;rw[e0];rfl);clear LD2 LD3 HG hk qD e0;go_wp2
    go_ret2
    exact xS RQ.out
   ·have q0:s.toList.isEmpty=false:=by rw[List.isEmpty_eq_false_iff,Lib.toList_data];intro e;exact h0 (by rw[Lib.size_eq,e];rfl)
    have SPL:Hid (Calls Tryz.prog 86 #[.string ⟨(Lib.trimSuffix s.data.toList [10]).toArray⟩,.string ⟨#[10]⟩] w fun e w'=>e=.returned (.slice (some ⟨w.heap.size,0,none⟩) (Ln.go s s.size 0 0).length (Ln.go s s.size 0 0).length)∧w'=w.alloc (.cells ((Ln.go s s.size 0 0).map Value.string).toArray 9)):=by
     have hz:(⟨(Lib.trimSuffix s.data.toList [10]).toArray⟩:ByteArray).size < 4294967281:=by
      show(Lib.trimSuffix s.data.toList [10]).toArray.size < _
      rw[List.size_toArray]
      have h9:(Lib.trimSuffix s.data.toList [10]).length≤s.data.toList.length:=by
       unfold Lib.trimSuffix
       split
       ·rw[List.length_take];omega
       ·exact Nat.le_refl _
      have:=Lib.size_eq s;omega
     have h:=Tryz.strings_Split ⟨(Lib.trimSuffix s.data.toList [10]).toArray⟩ ⟨#[10]⟩ m w hz HM.out (by decide);have hlen:=Lib.splitB_all ⟨#[10]⟩ (by decide) 0 _ (⟨(Lib.trimSuffix s.data.toList [10]).toArray⟩:ByteArray) rfl;rw[Ln.split_go s h0] at h hlen;rw[← hlen] at h;exact h
    obtain⟨G,hG⟩:∃G,Ln.go s s.size 0 0=G:=⟨_,rfl⟩;rw[hG] at LD3 SPL;clear LD2 HG hG hk qD h0;have TS:=hid (Tryz.strings_TrimSuffix s ⟨#[10]⟩ w hs)
    go_upto_region 12 with (first
     | (go_at_call 87;refine TS.out.mono ?_;rintro e w1 ⟨rfl,rfl⟩)
     | (go_at_call 86;refine SPL.out.mono ?_;rintro e w2 ⟨rfl,rfl⟩))
    by_cases hb:1000 < G.length
    ·have hb1:(1000:Int) < (G.length:Int):=by omega
     have RQ:Hid (Ln.lines s=([],10)):=(by unfold Hid;rw[LD3.out,if_pos hb]);go_wp2
     go_ret2
     exact⟨.slice none 0 0,by rw[RQ.out];rfl,by rw[RQ.out];exact⟨0,0,fun _=>trivial,by simp,.inl ⟨rfl,rfl⟩⟩,ba1⟩
    ·have hb1:¬(1000:Int) < (G.length:Int):=by omega
     have RQ:Hid (Ln.lines s=(G,0)):=by unfold Hid;rw[LD3.out,if_neg hb]
     have CG:Hid (∀i l,G[i]?=some l→(w1.alloc (.cells (G.map Value.string).toArray 9)).cell? ⟨w1.heap.size,i,none⟩=some (.string l)):=fun i l h=>by
      rw[World.cell?_alloc_new,List.getElem?_toArray,List.getElem?_map,h];rfl
     go_wp2
     go_ret2
     exact⟨.slice (some ⟨w1.heap.size,0,none⟩) G.length G.length,by rw[RQ.out];rfl,by rw[RQ.out];exact⟨w1.heap.size,G.length,fun _=>trivial,by simp;omega,.inr ⟨rfl,by simp,CG.out⟩⟩,ba1⟩
theorem PgV.leave{w w2:World}{bs cb mb n rb b0:Nat}{c:Pc.PC}{vs:Fin 6→Value}{D:Six}(h:PgV w bs cb mb n c vs D)(hr:∀i s,w.cell? ⟨rb,i,none⟩≠some (.string s))(hl:rb < bs)(hb:b0≤bs)(hk:KpX (fun k=>k=rb) w w2)(nb:Pc.NumB c)(ln:Pc.cnt c≤1000):PcD w2 b0 c vs D:=by
 have R:RwF w (fun k=>k=rb) bs (yf vs D):=⟨h.rows.ow,h.rows.ne,fun i x hx=>⟨(h.rows.ch i x hx).1,by
  have q1:=(h.rows.ch i x hx).2;have q2:=Vs (h.rows.ch i x hx).1.2 hr;exact(Um q1 q2).mono fun g q=>⟨q.2,q.1.2⟩⟩,fun k e=>by rw[e];exact hl⟩
 have R2:=R.kpx hk;exact⟨⟨fun i=>(R2.ow i).mono hb,R2.ne,fun i x hx=>⟨(R2.ch i x hx).1,(R2.ch i x hx).2.mono fun g q=>⟨fun f=>f,q.2⟩⟩,fun k f=>f.elim⟩,h.ecs,h.ers,h.eos,h.ecr,h.els,h.efs,h.ok,nb,ln⟩
theorem YP(w1:World):PgV ((w1.alloc (.map #[] 0)).alloc (.cells #[.int .i64 0,.int .i64 0,.int .i64 0,.int .i64 1440,.int .i64 2880,.int .i64 0,.int .i64 0,.slice none 0 0,.slice none 0 0,.slice none 0 0,.slice none 0 0,.slice none 0 0,.slice none 0 0,.int .i64 0,.map (some w1.heap.size)] 78)) (w1.heap.size+2) (w1.heap.size+1) w1.heap.size 0 Pc.pc0 vz dz:=by
 have e0:∀i,yf vz dz i=⟨(yf vz dz i).T,(yf vz dz i).s,.slice none 0 0,0,[],[]⟩:=by
  intro i
  match i with
  | 0=>rfl
  | 1=>rfl
  | 2=>rfl
  | 3=>rfl
  | 4=>rfl
  | 5=>rfl
 refine⟨?_,?_,⟨fun i=>?_,fun i j _ g e=>?_,fun i x hx=>?_,fun k hk=>?_⟩,rfl,rfl,rfl,rfl,rfl,rfl,?_,by omega⟩
 ·constructor
  all_goals first
   | (simp[go_sem,Pc.pc0,vz];done)
   | (intro i hi;obtain⟨k,rfl⟩:∃k,i=k+15:=⟨i - 15,by omega⟩;simp[go_sem];done)
   | (simp;done)
 ·have h0:SS (w1.alloc (.map #[] 0)) w1.heap.size []:=SetM.start _ _ _ _ _;exact⟨[],SetM.next h0 ba1,Nat.le_refl _,fun i s _=>by simp[yr,Pc.pc0]⟩
 ·rw[e0 i];exact World.ownsRow_nil _ _ _ _
 ·rw[e0 i] at e;cases e
 ·rw[e0 i] at hx;cases hx
 ·rcases hk with rfl|rfl<;>omega
 ·exact⟨fun x hx=>(by cases hx),fun x hx=>(by cases hx),fun x hx=>(by cases hx),fun x hx=>(by cases hx),fun x hx=>(by cases hx),fun x hx=>(by cases hx)⟩
theorem YN(s:ByteArray)(m:Int)(w:World)(hs:s.size≤9223372036854775807)(hm:w.cell? ⟨0,0,none⟩=some (.int .i64 m)) :
 Calls Tryz.prog 17 #[.string s] w (VI s w):=by
 have LSZ:=hid (QB s hs);have LLN:=hid (YY s);have RD:Hid (Pc.readT s=if (Ln.lines s).2≠0 then (Pc.pc0,0,(Ln.lines s).2) else Pc.linesT Pc.pc0 0 (Ln.lines s).1):=rfl;obtain⟨R,hR⟩:∃z,Pc.readT s=z:=⟨_,rfl⟩;have RES:Hid (∀e w',VI s w e w'↔(Below w.heap.size w w'∧
 (R.2.2≠0∧e=.returned (.tuple #[Kw Pc.pcz vz,.int .i64 R.2.1,.int .i64 R.2.2])∨
  R.2.2=0∧∃vs D,PcD w' w.heap.size R.1 vs D∧
   (yj (us R.1 D)≠0∧e=.returned (.tuple #[Kw Pc.pcz vz,.int .i64 0,.int .i64 (yj (us R.1 D))])∨
    yj (us R.1 D)=0∧e=.returned (.tuple #[Kw R.1 vs,.int .i64 0,.int .i64 0]))))):=by
   intro e w';unfold VI;rw[hR]
 rw[hR] at RD;clear hR;have LP:Hid (∀wq,Below w.heap.size w wq→Calls Tryz.prog 37 #[.string s] wq (LnT s wq)):=fun wq hb=>Qr s m wq hs (qa hm hb);clear hm;go_enter Tryz.func17,Tryz.ntmps17;go_upto_region 1 with (fail)
 have Z0:PcB (w.alloc (.cells #[.int .i64 0,.int .i64 0,.int .i64 0,.int .i64 0,.int .i64 0,.int .i64 0,.int .i64 0,.slice none 0 0,.slice none 0 0,.slice none 0 0,.slice none 0 0,.slice none 0 0,.slice none 0 0,.int .i64 0] 43)) w.heap.size Pc.pcz vz:=by
  constructor
  all_goals first
   | (simp[go_sem,Pc.pcz,vz];done)
   | (intro i hi;obtain⟨k,rfl⟩:∃k,i=k+14:=⟨i - 14,by omega⟩;simp[go_sem];done)
   | (simp;done)
 have B0:Hid (Below w.heap.size w (w.alloc (.cells #[.int .i64 0,.int .i64 0,.int .i64 0,.int .i64 0,.int .i64 0,.int .i64 0,.int .i64 0,.slice none 0 0,.slice none 0 0,.slice none 0 0,.slice none 0 0,.slice none 0 0,.slice none 0 0,.int .i64 0] 43))):=ba1;have S0:Hid ((w.alloc (.cells #[.int .i64 0,.int .i64 0,.int .i64 0,.int .i64 0,.int .i64 0,.int .i64 0,.int .i64 0,.slice none 0 0,.slice none 0 0,.slice none 0 0,.slice none 0 0,.slice none 0 0,.slice none 0 0,.int .i64 0] 43)).heap.size=w.heap.size+1):=by unfold Hid;simp
 generalize w.alloc (.cells #[.int .i64 0,.int .i64 0,.int .i64 0,.int .i64 0,.int .i64 0,.int .i64 0,.int .i64 0,.slice none 0 0,.slice none 0 0,.slice none 0 0,.slice none 0 0,.slice none 0 0,.slice none 0 0,.int .i64 0] 43)=w0 at *;go_upto_region 2 with (go_at_call 37;refine(LP.out _ B0.out).mono ?_;rintro e w1 ⟨v1,rfl,ho,hb⟩;have L1:=hid ho;have HB:=hid hb;clear ho hb);have Z1:=hid (Z0.next HB.out);have B1:=hid (B0.out.trans (HB.out.mono B0.out.size));clear Z0 B0 HB LP;obtain⟨G,E0,hG⟩:∃G E0,Ln.lines s=(G,E0):=⟨_,_,rfl⟩;rw[hG] at LSZ LLN RD L1;rw[hG];clear hG;dsimp only at LSZ LLN RD L1 ⊢
 by_cases h0:E0=0
 case neg =>
  have RQ:Hid (R=(Pc.pc0,0,E0)):=by unfold Hid;rw[RD.out,if_pos h0]
  have b0:(E0 != 0)=true:=by simp[h0]
  have H0:=hid h0;clear h0;obtain⟨z0,z1,z2,z3,z4,z5,z6,z7,z8,z9,z10,z11,z12,z13,zf0,zf1,zf2,zf3,zf4,zf5,zf6,zf7,zf8,zf9,zf10,zf11,zf12,zf13,zn,zl⟩:=Z1.out;go_wp2;refine bodyPost_ret (v:=.tuple #[.agg #[.int .i64 0,.int .i64 0,.int .i64 0,.int .i64 0,.int .i64 0,.int .i64 0,.int .i64 0,.slice none 0 0,.slice none 0 0,.slice none 0 0,.slice none 0 0,.slice none 0 0,.slice none 0 0,.int .i64 0],.int .i64 0,.int .i64 E0]) ?_ rfl ?_
  ·rw[yz rfl];go_simp
  ·rw [RES.out];refine⟨?_,.inl ⟨by rw[RQ.out];exact H0.out,by rw[RQ.out];rfl⟩⟩
   repeat (refine Below.setCell ?_ (by first|exact Nat.le_refl _|exact Nat.le_of_eq RBE.out.symm) _)
   exact B1.out
 subst h0;have RD2:Hid (R=Pc.linesT Pc.pc0 0 G):=by unfold Hid;rw[RD.out,if_neg (by simp)]
 clear RD;have HL:=hid (U9 L1.out);obtain⟨p1,k1,rfl,hl1⟩:=HL.out;clear HL L1;have HL:=hid hl1;clear hl1;have hmm:=@run_makeMap Tryz.prog;go_wp2_with fail;clear hmm;have P2:=hid (YP w1);have B2:Hid (Below w1.heap.size w1 ((w1.alloc (.map #[] 0)).alloc (.cells #[.int .i64 0,.int .i64 0,.int .i64 0,.int .i64 1440,.int .i64 2880,.int .i64 0,.int .i64 0,.slice none 0 0,.slice none 0 0,.slice none 0 0,.slice none 0 0,.slice none 0 0,.slice none 0 0,.int .i64 0,.map (some w1.heap.size)] 78))):=ba1.alloc (by simp) _;have S2:Hid (((w1.alloc (.map #[] 0)).alloc (.cells #[.int .i64 0,.int .i64 0,.int .i64 0,.int .i64 1440,.int .i64 2880,.int .i64 0,.int .i64 0,.slice none 0 0,.slice none 0 0,.slice none 0 0,.slice none 0 0,.slice none 0 0,.slice none 0 0,.int .i64 0,.map (some w1.heap.size)] 78)).heap.size=w1.heap.size+2):=by unfold Hid;simp
 generalize (w1.alloc (.map #[] 0)).alloc (.cells #[.int .i64 0,.int .i64 0,.int .i64 0,.int .i64 1440,.int .i64 2880,.int .i64 0,.int .i64 0,.slice none 0 0,.slice none 0 0,.slice none 0 0,.slice none 0 0,.slice none 0 0,.slice none 0 0,.int .i64 0,.map (some w1.heap.size)] 78)=w2 at *;have RB:Hid (w.heap.size < w1.heap.size):=Z1.out.lt;obtain⟨rb,hrb⟩:∃z,z=w.heap.size:=⟨_,rfl⟩;obtain⟨cb,hcb⟩:∃z,z=w1.heap.size:=⟨_,rfl⟩;have RBE:=hid hrb;have CBE:=hid hcb;rw[← hrb] at RB Z1 ⊢;rw[← hcb] at RB P2 B2 S2 ⊢;clear hrb hcb
 go_loopw [7,8,9,10,11,30] (fun _ _ _ _ _ i wr=>∃(k:Nat) (c:Pc.PC) (vs:Fin 6→Value) (D:Six),k≤G.length∧i=.int .i64 k∧Hid (PgV wr (cb+2) (cb+1) cb k c vs D∧R=Pc.linesT c k (G.drop k)∧Pc.cnt c≤k∧Pc.NumB c∧Below cb w1 wr∧cb+2≤wr.heap.size)) (fun _ _ _ _ _ i _=>G.length - (intOf i).toNat)
 case atStart=>exact⟨0,Pc.pc0,vz,dz,Nat.zero_le _,rfl,P2.out,RD2.out,Nat.le_refl _,Pc.numb0,B2.out,Nat.le_of_eq S2.out.symm⟩
 case round =>
  obtain⟨wp,hwp⟩:∃z,z=wr:=⟨_,rfl⟩;subst hwp;obtain⟨k,c,vs,D,hk,rfl,HR⟩:=hrel;have PV:=hid HR.out.1;have RQ:=hid HR.out.2.1;have CT:=hid HR.out.2.2.1;have NB:=hid HR.out.2.2.2.1;have BW:=hid HR.out.2.2.2.2.1;have SZ:=hid HR.out.2.2.2.2.2;clear HR P2 B2 S2 RD2
  by_cases qD:k < G.length
  ·have hi:(k:Int) < (G.length:Int):=by omega
   have hk1:k < 1000:=(by have:=LLN.out;omega);obtain⟨x,hx⟩:∃x,G[k]?=some x:=⟨_,List.getElem?_eq_getElem qD⟩;obtain⟨g,rfl,hg,hc⟩:=HL.out k x hx;have lc:wp.cell? ⟨g,k,none⟩=some (.string x):=(by rw[Below.cell BW.out (p:=⟨g,k,none⟩) (by rw[CBE.out];exact hg)];exact hc);have XS:=hid (LSZ.out x (List.mem_of_getElem? hx))
   have DR:Hid (G.drop k=x :: G.drop (k+1)):=by
    unfold Hid;obtain⟨h1,h2⟩:=List.getElem?_eq_some_iff.1 hx;rw[List.drop_eq_getElem_cons h1,h2]
   rw[DR.out] at RQ;clear hx hg hc DR;go_upto_region 10 with (go_at_call 28;refine(kg x wp XS.out).mono ?_;rintro e w3 ⟨v3,rfl,ht,hb⟩;have TK:=hid ht;have HB:=hid hb;clear ht hb);clear lc;have PV3:=hid (PV.out.next HB.out);have BW3:=hid (yp (BW.out.trans (HB.out.mono (by have:=SZ.out;omega))) (Nat.le_refl _));have SZ3:Hid (cb+2≤w3.heap.size):=Nat.le_trans SZ.out HB.out.size;have TV:=hid (jV x);have TL:=hid (va x);clear PV BW SZ HB;obtain⟨T,ta,te,hT⟩:∃T ta te,Tk.scanT x=(T,ta,te):=⟨_,_,_,rfl⟩;have HT:=hid hT;rw[hT] at TK TV TL ⊢;clear hT;dsimp only at TK TV TL ⊢
   obtain ⟨pt,ct,rfl⟩:∃p cap,v3=.slice p T.length cap:=by
    obtain⟨p,cap,h1,-⟩:=TK.out;exact⟨p,cap,h1⟩
   by_cases he:te=0
   case neg =>
    have b1:(te==0)=false:=(by simp[he]);have b2:(te != 0)=true:=(by simp[he]);have RQ2:Hid (R=(c,(k:Int)+1,te)):=(by unfold Hid;rw[RQ.out,vW (by rw[HT.out];exact he),HT.out]);have H0:=hid he;have Z3:=hid (Z1.out.of_block (BW3.out.block rb RB.out) (by have:=RBE.out;have:=CBE.out;have:=SZ3.out;omega));have B3:=hid (B1.out.trans (yp BW3.out (by have:=RBE.out;have:=RB.out;omega)));clear he;obtain⟨z0,z1,z2,z3,z4,z5,z6,z7,z8,z9,z10,z11,z12,z13,zf0,zf1,zf2,zf3,zf4,zf5,zf6,zf7,zf8,zf9,zf10,zf11,zf12,zf13,zn,zl⟩:=Z3.out;go_wp2;refine bodyPost_ret (v:=.tuple #[.agg #[.int .i64 0,.int .i64 0,.int .i64 0,.int .i64 0,.int .i64 0,.int .i64 0,.int .i64 0,.slice none 0 0,.slice none 0 0,.slice none 0 0,.slice none 0 0,.slice none 0 0,.slice none 0 0,.int .i64 0],.int .i64 ((k:Int)+1),.int .i64 te]) ?_ rfl ?_
    ·rw[yz rfl];go_simp
    ·rw [RES.out];refine⟨?_,.inl ⟨by rw[RQ2.out];exact H0.out,by rw[RQ2.out];rfl⟩⟩
     repeat (refine Below.setCell ?_ (by first|exact Nat.le_refl _|exact Nat.le_of_eq RBE.out.symm) _)
     exact B3.out
   subst he
   by_cases hn:T=[]
   ·subst hn;have RQ2:Hid (R=Pc.linesT c (k+1) (G.drop (k+1))):=(by unfold Hid;rw[RQ.out,vU (by rw[HT.out]) (by rw[HT.out])]);go_wp2_with fail
    go_roundw
    case rel=>exact⟨k+1,c,vs,D,by omega,by go_num,PV3.out.more (Nat.le_succ k),RQ2.out,Nat.le_succ_of_le CT.out,NB.out,BW3.out,SZ3.out⟩
    case measure=>simp[intOf];omega
   have hpos:0 < T.length:=List.length_pos_iff.2 hn;have hp1:(0:Int) < (T.length:Int):=(by omega);have HN:=hid hn;have hpos2:=hid hpos
   have DEQ:Hid (Pg.declQ c T=Pc.declT c T):=by
    obtain ⟨t,r,rfl⟩:∃t r,T=t :: r:=by
     cases T with
     | nil=>exact absurd rfl hn
     | cons t r=>exact⟨t,r,rfl⟩
    exact Pg.declQ_eq c t r (TV.out t (by simp))
   obtain ⟨tg,tO,rfl⟩:∃tg tO,pt=some ⟨tg,tO,none⟩:=by
    obtain⟨p',cap',e',-,-,h4⟩:=TK.out;injection e' with e1 e2 e3
    obtain⟨g',O',e5,-⟩:=h4 hn;exact⟨g',O',e1.trans e5⟩
   clear hn hpos;have DQ:=hid (xK (cb+2) (cb+1) cb k c vs D T tg tO ct w3 PV3.out TK.out TV.out (fun t ht=>Nat.le_trans (Qi (TV.out t ht)) (by decide)) hpos2.out TL.out SZ3.out (Nat.le_trans CT.out (by have:=LLN.out;omega)) (by have:=LLN.out;omega));rw[DEQ.out] at DQ;have DN:=hid (Pc.declT_cnt c T);have DB:=hid (Pc.declT_numb TV.out NB.out)
   have RQ3:Hid ((Pc.declT c T).2≠0→R=(c,(k:Int)+1,(Pc.declT c T).2)):=fun q=>by
    rw[RQ.out,vV (by rw[HT.out]) (by rw[HT.out];exact HN.out) (by rw[HT.out];exact q),HT.out]
   have RQ4:Hid ((Pc.declT c T).2=0→R=Pc.linesT (Pc.declT c T).1 (k+1) (G.drop (k+1))):=fun q=>by
    rw[RQ.out,YZ (by rw[HT.out]) (by rw[HT.out];exact HN.out) (by rw[HT.out];exact q),HT.out]
   clear RQ HT;generalize Pc.declT c T=d at *;obtain⟨d,de⟩:=d;dsimp only at DN DB RQ3 RQ4;go_upto_region 12 with (go_at_call 38;refine DQ.out.mono ?_;rintro e w4 ⟨rfl,h1,h2⟩;dsimp only at h1;have D1:=hid h1;have D2:=hid h2;clear h1 h2 DQ);have BD:Hid (Below cb w3 w4):=D2.out cb (by omega) (Nat.le_refl _) (by omega) (by have:=SZ3.out;omega);have BW4:=hid (BW3.out.trans BD.out);have SZ4:Hid (cb+2≤w4.heap.size):=Nat.le_trans SZ3.out BD.out.size;clear BW3 PV3 D2
   by_cases he:de=0
   case neg =>
    have b2:(de != 0)=true:=(by simp[he]);have RQ5:=hid (RQ3.out he);have H0:=hid he;have Z3:=hid (Z1.out.of_block (BW4.out.block rb RB.out) (by have:=RBE.out;have:=CBE.out;have:=SZ4.out;omega));have B3:=hid (B1.out.trans (yp BW4.out (by have:=RBE.out;have:=RB.out;omega)));clear he D1 RQ3 RQ4;obtain⟨z0,z1,z2,z3,z4,z5,z6,z7,z8,z9,z10,z11,z12,z13,zf0,zf1,zf2,zf3,zf4,zf5,zf6,zf7,zf8,zf9,zf10,zf11,zf12,zf13,zn,zl⟩:=Z3.out;go_wp2;refine bodyPost_ret (v:=.tuple #[.agg #[.int .i64 0,.int .i64 0,.int .i64 0,.int .i64 0,.int .i64 0,.int .i64 0,.int .i64 0,.slice none 0 0,.slice none 0 0,.slice none 0 0,.slice none 0 0,.slice none 0 0,.slice none 0 0,.int .i64 0],.int .i64 ((k:Int)+1),.int .i64 de]) ?_ rfl ?_
    ·rw[yz rfl];go_simp
    ·rw [RES.out];refine⟨?_,.inl ⟨by rw[RQ5.out];exact H0.out,by rw[RQ5.out];rfl⟩⟩
     repeat (refine Below.setCell ?_ (by first|exact Nat.le_refl _|exact Nat.le_of_eq RBE.out.symm) _)
     exact B3.out
   subst he;obtain⟨vs2,D2,P4⟩:=D1.out rfl;have P5:=hid P4;have RQ5:=hid (RQ4.out rfl);clear P4 D1 RQ3 RQ4;go_wp2_with fail
   go_roundw
   case rel=>exact⟨k+1,d,vs2,D2,by omega,by go_num,P5.out,RQ5.out,by have:=DN.out;have:=CT.out;omega,DB.out,BW4.out,SZ4.out⟩
   case measure=>simp[intOf];omega
  ·obtain rfl:k=G.length:=by omega
   have hi:¬(G.length:Int) < (G.length:Int):=(by omega);have RQ2:Hid (R=(c,0,0)):=(by unfold Hid;rw[RQ.out,List.drop_length];rfl);have CT1:Hid (Pc.cnt c≤1000):=Nat.le_trans CT.out LLN.out;clear RQ CT;have LN:=hid (xW PV.out);obtain⟨p,e0,e1,e2,e3,e4,e5,hv⟩:=Kn PV.out.rows PV.out.ok NB.out (by have:=LN.out;have:=CT1.out;omega);have HV:=hid hv
   have VQ:Hid (∀wq,CtV wq (us c D) p→Calls Tryz.prog 24 #[.agg #[.int .i64 c.rep,.int .i64 c.rel,.int .i64 c.con,.int .i64 c.sit,.int .i64 c.lay,.int .i64 c.nf,.int .i64 c.nt,.slice p.cs D.cs.length p.ccs,.slice p.rs D.rs.length p.crs,.slice p.os D.os.length p.cos,.slice p.cr D.cr.length p.ccr,.slice p.ls D.ls.length p.cls,.slice p.fs D.fs.length p.cfs,.int .i64 c.gua]] wq fun e w'=>e=.returned (.int .i64 (yj (us c D)))∧Below wq.heap.size wq w'):=fun wq h=>(by
    have q:=uh (us c D) p wq h;rw[show len (us c D).cr=D.cr.length from ql _] at q;exact q)
   have BX:=hid PV.out.box;have VS:=hid PV.out.vs;clear hv LN;obtain⟨c0,c1,c2,c3,c4,c5,c6,c7,c8,c9,c10,c11,c12,c13,c14,f0,f1,f2,f3,f4,f5,f6,f7,f8,f9,f10,f11,f12,f13,zn,zl⟩:=BX.out;rw[e0] at c7;rw[e1] at c8;rw[e2] at c9;rw[e3] at c10;rw[e4] at c11;rw[e5] at c12;go_upto_region 16 with (go_at_call 24;refine(VQ.out _ HV.out).mono ?_;rintro e w5 ⟨rfl,hb⟩;have HB:=hid hb;clear hb VQ);clear c0 f0 c1 f1 c2 f2 c3 f3 c4 f4 c5 f5 c6 f6 c7 f7 c8 f8 c9 f9 c10 f10 c11 f11 c12 f12 c13 f13 c14 zn zl;have P5:=hid (PV.out.next HB.out);have BW5:=hid (BW.out.trans (HB.out.mono (by have:=SZ.out;omega)));have SZ5:Hid (cb+2≤w5.heap.size):=Nat.le_trans SZ.out HB.out.size;have Z3:=hid (Z1.out.of_block (BW5.out.block rb RB.out) (by have:=RBE.out;have:=CBE.out;have:=SZ5.out;omega));have B3:=hid (B1.out.trans (yp BW5.out (by have:=RBE.out;have:=RB.out;omega)));have RNS:=hid (UV Z3.out (fun _=>⟨_,_,_,rfl⟩));have PD:=hid (fun w6 hk=>PgV.leave (b0:=rb) (w2:=w6) P5.out RNS.out (by have:=RB.out;omega) (by have:=RB.out;omega) hk NB.out CT1.out);clear PV BW SZ HB HV;obtain⟨E1,hE1⟩:∃z,yj (us c D)=z:=⟨_,rfl⟩;have GE:=hid hE1;rw[hE1];clear hE1
   by_cases he:E1=0
   case neg =>
    have b2:(E1 != 0)=true:=(by simp[he]);have H0:=hid he;clear he e0 e1 e2 e3 e4 e5;obtain⟨z0,z1,z2,z3,z4,z5,z6,z7,z8,z9,z10,z11,z12,z13,zf0,zf1,zf2,zf3,zf4,zf5,zf6,zf7,zf8,zf9,zf10,zf11,zf12,zf13,zn,zl⟩:=Z3.out;go_wp2;refine bodyPost_ret (v:=.tuple #[.agg #[.int .i64 0,.int .i64 0,.int .i64 0,.int .i64 0,.int .i64 0,.int .i64 0,.int .i64 0,.slice none 0 0,.slice none 0 0,.slice none 0 0,.slice none 0 0,.slice none 0 0,.slice none 0 0,.int .i64 0],.int .i64 0,.int .i64 E1]) ?_ rfl ?_
    ·rw[yz rfl];go_simp
    ·rw [RES.out];refine⟨?_,.inr ⟨by rw[RQ2.out],vs,D,?_,.inl ⟨by rw[RQ2.out];dsimp only;rw[GE.out];exact H0.out,by rw[RQ2.out];dsimp only;rw[GE.out];rfl⟩⟩⟩
     repeat (refine Below.setCell ?_ (by first|exact Nat.le_refl _|exact Nat.le_of_eq RBE.out.symm) _)
     exact B3.out;rw[RQ2.out,← RBE.out];refine PD.out _ ?_
     repeat (refine KpX.setC ?_ (by exact rfl) _ _)
     exact KpX.refl _ _
   subst he;obtain⟨c0,c1,c2,c3,c4,c5,c6,c7,c8,c9,c10,c11,c12,c13,c14,f0,f1,f2,f3,f4,f5,f6,f7,f8,f9,f10,f11,f12,f13,bn,bl⟩:=P5.out.box;rw[e0] at c7;rw[e1] at c8;rw[e2] at c9;rw[e3] at c10;rw[e4] at c11;rw[e5] at c12;obtain⟨z0,z1,z2,z3,z4,z5,z6,z7,z8,z9,z10,z11,z12,z13,zf0,zf1,zf2,zf3,zf4,zf5,zf6,zf7,zf8,zf9,zf10,zf11,zf12,zf13,zn,zl⟩:=Z3.out;have ne1:¬cb+1=rb:=(by have:=RB.out;omega);have ne2:¬rb=cb+1:=(by have:=RB.out;omega);go_wp2;refine bodyPost_ret (v:=.tuple #[.agg #[.int .i64 c.rep,.int .i64 c.rel,.int .i64 c.con,.int .i64 c.sit,.int .i64 c.lay,.int .i64 c.nf,.int .i64 c.nt,.slice p.cs D.cs.length p.ccs,.slice p.rs D.rs.length p.crs,.slice p.os D.os.length p.cos,.slice p.cr D.cr.length p.ccr,.slice p.ls D.ls.length p.cls,.slice p.fs D.fs.length p.cfs,.int .i64 c.gua],.int .i64 0,.int .i64 0]) ?_ rfl ?_
   ·rw[yz rfl];go_simp
   ·rw [RES.out];refine⟨?_,.inr ⟨by rw[RQ2.out],vs,D,?_,.inr ⟨by rw[RQ2.out];exact GE.out,by rw[RQ2.out];unfold Kw;rw[e0,e1,e2,e3,e4,e5]⟩⟩⟩
    ·repeat (refine Below.setCell ?_ (by exact Nat.le_of_eq RBE.out.symm) _)
     exact B3.out
    ·rw [RQ2.out,← RBE.out];refine PD.out _ ?_
     repeat (refine KpX.setC ?_ (by exact rfl) _ _)
     exact KpX.refl _ _
end Go.Proofs.YtcejjdmnlejbaaaGreatDoor
