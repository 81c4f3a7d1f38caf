import Derived.Test.YtcejjdmnlejbaaaGreatDoorWKte
namespace Go.Proofs.YtcejjdmnlejbaaaGreatDoor
open Option.some(inj)
open Lib(hid)
set_option linter.unusedVariables false
set_option linter.unusedSimpArgs false
open Go.ChangeShapes Go.WideShapes Go.ChangeAt Go.RowKit
open Go.Deep (BT)
set_option maxHeartbeats 2000000
open Go
namespace Tk
def inW(c:UInt8):Bool:=decide ((97≤c.toNat∧c.toNat≤122)∨(48≤c.toNat∧c.toNat≤57)∨c.toNat=95∨c.toNat=46∨c.toNat=58∨c.toNat=64)
def inS(c:UInt8):Bool:=decide (c.toNat=43∨c.toNat=45∨c.toNat=42∨c.toNat=47∨c.toNat=40∨c.toNat=41∨c.toNat=44∨c.toNat=60∨c.toNat=61)
def has(l:List UInt8)(k:Nat):Bool:=l.any fun c=>decide (c.toNat=k)
structure T3 where
 kind:Int
 text:ByteArray
 num:Int
def numOk(l:List UInt8):Bool:=decide (1≤l.length∧l.length≤13∧Txt.allD l=true∧¬((l.getD 0 0).toNat=48∧1 < l.length)∧Txt.num l≤1099511627776)
def word(s:ByteArray):Option T3 :=
 if 97≤(s.data.toList.getD 0 0).toNat∧(s.data.toList.getD 0 0).toNat≤122 then (if 33 < s.size∨has s.data.toList 58=true∨has s.data.toList 64=true then none else some ⟨1,s,0⟩)
 else if (s.data.toList.getD 0 0).toNat=64 then (if vO (s.extract 1 s.size)=0 then some ⟨4,⟨#[]⟩,vN (s.extract 1 s.size)⟩ else none)
 else if has s.data.toList 58=true then (if Txt.duE s.data.toList=0 then some ⟨3,⟨#[]⟩,Txt.duV s.data.toList⟩ else none)
 else if numOk s.data.toList=true then some ⟨2,⟨#[]⟩,Txt.num s.data.toList⟩ else none
def sgn(l:List UInt8):Nat:=if (l.getD 0 0).toNat=60∧(l.getD 1 0).toNat=61 then 2 else if 1≤l.length∧inS (l.getD 0 0)=true then 1 else 0
def wl(l:List UInt8):Nat:=(l.takeWhile inW).length
def tokAt(s:ByteArray)(i:Nat):Option T3× Nat :=
 if inW (s.data.toList.getD i 0)=true then (word (s.extract i (i+wl (s.data.toList.drop i))),wl (s.data.toList.drop i))
 else (if sgn (s.data.toList.drop i)=0 then none else some ⟨5,s.extract i (i+sgn (s.data.toList.drop i)),0⟩,sgn (s.data.toList.drop i))
structure T4 where
 t:T3
 at':Int
def scan(s:ByteArray):Nat→Nat→List T4→List T4× Int× Int
 | 0,_,D=>(D,0,0)
 | n+1,i,D =>
   if s.size≤i then (D,0,0) else if (s.data.toList.getD i 0).toNat=35 then (D,0,0) else if (s.data.toList.getD i 0).toNat=32 then scan s n (i+1) D else
   match tokAt s i with
   | (none,_)=>([],i,1)
   | (some t,k)=>if D.length=400 then ([],i,10) else scan s n (i+k) (D++[⟨t,i⟩])
theorem wl_le(l:List UInt8):wl l≤l.length:=List.Sublist.length_le (List.takeWhile_sublist _)
theorem wl_pos(l:List UInt8)(h:inW (l.getD 0 0)=true)(hl:1≤l.length):1≤wl l:=by
 cases l with
 | nil=>simp at hl
 | cons c l =>
   have h':inW c=true:=(by simpa using h);unfold wl;rw[List.takeWhile_cons,if_pos h'];simp
theorem sgn_le(l:List UInt8):sgn l≤l.length:=by
 unfold sgn
 split
 ·rename_i h
  cases l with
  | nil=>simp at h
  | cons a l=>cases l with
    | nil=>simp at h
    | cons b l=>simp
 ·split
  ·rename_i h;exact h.1
  ·exact Nat.zero_le _
theorem getD_drop(l:List UInt8)(i:Nat):(l.drop i).getD 0 0=l.getD i 0:=by
 rw[List.getD_eq_getElem?_getD,List.getD_eq_getElem?_getD,List.getElem?_drop,Nat.add_zero]
theorem tok_len(s:ByteArray)(i:Nat)(hi:i < s.size)(t:T3)(k:Nat)(h:tokAt s i=(some t,k)):1≤k∧i+k≤s.size:=by
 have hl:s.data.toList.length=s.size:=Array.length_toList;unfold tokAt at h
 by_cases hw:inW (s.data.toList.getD i 0)=true
 ·rw [if_pos hw] at h;have e:=(Prod.mk.inj h).2;rw[← e];have h1:=wl_le (s.data.toList.drop i);rw[List.length_drop,hl] at h1;refine⟨wl_pos _ (by rw[getD_drop];exact hw) (by rw[List.length_drop,hl];omega),by omega⟩
 ·rw [if_neg hw] at h;obtain⟨e1,e2⟩:=Prod.mk.inj h;rw[← e2];have h1:=sgn_le (s.data.toList.drop i);rw[List.length_drop,hl] at h1
  by_cases q:sgn (s.data.toList.drop i)=0
  ·rw[if_pos q] at e1;cases e1
  ·exact⟨by omega,by omega⟩
theorem scan_more(s:ByteArray):∀(n m i:Nat)(D:List T4),s.size≤i+n→s.size≤i+m→scan s n i D=scan s m i D:=by
 intro n
 induction n with
 | zero =>
   intro m i D h1 h2;cases m with
   | zero=>rfl
   | succ m=>rw[scan,scan,if_pos (by omega)]
 | succ n ih =>
   intro m i D h1 h2
   by_cases hi:s.size≤i
   ·rw [scan,if_pos hi];cases m with
    | zero=>rw[scan]
    | succ m=>rw[scan,if_pos hi]
   ·cases m with
    | zero=>omega
    | succ m =>
      rw[scan,scan,if_neg hi,if_neg hi]
      split
      ·rfl
      ·split
       ·exact ih m (i+1) D (by omega) (by omega)
       ·cases hq:tokAt s i with
        | mk o k =>
          cases o with
          | none=>rfl
          | some t =>
            have hk:=tok_len s i (by omega) t k hq;dsimp only
            split
            ·rfl
            ·exact ih m (i+k) _ (by omega) (by omega)
def scanT(s:ByteArray):List T4× Int× Int:=scan s s.size 0 []
theorem scan_step(s:ByteArray)(i:Nat)(D:List T4)(hi:i < s.size):scan s (s.size - i) i D =
 if (s.data.toList.getD i 0).toNat=35 then (D,0,0) else if (s.data.toList.getD i 0).toNat=32 then scan s (s.size - (i+1)) (i+1) D else
 match tokAt s i with
 | (none,_)=>([],(i:Int),1)
 | (some t,k)=>if D.length=400 then ([],(i:Int),10) else scan s (s.size - (i+k)) (i+k) (D++[⟨t,i⟩]):=by
 obtain⟨n,hn⟩:∃n,s.size - i=n+1:=⟨s.size - i - 1,by omega⟩;rw[hn,scan,if_neg (by omega)]
 split
 ·rfl
 ·split
  ·exact scan_more s _ _ _ _ (by omega) (by omega)
  ·cases hq:tokAt s i with
   | mk o k =>
     cases o with
     | none=>rfl
     | some t =>
       have hk:=tok_len s i hi t k hq;dsimp only
       split
       ·rfl
       ·exact scan_more s _ _ _ _ (by omega) (by omega)
theorem scan_end(s:ByteArray)(i:Nat)(D:List T4)(hi:s.size≤i):scan s (s.size - i) i D=(D,0,0):=by
 rw[show s.size - i=0 by omega,scan]
end Tk
namespace Pz
def nrm:Fo→Fo
 | .nil=>.nil
 | .node _ _ a k r=>.node 0 0 ⟨a.op,a.num,a.name,none,0⟩ (nrm k) (nrm r)
def nr(c:Ch):Ch:=⟨0,0,⟨c.a.op,c.a.num,c.a.name,none,0⟩,nrm c.k⟩
def tn(op:Int)(l:List Ch):Ch:=⟨0,0,⟨op,0,⟨#[]⟩,none,0⟩,qC l⟩
def lf(op num:Int)(s:ByteArray):Ch:=⟨0,0,⟨op,num,s,none,0⟩,.nil⟩
theorem nrm_rowF(l:List Ch):nrm (qC l)=qC (l.map nr):=by
 induction l with
 | nil=>rfl
 | cons c l ih=>simp only[qC,nrm,List.map_cons,ih,nr]
def wImplies:ByteArray:=⟨#[105,109,112,108,105,101,115]⟩
def wOr:ByteArray:=⟨#[111,114]⟩
def wAnd:ByteArray:=⟨#[97,110,100]⟩
def wNot:ByteArray:=⟨#[110,111,116]⟩
def wLess:ByteArray:=⟨#[60]⟩
def wLeq:ByteArray:=⟨#[60,61]⟩
def wEq:ByteArray:=⟨#[61]⟩
def wIn:ByteArray:=⟨#[105,110]⟩
def wTo:ByteArray:=⟨#[116,111]⟩
def wPlus:ByteArray:=⟨#[43]⟩
def wMinus:ByteArray:=⟨#[45]⟩
def wStar:ByteArray:=⟨#[42]⟩
def wSlash:ByteArray:=⟨#[47]⟩
def wTrue:ByteArray:=⟨#[116,114,117,101]⟩
def wFalse:ByteArray:=⟨#[102,97,108,115,101]⟩
def wMin:ByteArray:=⟨#[109,105,110]⟩
def wMax:ByteArray:=⟨#[109,97,120]⟩
def wIf:ByteArray:=⟨#[105,102]⟩
def wThen:ByteArray:=⟨#[116,104,101,110]⟩
def wElse:ByteArray:=⟨#[101,108,115,101]⟩
def wOpen:ByteArray:=⟨#[40]⟩
def wShut:ByteArray:=⟨#[41]⟩
def wComma:ByteArray:=⟨#[44]⟩
abbrev R:=Option Ch× Nat
def isw(L:List Tk.T4)(i:Nat)(s:ByteArray):Bool:=match L[i]? with
 | some t=>(decide (t.t.kind=1) || decide (t.t.kind=5)) && decide (t.t.text.data.toList=s.data.toList)
 | none=>false
def leafT(t:Tk.T3):Option Ch :=
 if t.kind=2 then some (lf 1 t.num ⟨#[]⟩) else if t.kind=3 then some (lf 2 t.num ⟨#[]⟩) else if t.kind=4 then some (lf 3 t.num ⟨#[]⟩)
 else if t.kind=1 then (if zv t.text=true then some (lf 6 0 t.text) else none) else none
def leaf(L:List Tk.T4)(i:Nat):R:=match L[i]? with
 | some t=>(match leafT t.t with|some x=>(some x,i+1)|none=>(none,i))
 | none=>(none,i)
def bnd(r:R)(g:Ch→Nat→R):R:=match r with
 | (none,j)=>(none,j)
 | (some x,j)=>g x j
inductive NT where
 | ex|dj|djL (x:Ch)|cj|cjL (x:Ch)|ng|cm|bd (x:Ch)|sm|smL (x:Ch)|tm|tmL (x:Ch)|fc|li (op:Int)|liL (op:Int) (l:List Ch)
def step(L:List Tk.T4)(f:NT→Nat→R):NT→Nat→R
 | .ex,i=>bnd (f .dj i) fun x j=>if isw L j wImplies=true then bnd (f .ex (j+1)) fun y k=>(some (tn 22 [x,y]),k) else (some x,j)
 | .dj,i=>bnd (f .cj i) fun x j=>f (.djL x) j
 | .djL x,i=>if isw L i wOr=true then bnd (f .cj (i+1)) fun y j=>f (.djL (tn 21 [x,y])) j else (some x,i)
 | .cj,i=>bnd (f .ng i) fun x j=>f (.cjL x) j
 | .cjL x,i=>if isw L i wAnd=true then bnd (f .ng (i+1)) fun y j=>f (.cjL (tn 20 [x,y])) j else (some x,i)
 | .ng,i=>if isw L i wNot=true then bnd (f .ng (i+1)) fun x j=>(some (tn 19 [x]),j) else f .cm i
 | .cm,i=>bnd (f .sm i) fun x j =>
  if isw L j wLess=true then bnd (f .sm (j+1)) fun y k=>(some (tn 16 [x,y]),k)
  else if isw L j wLeq=true then bnd (f .sm (j+1)) fun y k=>(some (tn 17 [x,y]),k)
  else if isw L j wEq=true then bnd (f .sm (j+1)) fun y k=>(some (tn 18 [x,y]),k)
  else if isw L j wIn=true then f (.bd x) (j+1) else (some x,j)
 | .bd x,i=>bnd (f .sm i) fun y j=>if isw L j wTo=true then bnd (f .sm (j+1)) fun z k=>(some (tn 15 [x,y,z]),k) else (none,j)
 | .sm,i=>bnd (f .tm i) fun x j=>f (.smL x) j
 | .smL x,i=>if isw L i wPlus=true then bnd (f .tm (i+1)) fun y j=>f (.smL (tn 8 [x,y])) j
  else if isw L i wMinus=true then bnd (f .tm (i+1)) fun y j=>f (.smL (tn 9 [x,y])) j else (some x,i)
 | .tm,i=>bnd (f .fc i) fun x j=>f (.tmL x) j
 | .tmL x,i=>if isw L i wStar=true then bnd (f .fc (i+1)) fun y j=>f (.tmL (tn 10 [x,y])) j
  else if isw L i wSlash=true then bnd (f .fc (i+1)) fun y j=>f (.tmL (tn 11 [x,y])) j else (some x,i)
 | .fc,i =>
  if isw L i wMinus=true then bnd (f .fc (i+1)) fun x j=>(some (tn 7 [x]),j)
  else if isw L i wTrue=true then (some (lf 4 0 ⟨#[]⟩),i+1)
  else if isw L i wFalse=true then (some (lf 5 0 ⟨#[]⟩),i+1)
  else if isw L i wMin=true then f (.li 12) (i+1)
  else if isw L i wMax=true then f (.li 13) (i+1)
  else if isw L i wIf=true then bnd (f .ex (i+1)) fun a j=>if isw L j wThen=true then bnd (f .ex (j+1)) fun b k=>if isw L k wElse=true then bnd (f .ex (k+1)) fun c m=>(some (tn 14 [a,b,c]),m) else (none,k) else (none,j)
  else if isw L i wOpen=true then bnd (f .ex (i+1)) fun x j=>if isw L j wShut=true then (some x,j+1) else (none,j)
  else leaf L i
 | .li op,i=>if isw L i wOpen=true then f (.liL op []) (i+1) else (none,i)
 | .liL op l,i=>bnd (f .ex i) fun a j=>if 1≤l.length∧isw L j wShut=true then (some (tn op (l++[a])),j+1) else if isw L j wComma=true then f (.liL op (l++[a])) (j+1) else (none,j)
def pz(L:List Tk.T4):Nat→NT→Nat→R
 | 0,_,i=>(none,i)
 | n+1,nt,i=>step L (pz L n) nt i
def rk:NT→Nat
 | .djL _=>0|.cjL _=>0|.smL _=>0|.tmL _=>0|.fc=>1|.li _=>0|.tm=>2|.sm=>3|.bd _=>4|.cm=>5|.ng=>6|.cj=>7|.dj=>8|.ex=>9|.liL _ _=>10
def ps:NT→Nat
 | .djL _=>0|.cjL _=>0|.smL _=>0|.tmL _=>0|_=>1
def need(L:List Tk.T4)(nt:NT)(i:Nat):Nat:=12 * (L.length - i)+rk nt
theorem isw_lt{L:List Tk.T4}{i:Nat}{s:ByteArray}(h:isw L i s=true):i < L.length:=by
 unfold isw at h
 split at h
 ·rename_i t ht;exact(List.getElem?_eq_some_iff.1 ht).1
 ·cases h
def Ok(L:List Tk.T4)(i:Nat)(r:R)(q:Nat):Prop:=i≤r.2∧r.2≤L.length∧(r.1.isSome=true→i+q≤r.2)
theorem Ok.weak{L:List Tk.T4}{i i':Nat}{r:R}{q q':Nat}(h:Ok L i r q)(h1:i'≤i)(h2:i'+q'≤i+q):Ok L i' r q':=⟨Nat.le_trans h1 h.1,h.2.1,fun s=>Nat.le_trans h2 (h.2.2 s)⟩
theorem ok_none{L:List Tk.T4}{i j q:Nat}(h1:i≤j)(h2:j≤L.length):Ok L i (none,j) q:=⟨h1,h2,fun h=>by cases h⟩
theorem ok_some{L:List Tk.T4}{i j q:Nat}{x:Ch}(h1:i+q≤j)(h2:j≤L.length):Ok L i (some x,j) q:=⟨by show i≤j;omega,h2,fun _=>h1⟩
theorem bnd_ok{L:List Tk.T4}{i p q:Nat}{r:R}{g:Ch→Nat→R}(hr:Ok L i r p)(hg:∀x j,r=(some x,j)→i+p≤j→j≤L.length→Ok L i (g x j) q):Ok L i (bnd r g) q:=by
 obtain⟨o,j⟩:=r;cases o with
 | none=>exact⟨hr.1,hr.2.1,fun h=>by cases h⟩
 | some x=>exact hg x j rfl (hr.2.2 rfl) hr.2.1
theorem bnd_cg{L:List Tk.T4}{i p:Nat}{r r':R}{g g':Ch→Nat→R}(hr:Ok L i r p)(e:r=r')(hg:∀x j,r=(some x,j)→i+p≤j→j≤L.length→g x j=g' x j):bnd r g=bnd r' g':=by
 subst e;obtain⟨o,j⟩:=r;cases o with
 | none=>rfl
 | some x=>exact hg x j rfl (hr.2.2 rfl) hr.2.1
theorem if_cg{c:Prop} [Decidable c]{a a' b b':R}(h:c→a=a')(k:¬c→b=b'):(if c then a else b)=if c then a' else b':=by
 by_cases q:c
 ·rw[if_pos q,if_pos q];exact h q
 ·rw[if_neg q,if_neg q];exact k q
theorem if_ok{L:List Tk.T4}{i q:Nat}{c:Prop} [Decidable c]{a b:R}(h:c→Ok L i a q)(k:¬c→Ok L i b q):Ok L i (if c then a else b) q:=by
 by_cases s:c
 ·rw[if_pos s];exact h s
 ·rw[if_neg s];exact k s
theorem leaf_ok{L:List Tk.T4}{i:Nat}(hi:i≤L.length):Ok L i (leaf L i) 1:=by
 unfold leaf
 split
 ·rename_i t ht
  have hl:=(List.getElem?_eq_some_iff.1 ht).1
  split
  ·exact ok_some (by omega) (by omega)
  ·exact ok_none (by omega) (by omega)
 ·exact ok_none (by omega) (by omega)
def Adv(L:List Tk.T4)(f:NT→Nat→R):Prop:=∀nt i,i≤L.length→Ok L i (f nt i) (ps nt)
theorem step_adv{L:List Tk.T4}{f:NT→Nat→R}(hf:Adv L f):Adv L (step L f):=by
 intro nt i hi;have one:∀nt i,i≤L.length→ps nt=1→Ok L i (f nt i) 1:=fun nt i h e=>by have:=hf nt i h;rwa [e] at this
 have zero:∀nt i,i≤L.length→Ok L i (f nt i) 0:=fun nt i h=>(hf nt i h).weak (Nat.le_refl _) (by omega);cases nt
 all_goals
  unfold step;dsimp only[ps]
  repeat' (first
   | (refine if_ok (fun hw=>?_) (fun hw=>?_);(try have hl:=isw_lt hw);(try have hl:=isw_lt hw.2);clear hw)
   | (refine bnd_ok (p:=1) ((one _ _ (by omega) rfl).weak (by omega) (by omega)) fun x j hr h1 h2=>?_;clear hr)
   | exact ok_none (by omega) (by omega)
   | exact ok_some (by omega) (by omega)
   | exact leaf_ok hi
   | exact(one _ _ (by omega) rfl).weak (by omega) (by omega)
   | exact(zero _ _ (by omega)).weak (by omega) (by omega))
theorem pz_adv(L:List Tk.T4):∀n,Adv L (pz L n)
 | 0=>fun nt i hi=>ok_none (Nat.le_refl _) hi
 | n+1=>step_adv (pz_adv L n)
theorem step_congr{L:List Tk.T4}{f g:NT→Nat→R}(hf:Adv L f)(nt:NT)(i:Nat)(hi:i≤L.length)(h:∀nt' i',i'≤L.length→need L nt' i' < need L nt i→f nt' i'=g nt' i'):step L f nt i=step L g nt i:=by
 have one:∀nt i,i≤L.length→ps nt=1→Ok L i (f nt i) 1:=fun nt i h e=>by have:=hf nt i h;rwa [e] at this
 cases nt
 all_goals
  unfold need at h;dsimp only[rk] at h;unfold step;dsimp only
  repeat' (first
   | rfl
   | (refine if_cg (fun hw=>?_) (fun hw=>?_);(try have hl:=isw_lt hw);(try have hl:=isw_lt hw.2);clear hw)
   | (refine bnd_cg (p:=1) (one _ _ (by omega) rfl) (h _ _ (by omega) (by dsimp only[rk];omega)) fun x j hr h1 h2=>?_;clear hr)
   | exact h _ _ (by omega) (by dsimp only[rk];omega))
theorem pz_more(L:List Tk.T4):∀n m nt i,i≤L.length→need L nt i < n→need L nt i < m→pz L n nt i=pz L m nt i:=by
 intro n
 induction n with
 | zero=>intro m nt i _ h;omega
 | succ n ih =>
   intro m nt i hi h1 h2;cases m with
   | zero=>omega
   | succ m=>exact step_congr (pz_adv L n) nt i hi fun nt' i' h' hn=>ih m nt' i' h' (by omega) (by omega)
def pv(L:List Tk.T4)(nt:NT)(i:Nat):R:=pz L (12 * L.length+20) nt i
theorem rk_le(nt:NT):rk nt≤10:=by cases nt<;>simp[rk]
theorem pv_step(L:List Tk.T4)(nt:NT)(i:Nat)(hi:i≤L.length):pv L nt i=step L (pv L) nt i:=by
 have hr:=rk_le nt;have h:need L nt i < 12 * L.length+20:=by unfold need;omega
 exact pz_more L (12 * L.length+20) (12 * L.length+20+1) nt i hi h (by omega)
theorem pv_adv(L:List Tk.T4):Adv L (pv L):=pz_adv L _
end Pz
def jC(c:Int):Bool:=decide ((97≤c∧c≤122)∨(48≤c∧c≤57)∨c=95∨c=46∨c=58∨c=64)
theorem jl(c:UInt8):jC (c.toNat:Int)=Tk.inW c:=by
 unfold jC Tk.inW
 congr 1
 apply propext;omega
theorem jN(c:Int)(w:World):Calls Tryz.prog 66 #[.int .u8 c] w fun e w'=>e=.returned (.bool (jC c))∧w=w':=by
 obtain⟨R,hR⟩:∃R,R=jC c:=⟨_,rfl⟩;rw[← hR];have HR:=hid hR;clear hR;go_enter Tryz.func66,Tryz.ntmps66
 by_cases h1:97≤c∧c≤122
 ·obtain ⟨a1,a2⟩:=h1;have RQ:Hid (R=true):=(by unfold Hid;rw[HR.out];unfold jC;rw[decide_eq_true_eq];omega);go_wp2;go_ret;exact⟨qS RQ.out.symm,rfl⟩
 ·by_cases h2:48≤c∧c≤57
  ·obtain ⟨a1,a2⟩:=h2;have n1:¬ 97≤c:=(by omega);have RQ:Hid (R=true):=(by unfold Hid;rw[HR.out];unfold jC;rw[decide_eq_true_eq];omega);clear h1;go_wp2;go_ret;exact⟨qS RQ.out.symm,rfl⟩
  ·have RQ:Hid (R=((c==95) || (c==46) || (c==58) || (c==64))):=by
    unfold Hid;rw[HR.out];unfold jC;rw[Bool.eq_iff_iff];simp only[decide_eq_true_eq,Bool.or_eq_true,beq_iff_eq];omega
   have H1:=hid h1;have H2:=hid h2;clear h1 h2
   by_cases k1:97≤c
   ·have k2:¬c≤122:=fun q=>H1.out ⟨k1,q⟩;have k3:48≤c:=(by omega);have k4:¬c≤57:=(by omega);cases e1:(c==95)<;>cases e2:(c==46)<;>cases e3:(c==58)<;>cases e4:(c==64)<;>(rw[e1,e2,e3,e4] at RQ)<;>(go_wp2;go_ret;exact⟨qS RQ.out.symm,rfl⟩)
   ·by_cases k3:48≤c
    ·have k4:¬c≤57:=fun q=>H2.out ⟨k3,q⟩;cases e1:(c==95)<;>cases e2:(c==46)<;>cases e3:(c==58)<;>cases e4:(c==64)<;>(rw[e1,e2,e3,e4] at RQ)<;>(go_wp2;go_ret;exact⟨qS RQ.out.symm,rfl⟩)
    ·cases e1:(c==95)<;>cases e2:(c==46)<;>cases e3:(c==58)<;>cases e4:(c==64)<;>(rw[e1,e2,e3,e4] at RQ)<;>(go_wp2;go_ret;exact⟨qS RQ.out.symm,rfl⟩)
theorem jg(c:Int)(w:World):Calls Tryz.prog 72 #[.int .u8 c] w fun e w'=>e=.returned (.bool (jC c))∧w=w':=by
 obtain⟨R,hR⟩:∃R,R=jC c:=⟨_,rfl⟩;rw[← hR];have HR:=hid hR;clear hR;go_enter Tryz.func72,Tryz.ntmps72
 by_cases h1:97≤c∧c≤122
 ·obtain ⟨a1,a2⟩:=h1;have RQ:Hid (R=true):=(by unfold Hid;rw[HR.out];unfold jC;rw[decide_eq_true_eq];omega);go_wp2;go_ret;exact⟨qS RQ.out.symm,rfl⟩
 ·by_cases h2:48≤c∧c≤57
  ·obtain ⟨a1,a2⟩:=h2;have n1:¬ 97≤c:=(by omega);have RQ:Hid (R=true):=(by unfold Hid;rw[HR.out];unfold jC;rw[decide_eq_true_eq];omega);clear h1;go_wp2;go_ret;exact⟨qS RQ.out.symm,rfl⟩
  ·have RQ:Hid (R=((c==95) || (c==46) || (c==58) || (c==64))):=by
    unfold Hid;rw[HR.out];unfold jC;rw[Bool.eq_iff_iff];simp only[decide_eq_true_eq,Bool.or_eq_true,beq_iff_eq];omega
   have H1:=hid h1;have H2:=hid h2;clear h1 h2
   by_cases k1:97≤c
   ·have k2:¬c≤122:=fun q=>H1.out ⟨k1,q⟩;have k3:48≤c:=(by omega);have k4:¬c≤57:=(by omega);cases e1:(c==95)<;>cases e2:(c==46)<;>cases e3:(c==58)<;>cases e4:(c==64)<;>(rw[e1,e2,e3,e4] at RQ)<;>(go_wp2;go_ret;exact⟨qS RQ.out.symm,rfl⟩)
   ·by_cases k3:48≤c
    ·have k4:¬c≤57:=fun q=>H2.out ⟨k3,q⟩;cases e1:(c==95)<;>cases e2:(c==46)<;>cases e3:(c==58)<;>cases e4:(c==64)<;>(rw[e1,e2,e3,e4] at RQ)<;>(go_wp2;go_ret;exact⟨qS RQ.out.symm,rfl⟩)
    ·cases e1:(c==95)<;>cases e2:(c==46)<;>cases e3:(c==58)<;>cases e4:(c==64)<;>(rw[e1,e2,e3,e4] at RQ)<;>(go_wp2;go_ret;exact⟨qS RQ.out.symm,rfl⟩)
theorem K7(l:List UInt8)(c:UInt8)(k:Nat)(h:k < l.length)(hn:∀x∈ l.take k,x≠c) :
 (l.getD k 0=c→Lib.indexByte l c=k)∧(l.getD k 0≠c→∀x∈ l.take (k+1),x≠c):=by
 have hd:l.getD k 0=l[k]:=by rw[List.getD_eq_getElem?_getD,List.getElem?_eq_getElem h];rfl
 rw[hd];constructor
 ·intro e;refine(Txt.ix_some l c k).2 ⟨⟨l.drop (k+1),?_⟩,h,hn⟩;rw[← e,← List.drop_eq_getElem_cons h,List.take_append_drop]
 ·intro e x hx;rw[List.take_succ_eq_append_getElem h] at hx;rcases List.mem_append.1 hx with hx|hx
  ·exact hn x hx
  ·rw[List.mem_singleton.1 hx];exact e
theorem kC(s:ByteArray)(c:UInt8)(w:World)(hs:s.size≤9223372036854775807) :
 Calls Tryz.prog 120 #[.string s,.int .u8 c.toNat] w fun e w'=>e=.returned (.int .i64 (Lib.indexByte s.data.toList c))∧w=w':=by
 go_enter Tryz.func120,Tryz.ntmps120;go_wp2_with fail
 go_loop [5] (fun i=>∃k:Nat,k≤s.size∧i=.int .i64 k∧Hid (∀x∈ s.data.toList.take k,x≠c)) (fun i=>s.size - (intOf i).toNat)
 case atStart=>exact⟨0,by omega,rfl,by intro x hx;simp at hx⟩
 case round =>
  obtain⟨k,hk,rfl,HR⟩:=hrel
  by_cases qD:k < s.size
  ·have hst:=K7 s.data.toList c k (by rw[qe];exact qD) HR.out;rw[qR s k qD] at hst;have ST:=hid hst;clear hst;have hi:(k:Int) < (s.size:Int):=by omega
   by_cases he:s[k]=c
   ·have hb:((s[k].toNat:Int)==(c.toNat:Int))=true:=by rw[he];simp
    have V:=hid (ST.out.1 he);clear he;go_wp2;go_ret;exact⟨ud V.out.symm,rfl⟩
   ·have hb:((s[k].toNat:Int)==(c.toNat:Int))=false:=by
     have:s[k].toNat≠c.toNat:=fun q=>he (UInt8.toNat_inj.1 q);simp;omega
    have V:=hid (ST.out.2 he);clear he;go_wp2
    go_round
    case rel=>exact⟨k+1,by omega,by go_num,V.out⟩
    case measure=>simp[intOf];omega
  ·have V:Hid (Lib.indexByte s.data.toList c = -1):=by
    have:=HR.out;rw[List.take_of_length_le (by rw[qe];omega)] at this;exact(Txt.ix_none _ _).2 this
   go_wp2;go_ret;exact⟨ud V.out.symm,rfl⟩
theorem Kc(c:UInt8):decide (0≤Lib.indexByte [43,45,42,47,40,41,44,60,61] c)=Tk.inS c:=by
 have h1:=Txt.ix_none [43,45,42,47,40,41,44,60,61] c;have h2:=Txt.ix_ge [43,45,42,47,40,41,44,60,61] c;unfold Tk.inS;rw[Bool.eq_iff_iff];simp only[decide_eq_true_eq]
 have h3:0≤Lib.indexByte [43,45,42,47,40,41,44,60,61] c↔¬∀x∈ ([43,45,42,47,40,41,44,60,61]:List UInt8),x≠c:=by
  rw[← h1];omega
 rw[h3];simp only[List.mem_cons,List.not_mem_nil,or_false,forall_eq_or_imp,forall_eq];have e:∀k:UInt8,k≠c↔¬c.toNat=k.toNat:=fun k=>⟨fun h q=>h (UInt8.toNat_inj.1 q.symm),fun h q=>h (by rw[q])⟩;simp only[e];have:(43:UInt8).toNat=43∧(45:UInt8).toNat=45∧(42:UInt8).toNat=42∧(47:UInt8).toNat=47∧(40:UInt8).toNat=40∧(41:UInt8).toNat=41∧(44:UInt8).toNat=44∧(60:UInt8).toNat=60∧(61:UInt8).toNat=61:=by decide
 obtain⟨e1,e2,e3,e4,e5,e6,e7,e8,e9⟩:=this;rw[e1,e2,e3,e4,e5,e6,e7,e8,e9];omega
theorem uZ(l:List UInt8):Lib.hasPrefix l [60,61]=decide ((l.getD 0 0).toNat=60∧(l.getD 1 0).toNat=61):=by
 unfold Lib.hasPrefix
 match l with
 | []=>rfl
 | [a]=>simp[List.isPrefixOf]
 | a :: b :: l =>
   simp only[List.isPrefixOf,List.getD_cons_zero,List.getD_cons_succ];rw[Bool.eq_iff_iff];simp only[Bool.and_eq_true,beq_iff_eq,decide_eq_true_eq,and_true];constructor
   ·rintro ⟨h1,h2⟩;rw[← h1,← h2];exact⟨rfl,rfl⟩
   ·rintro ⟨h1,h2⟩;exact⟨(UInt8.toNat_inj.1 h1).symm,(UInt8.toNat_inj.1 h2).symm⟩
namespace Tk
theorem wl_cons(c:UInt8)(l:List UInt8):wl (c :: l)=if inW c=true then wl l+1 else 0:=by
 unfold wl;rw[List.takeWhile_cons]
 split<;>simp
theorem wl_step(l:List UInt8):∀j,j≤wl l→j < l.length→(inW (l.getD j 0)=true→j+1≤wl l)∧(inW (l.getD j 0)=false→wl l=j):=by
 induction l with
 | nil=>intro j _ h;simp at h
 | cons c l ih =>
   intro j hj hl;rw[wl_cons] at hj ⊢;cases j with
   | zero =>
     rw[List.getD_cons_zero];constructor
     ·intro h;rw[if_pos h];omega
     ·intro h;rw[h];rfl
   | succ j =>
     rw[List.getD_cons_succ]
     by_cases hc:inW c=true
     ·rw [if_pos hc] at hj ⊢;obtain⟨q1,q2⟩:=ih j (by omega) (by simpa using hl);exact⟨fun h=>by have:=q1 h;omega,fun h=>by rw[q2 h]⟩
     ·rw[if_neg hc] at hj;omega
theorem take_wl(l:List UInt8):l.take (wl l)=l.takeWhile inW:=by
 induction l with
 | nil=>rfl
 | cons c l ih =>
   rw[wl_cons,List.takeWhile_cons]
   split
   ·rw[List.take_succ_cons,ih]
   ·rfl
theorem word_bytes(s:ByteArray)(i:Nat):∀b∈ (s.extract i (i+wl (s.data.toList.drop i))).data.toList,inW b=true:=by
 intro b hb;rw[ext_list,List.drop_take,show i+wl (s.data.toList.drop i) - i=wl (s.data.toList.drop i) by omega,take_wl] at hb;exact List.all_eq_true.1 List.all_takeWhile b hb
end Tk
def jF(D:List Tk.T4):List Value:=D.flatMap fun t=>[.int .i64 t.t.kind,.string t.t.text,.int .i64 t.t.num,.int .i64 t.at']
theorem QW(D:List Tk.T4):(jF D).length=D.length * 4:=by
 induction D with
 | nil=>rfl
 | cons c l ih=>simp[jF] at *;omega
theorem kU(D:List Tk.T4)(t:Tk.T4):jF (D++[t])=jF D++[.int .i64 t.t.kind,.string t.t.text,.int .i64 t.t.num,.int .i64 t.at']:=by simp[jF]
theorem QY(D:List Tk.T4)(i:Nat)(t:Tk.T4)(h:D[i]?=some t):(jF D)[i * 4]?=some (.int .i64 t.t.kind)∧(jF D)[i * 4+1]?=some (.string t.t.text)∧(jF D)[i * 4+2]?=some (.int .i64 t.t.num)∧(jF D)[i * 4+3]?=some (.int .i64 t.at'):=by
 induction D generalizing i with
 | nil=>simp at h
 | cons c l ih =>
   have e:jF (c :: l)=[.int .i64 c.t.kind,.string c.t.text,.int .i64 c.t.num,.int .i64 c.at']++jF l:=(by simp[jF]);cases i with
   | zero=>simp at h;subst h;rw[e];exact⟨rfl,rfl,rfl,rfl⟩
   | succ i =>
     have:=ih i (by simpa using h);rw[e];refine⟨?_,?_,?_,?_⟩
     ·rw[show(i+1) * 4=4+i * 4 by omega,List.getElem?_append_right (by simp)];simpa using this.1
     ·rw[show(i+1) * 4+1=4+(i * 4+1) by omega,List.getElem?_append_right (by simp)];simpa using this.2.1
     ·rw[show(i+1) * 4+2=4+(i * 4+2) by omega,List.getElem?_append_right (by simp)];simpa using this.2.2.1
     ·rw[show(i+1) * 4+3=4+(i * 4+3) by omega,List.getElem?_append_right (by simp)];simpa using this.2.2.2
def TkAt(w:World)(D:List Tk.T4)(v:Value):Prop:=∃(p:Option Addr)(cap:Nat),v=.slice p D.length cap∧D.length≤cap∧D.length≤2932031007402∧(D≠[]→∃g O,p=some ⟨g,O,none⟩∧∀j u,(jF D)[j]?=some u→w.cell? ⟨g,O+j,none⟩=some u)
theorem TkAt.next{w w':World}{D:List Tk.T4}{v:Value}(h:TkAt w D v)(hb:Below w.heap.size w w'):TkAt w' D v:=by
 obtain⟨p,cap,h1,h2,h3,h4⟩:=h;refine⟨p,cap,h1,h2,h3,fun q=>?_⟩;obtain⟨g,O,e,hc⟩:=h4 q;refine⟨g,O,e,fun j u hu=>?_⟩;have:=hc j u hu;rw[hb.cell (block_lt_of_cell this)];exact this
theorem TkAt.get{w:World}{D:List Tk.T4}{p:Option Addr}{n cap:Nat}(h:TkAt w D (.slice p n cap)){i:Nat}{t:Tk.T4}(hi:D[i]?=some t):∃g O,p=some ⟨g,O,none⟩∧
 w.cell? ⟨g,O+i * 4,none⟩=some (.int .i64 t.t.kind)∧w.cell? ⟨g,O+i * 4+1,none⟩=some (.string t.t.text)∧w.cell? ⟨g,O+i * 4+2,none⟩=some (.int .i64 t.t.num)∧w.cell? ⟨g,O+i * 4+3,none⟩=some (.int .i64 t.at'):=by
 obtain⟨p',cap',h1,h2,h3,h4⟩:=h;obtain⟨g,O,e,hc⟩:=h4 (by intro q;rw[q] at hi;simp at hi);injection h1 with q1 q2 q3
 obtain⟨c0,c1,c2,c3⟩:=QY D i t hi;exact⟨g,O,q1.trans e,hc _ _ c0,by rw[Nat.add_assoc];exact hc _ _ c1,by rw[Nat.add_assoc];exact hc _ _ c2,by rw[Nat.add_assoc];exact hc _ _ c3⟩
theorem zS{w:World}{base n:Nat}{v:Value}{D:List Tk.T4}(h:w.ownsRow base 68 4 v n (jF D))(hn:n≤2932031007402):TkAt w D v:=by
 have hl:=h.1;rw[QW] at hl;have hl2:D.length=n:=by omega
 rcases h.2 with ⟨hv,h0⟩|⟨g,cap,cur,hv,hcap⟩
 ·obtain rfl:D=[]:=List.eq_nil_of_length_eq_zero (by omega);exact⟨none,0,hv,Nat.zero_le _,Nat.zero_le _,fun q=>absurd rfl q⟩
 ·subst hv;refine⟨some ⟨g,0,none⟩,cap,by rw[hl2],by rw[hl2];exact hcap.2.2.1,by omega,fun _=>⟨g,0,rfl,fun j u hu=>?_⟩⟩;have hj:=(List.getElem?_eq_some_iff.1 hu).1;rw[QW] at hj;rw[Nat.zero_add,h.cellAt j (by omega)];exact hu
theorem Tryz.infoTk:(Tryz.prog.info? 68).map (fun i=>(i.zero,i.size,i.bytes))=some (some (.agg #[.int .i64 0,.string ⟨#[]⟩,.int .i64 0,.int .i64 0]),4,40):=by kernel_rfl
def VT(t:Tk.T3):Prop :=
 (t.kind=1∧(∀b∈ t.text.data.toList,Tk.inW b=true)∧Tk.word t.text=some ⟨1,t.text,0⟩∧t.num=0)∨
 ((t.kind=2∨t.kind=3)∧t.text=⟨#[]⟩∧0≤t.num∧t.num≤1099511627776)∨
 (t.kind=4∧t.text=⟨#[]⟩∧0≤t.num∧t.num≤1439)∨
 (t.kind=5∧0 < t.text.size∧Tk.sgn t.text.data.toList=t.text.size∧t.num=0)
theorem Jd{l:List UInt8}(h:∀b∈ l,Tk.inW b=true):Txt.duNeg l=false:=by
 cases hq:Txt.duNeg l with
 | false=>rfl
 | true =>
   obtain⟨t,rfl⟩:=(Txt.dash_iff l).1 hq;have:=h 45 (List.mem_cons_self ..)
   revert this;decide
theorem Qh{s:ByteArray}{t:Tk.T3}(hw:∀b∈ s.data.toList,Tk.inW b=true)(h:Tk.word s=some t):VT t:=by
 have h':=h;unfold Tk.word at h
 split at h
 ·split at h
  ·cases h
  ·obtain rfl:=inj h;exact .inl ⟨rfl,hw,h',rfl⟩
 ·split at h
  ·split at h
   ·rename_i hpe
    obtain rfl:=inj h;refine .inr (.inr (.inl ⟨rfl,rfl,?_⟩));dsimp only;unfold vO at hpe;unfold vN
    split at hpe
    ·rename_i hf
     split at hpe
     ·rename_i hb
      rw[if_pos hf,if_pos hb];obtain⟨hl,-,h1,h2⟩:=(Q8 _).1 hf;rw[qe] at hl h2;rw[← ext_list] at h1 h2;have m1:=jj ((s.extract 1 s.size).extract 0 2) 2 (by rw[ByteArray.size_extract];omega) h1;have m2:=jj ((s.extract 1 s.size).extract 3 (s.extract 1 s.size).size) 2 (by rw[ByteArray.size_extract];omega) h2;unfold uK at hb;rw[decide_eq_true_eq] at hb;unfold YR YQ at hb ⊢;omega
     ·cases hpe
    ·cases hpe
   ·cases h
  ·split at h
   ·split at h
    ·rename_i hdu
     obtain rfl:=inj h;refine .inr (.inl ⟨.inr rfl,rfl,?_⟩);dsimp only;have hn:=Jd hw;unfold Txt.duV;rw[if_pos hdu,hn,if_neg (by simp)];unfold Txt.duE at hdu
     split at hdu
     ·rename_i hb
      split at hdu
      ·rename_i hq
       refine⟨?_,hq.2⟩;unfold Txt.duB at hb;rw[decide_eq_true_eq] at hb;have b1:=(Txt.num_bd _ hb.2.2.2.1).1;have b2:=(Txt.num_bd _ hb.2.2.2.2.1).1;unfold Txt.duN;omega
      ·cases hdu
     ·cases hdu
    ·cases h
   ·split at h
    ·rename_i hno
     obtain rfl:=inj h;unfold Tk.numOk at hno;rw[decide_eq_true_eq] at hno;exact .inr (.inl ⟨.inl rfl,rfl,(Txt.num_bd _ hno.2.2.1).1,hno.2.2.2.2⟩)
    ·cases h
theorem Jy(l:List UInt8)(h:Tk.sgn l≠0):Tk.sgn (l.take (Tk.sgn l))=Tk.sgn l:=by
 unfold Tk.sgn at h ⊢
 by_cases h2:(l.getD 0 0).toNat=60∧(l.getD 1 0).toNat=61
 ·rw [if_pos h2]
  match l,h2 with
  | [],h2=>simp at h2
  | [a],h2=>simp at h2
  | a :: b :: l,h2=>exact if_pos h2
 ·rw [if_neg h2] at h ⊢
  by_cases h1:1≤l.length∧Tk.inS (l.getD 0 0)=true
  ·rw [if_pos h1]
   match l,h1 with
   | [],h1=>simp at h1
   | a :: l,h1=>simpa using h1.2
  ·rw[if_neg h1] at h;exact absurd rfl h
theorem Yy{s:ByteArray}{i m:Nat}{t:Tk.T3}(hi:i < s.size)(h:Tk.tokAt s i=(some t,m)):VT t:=by
 unfold Tk.tokAt at h
 by_cases hw:Tk.inW (s.data.toList.getD i 0)=true
 ·rw [if_pos hw] at h;exact Qh (Tk.word_bytes s i) (Prod.mk.inj h).1
 ·rw [if_neg hw] at h;obtain⟨h1,h2⟩:=Prod.mk.inj h
  by_cases hg:Tk.sgn (s.data.toList.drop i)=0
  ·rw[if_pos hg] at h1;cases h1
  ·rw [if_neg hg] at h1;obtain rfl:=inj h1;have hle:=Tk.sgn_le (s.data.toList.drop i);rw[List.length_drop,qe] at hle;have hz:(s.extract i (i+Tk.sgn (s.data.toList.drop i))).size=Tk.sgn (s.data.toList.drop i):=(by rw[ByteArray.size_extract];omega);refine .inr (.inr (.inr ⟨rfl,by dsimp only;omega,?_,rfl⟩));dsimp only;rw[hz,ext_list,List.drop_take,show i+Tk.sgn (s.data.toList.drop i) - i=Tk.sgn (s.data.toList.drop i) by omega];exact Jy _ hg
theorem Qm(s:ByteArray):∀(n i:Nat)(D:List Tk.T4),(∀t∈ D,VT t.t)→∀t∈ (Tk.scan s n i D).1,VT t.t:=by
 intro n
 induction n with
 | zero=>intro i D h;exact h
 | succ n ih =>
   intro i D h;rw[Tk.scan]
   by_cases h1:s.size≤i
   ·rw[if_pos h1];exact h
   ·rw [if_neg h1]
    split
    ·exact h
    ·split
     ·exact ih _ _ h
     ·split
      ·intro t ht;cases ht
      ·rename_i t m hq
       split
       ·intro t ht;cases ht
       ·refine ih _ _ ?_;intro u hu;rcases List.mem_append.1 hu with hu|hu
        ·exact h u hu
        ·rw[List.mem_singleton.1 hu];exact Yy (by omega) hq
theorem jV(s:ByteArray):∀t∈ (Tk.scanT s).1,VT t.t:=Qm s _ _ _ (fun t ht=>by cases ht)
end Go.Proofs.YtcejjdmnlejbaaaGreatDoor
