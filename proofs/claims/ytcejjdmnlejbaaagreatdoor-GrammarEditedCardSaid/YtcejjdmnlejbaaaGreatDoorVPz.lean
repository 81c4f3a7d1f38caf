import Derived.Test.YtcejjdmnlejbaaaGreatDoorVKte
namespace Go.Proofs.YtcejjdmnlejbaaaGreatDoor
set_option linter.unusedVariables false
set_option linter.unusedSimpArgs false
open Go.Deep (BT)
open Go
namespace Tk
def inW(c:UInt8):Bool:=decide ((97≤c.toNat∧c.toNat≤122)∨(48≤c.toNat∧c.toNat≤57)∨c.toNat=95∨c.toNat=46∨c.toNat=58∨c.toNat=64)
def inS(c:UInt8):Bool:=decide (c.toNat=43∨c.toNat=45∨c.toNat=42∨c.toNat=47∨c.toNat=40∨c.toNat=41∨c.toNat=44∨c.toNat=60∨c.toNat=61)
def has(l:List UInt8)(k:Nat):Bool:=l.any fun c=>decide (c.toNat=k)
structure T3 where
 kind:Int
 text:ByteArray
 num:Int
def numOk(l:List UInt8):Bool:=decide (1≤l.length∧l.length≤13∧Txt.allD l=true∧¬((l.getD 0 0).toNat=48∧1 < l.length)∧Txt.num l≤1099511627776)
def word(s:ByteArray):Option T3 :=
 if 97≤(s.data.toList.getD 0 0).toNat∧(s.data.toList.getD 0 0).toNat≤122 then (if 33 < s.size∨has s.data.toList 58=true∨has s.data.toList 64=true then none else some ⟨1,s,0⟩)
 else if (s.data.toList.getD 0 0).toNat=64 then (if Qy (s.extract 1 s.size)=0 then some ⟨4,⟨#[]⟩,Qx (s.extract 1 s.size)⟩ else none)
 else if has s.data.toList 58=true then (if Txt.duE s.data.toList=0 then some ⟨3,⟨#[]⟩,Txt.duV s.data.toList⟩ else none)
 else if numOk s.data.toList=true then some ⟨2,⟨#[]⟩,Txt.num s.data.toList⟩ else none
def sgn(l:List UInt8):Nat:=if (l.getD 0 0).toNat=60∧(l.getD 1 0).toNat=61 then 2 else if 1≤l.length∧inS (l.getD 0 0)=true then 1 else 0
def wl(l:List UInt8):Nat:=(l.takeWhile inW).length
def tokAt(s:ByteArray)(i:Nat):Option T3× Nat :=
 if inW (s.data.toList.getD i 0)=true then (word (s.extract i (i+wl (s.data.toList.drop i))),wl (s.data.toList.drop i))
 else (if sgn (s.data.toList.drop i)=0 then none else some ⟨5,s.extract i (i+sgn (s.data.toList.drop i)),0⟩,sgn (s.data.toList.drop i))
structure T4 where
 t:T3
 at':Int
def scan(s:ByteArray):Nat→Nat→List T4→List T4× Int× Int
 | 0,_,D=>(D,0,0)
 | n+1,i,D =>
   if s.size≤i then (D,0,0) else if (s.data.toList.getD i 0).toNat=35 then (D,0,0) else if (s.data.toList.getD i 0).toNat=32 then scan s n (i+1) D else
   match tokAt s i with
   | (none,_)=>([],i,1)
   | (some t,k)=>if D.length=400 then ([],i,10) else scan s n (i+k) (D++[⟨t,i⟩])
theorem wl_le(l:List UInt8):wl l≤l.length:=List.Sublist.length_le (List.takeWhile_sublist _)
theorem wl_pos(l:List UInt8)(h:inW (l.getD 0 0)=true)(hl:1≤l.length):1≤wl l:=by
 cases l with
 | nil=>simp at hl
 | cons c l =>
   have h':inW c=true:=(by simpa using h);unfold wl;rw[List.takeWhile_cons,if_pos h'];simp
theorem sgn_le(l:List UInt8):sgn l≤l.length:=by
 unfold sgn
 split
 ·rename_i h
  cases l with
  | nil=>simp at h
  | cons a l=>cases l with
    | nil=>simp at h
    | cons b l=>simp
 ·split
  ·rename_i h;exact h.1
  ·exact Nat.zero_le _
theorem getD_drop(l:List UInt8)(i:Nat):(l.drop i).getD 0 0=l.getD i 0:=by
 rw[List.getD_eq_getElem?_getD,List.getD_eq_getElem?_getD,List.getElem?_drop,Nat.add_zero]
theorem tok_len(s:ByteArray)(i:Nat)(hi:i < s.size)(t:T3)(k:Nat)(h:tokAt s i=(some t,k)):1≤k∧i+k≤s.size:=by
 have hl:s.data.toList.length=s.size:=Array.length_toList;unfold tokAt at h
 by_cases hw:inW (s.data.toList.getD i 0)=true
 ·rw [if_pos hw] at h;have e:=(Prod.mk.inj h).2;rw[← e];have h1:=wl_le (s.data.toList.drop i);rw[List.length_drop,hl] at h1;refine⟨wl_pos _ (by rw[getD_drop];exact hw) (by rw[List.length_drop,hl];omega),by omega⟩
 ·rw [if_neg hw] at h;obtain⟨e1,e2⟩:=Prod.mk.inj h;rw[← e2];have h1:=sgn_le (s.data.toList.drop i);rw[List.length_drop,hl] at h1
  by_cases q:sgn (s.data.toList.drop i)=0
  ·rw[if_pos q] at e1;cases e1
  ·exact⟨by omega,by omega⟩
theorem scan_more(s:ByteArray):∀(n m i:Nat)(D:List T4),s.size≤i+n→s.size≤i+m→scan s n i D=scan s m i D:=by
 intro n
 induction n with
 | zero =>
   intro m i D h1 h2;cases m with
   | zero=>rfl
   | succ m=>rw[scan,scan,if_pos (by omega)]
 | succ n ih =>
   intro m i D h1 h2
   by_cases hi:s.size≤i
   ·rw [scan,if_pos hi];cases m with
    | zero=>rw[scan]
    | succ m=>rw[scan,if_pos hi]
   ·cases m with
    | zero=>omega
    | succ m =>
      rw[scan,scan,if_neg hi,if_neg hi]
      split
      ·rfl
      ·split
       ·exact ih m (i+1) D (by omega) (by omega)
       ·cases hq:tokAt s i with
        | mk o k =>
          cases o with
          | none=>rfl
          | some t =>
            have hk:=tok_len s i (by omega) t k hq;dsimp only
            split
            ·rfl
            ·exact ih m (i+k) _ (by omega) (by omega)
def scanT(s:ByteArray):List T4× Int× Int:=scan s s.size 0 []
theorem scan_step(s:ByteArray)(i:Nat)(D:List T4)(hi:i < s.size):scan s (s.size - i) i D =
 if (s.data.toList.getD i 0).toNat=35 then (D,0,0) else if (s.data.toList.getD i 0).toNat=32 then scan s (s.size - (i+1)) (i+1) D else
 match tokAt s i with
 | (none,_)=>([],(i:Int),1)
 | (some t,k)=>if D.length=400 then ([],(i:Int),10) else scan s (s.size - (i+k)) (i+k) (D++[⟨t,i⟩]):=by
 obtain⟨n,hn⟩:∃n,s.size - i=n+1:=⟨s.size - i - 1,by omega⟩;rw[hn,scan,if_neg (by omega)]
 split
 ·rfl
 ·split
  ·exact scan_more s _ _ _ _ (by omega) (by omega)
  ·cases hq:tokAt s i with
   | mk o k =>
     cases o with
     | none=>rfl
     | some t =>
       have hk:=tok_len s i hi t k hq;dsimp only
       split
       ·rfl
       ·exact scan_more s _ _ _ _ (by omega) (by omega)
theorem scan_end(s:ByteArray)(i:Nat)(D:List T4)(hi:s.size≤i):scan s (s.size - i) i D=(D,0,0):=by
 rw[show s.size - i=0 by omega,scan]
end Tk
namespace Pz
def nrm:Fo→Fo
 | .nil=>.nil
 | .node _ _ a k r=>.node 0 0 ⟨a.op,a.num,a.name,none,0⟩ (nrm k) (nrm r)
def nr(c:Ch):Ch:=⟨0,0,⟨c.a.op,c.a.num,c.a.name,none,0⟩,nrm c.k⟩
def tn(op:Int)(l:List Ch):Ch:=⟨0,0,⟨op,0,⟨#[]⟩,none,0⟩,qH l⟩
def lf(op num:Int)(s:ByteArray):Ch:=⟨0,0,⟨op,num,s,none,0⟩,.nil⟩
theorem nrm_rowF(l:List Ch):nrm (qH l)=qH (l.map nr):=by
 induction l with
 | nil=>rfl
 | cons c l ih=>simp only[qH,nrm,List.map_cons,ih,nr]
def wImplies:ByteArray:=⟨#[105,109,112,108,105,101,115]⟩
def wOr:ByteArray:=⟨#[111,114]⟩
def wAnd:ByteArray:=⟨#[97,110,100]⟩
def wNot:ByteArray:=⟨#[110,111,116]⟩
def wLess:ByteArray:=⟨#[60]⟩
def wLeq:ByteArray:=⟨#[60,61]⟩
def wEq:ByteArray:=⟨#[61]⟩
def wIn:ByteArray:=⟨#[105,110]⟩
def wTo:ByteArray:=⟨#[116,111]⟩
def wPlus:ByteArray:=⟨#[43]⟩
def wMinus:ByteArray:=⟨#[45]⟩
def wStar:ByteArray:=⟨#[42]⟩
def wSlash:ByteArray:=⟨#[47]⟩
def wTrue:ByteArray:=⟨#[116,114,117,101]⟩
def wFalse:ByteArray:=⟨#[102,97,108,115,101]⟩
def wMin:ByteArray:=⟨#[109,105,110]⟩
def wMax:ByteArray:=⟨#[109,97,120]⟩
def wIf:ByteArray:=⟨#[105,102]⟩
def wThen:ByteArray:=⟨#[116,104,101,110]⟩
def wElse:ByteArray:=⟨#[101,108,115,101]⟩
def wOpen:ByteArray:=⟨#[40]⟩
def wShut:ByteArray:=⟨#[41]⟩
def wComma:ByteArray:=⟨#[44]⟩
abbrev R:=Option Ch× Nat
def isw(L:List Tk.T4)(i:Nat)(s:ByteArray):Bool:=match L[i]? with
 | some t=>(decide (t.t.kind=1) || decide (t.t.kind=5)) && decide (t.t.text.data.toList=s.data.toList)
 | none=>false
def leafT(t:Tk.T3):Option Ch :=
 if t.kind=2 then some (lf 1 t.num ⟨#[]⟩) else if t.kind=3 then some (lf 2 t.num ⟨#[]⟩) else if t.kind=4 then some (lf 3 t.num ⟨#[]⟩)
 else if t.kind=1 then (if zY t.text=true then some (lf 6 0 t.text) else none) else none
def leaf(L:List Tk.T4)(i:Nat):R:=match L[i]? with
 | some t=>(match leafT t.t with|some x=>(some x,i+1)|none=>(none,i))
 | none=>(none,i)
def bnd(r:R)(g:Ch→Nat→R):R:=match r with
 | (none,j)=>(none,j)
 | (some x,j)=>g x j
inductive NT where
 | ex|dj|djL (x:Ch)|cj|cjL (x:Ch)|ng|cm|bd (x:Ch)|sm|smL (x:Ch)|tm|tmL (x:Ch)|fc|li (op:Int)|liL (op:Int) (l:List Ch)
def step(L:List Tk.T4)(f:NT→Nat→R):NT→Nat→R
 | .ex,i=>bnd (f .dj i) fun x j=>if isw L j wImplies=true then bnd (f .ex (j+1)) fun y k=>(some (tn 22 [x,y]),k) else (some x,j)
 | .dj,i=>bnd (f .cj i) fun x j=>f (.djL x) j
 | .djL x,i=>if isw L i wOr=true then bnd (f .cj (i+1)) fun y j=>f (.djL (tn 21 [x,y])) j else (some x,i)
 | .cj,i=>bnd (f .ng i) fun x j=>f (.cjL x) j
 | .cjL x,i=>if isw L i wAnd=true then bnd (f .ng (i+1)) fun y j=>f (.cjL (tn 20 [x,y])) j else (some x,i)
 | .ng,i=>if isw L i wNot=true then bnd (f .ng (i+1)) fun x j=>(some (tn 19 [x]),j) else f .cm i
 | .cm,i=>bnd (f .sm i) fun x j =>
  if isw L j wLess=true then bnd (f .sm (j+1)) fun y k=>(some (tn 16 [x,y]),k)
  else if isw L j wLeq=true then bnd (f .sm (j+1)) fun y k=>(some (tn 17 [x,y]),k)
  else if isw L j wEq=true then bnd (f .sm (j+1)) fun y k=>(some (tn 18 [x,y]),k)
  else if isw L j wIn=true then f (.bd x) (j+1) else (some x,j)
 | .bd x,i=>bnd (f .sm i) fun y j=>if isw L j wTo=true then bnd (f .sm (j+1)) fun z k=>(some (tn 15 [x,y,z]),k) else (none,j)
 | .sm,i=>bnd (f .tm i) fun x j=>f (.smL x) j
 | .smL x,i=>if isw L i wPlus=true then bnd (f .tm (i+1)) fun y j=>f (.smL (tn 8 [x,y])) j
  else if isw L i wMinus=true then bnd (f .tm (i+1)) fun y j=>f (.smL (tn 9 [x,y])) j else (some x,i)
 | .tm,i=>bnd (f .fc i) fun x j=>f (.tmL x) j
 | .tmL x,i=>if isw L i wStar=true then bnd (f .fc (i+1)) fun y j=>f (.tmL (tn 10 [x,y])) j
  else if isw L i wSlash=true then bnd (f .fc (i+1)) fun y j=>f (.tmL (tn 11 [x,y])) j else (some x,i)
 | .fc,i =>
  if isw L i wMinus=true then bnd (f .fc (i+1)) fun x j=>(some (tn 7 [x]),j)
  else if isw L i wTrue=true then (some (lf 4 0 ⟨#[]⟩),i+1)
  else if isw L i wFalse=true then (some (lf 5 0 ⟨#[]⟩),i+1)
  else if isw L i wMin=true then f (.li 12) (i+1)
  else if isw L i wMax=true then f (.li 13) (i+1)
  else if isw L i wIf=true then bnd (f .ex (i+1)) fun a j=>if isw L j wThen=true then bnd (f .ex (j+1)) fun b k=>if isw L k wElse=true then bnd (f .ex (k+1)) fun c m=>(some (tn 14 [a,b,c]),m) else (none,k) else (none,j)
  else if isw L i wOpen=true then bnd (f .ex (i+1)) fun x j=>if isw L j wShut=true then (some x,j+1) else (none,j)
  else leaf L i
 | .li op,i=>if isw L i wOpen=true then f (.liL op []) (i+1) else (none,i)
 | .liL op l,i=>bnd (f .ex i) fun a j=>if 1≤l.length∧isw L j wShut=true then (some (tn op (l++[a])),j+1) else if isw L j wComma=true then f (.liL op (l++[a])) (j+1) else (none,j)
def pz(L:List Tk.T4):Nat→NT→Nat→R
 | 0,_,i=>(none,i)
 | n+1,nt,i=>step L (pz L n) nt i
def rk:NT→Nat
 | .djL _=>0|.cjL _=>0|.smL _=>0|.tmL _=>0|.fc=>1|.li _=>0|.tm=>2|.sm=>3|.bd _=>4|.cm=>5|.ng=>6|.cj=>7|.dj=>8|.ex=>9|.liL _ _=>10
def ps:NT→Nat
 | .djL _=>0|.cjL _=>0|.smL _=>0|.tmL _=>0|_=>1
def need(L:List Tk.T4)(nt:NT)(i:Nat):Nat:=12 * (L.length - i)+rk nt
theorem isw_lt{L:List Tk.T4}{i:Nat}{s:ByteArray}(h:isw L i s=true):i < L.length:=by
 unfold isw at h
 split at h
 ·rename_i t ht;exact(List.getElem?_eq_some_iff.1 ht).1
 ·cases h
def Ok(L:List Tk.T4)(i:Nat)(r:R)(q:Nat):Prop:=i≤r.2∧r.2≤L.length∧(r.1.isSome=true→i+q≤r.2)
theorem Ok.weak{L:List Tk.T4}{i i':Nat}{r:R}{q q':Nat}(h:Ok L i r q)(h1:i'≤i)(h2:i'+q'≤i+q):Ok L i' r q':=⟨Nat.le_trans h1 h.1,h.2.1,fun s=>Nat.le_trans h2 (h.2.2 s)⟩
theorem ok_none{L:List Tk.T4}{i j q:Nat}(h1:i≤j)(h2:j≤L.length):Ok L i (none,j) q:=⟨h1,h2,fun h=>by cases h⟩
theorem ok_some{L:List Tk.T4}{i j q:Nat}{x:Ch}(h1:i+q≤j)(h2:j≤L.length):Ok L i (some x,j) q:=⟨by show i≤j;omega,h2,fun _=>h1⟩
theorem bnd_ok{L:List Tk.T4}{i p q:Nat}{r:R}{g:Ch→Nat→R}(hr:Ok L i r p)(hg:∀x j,r=(some x,j)→i+p≤j→j≤L.length→Ok L i (g x j) q):Ok L i (bnd r g) q:=by
 obtain⟨o,j⟩:=r;cases o with
 | none=>exact⟨hr.1,hr.2.1,fun h=>by cases h⟩
 | some x=>exact hg x j rfl (hr.2.2 rfl) hr.2.1
theorem bnd_cg{L:List Tk.T4}{i p:Nat}{r r':R}{g g':Ch→Nat→R}(hr:Ok L i r p)(e:r=r')(hg:∀x j,r=(some x,j)→i+p≤j→j≤L.length→g x j=g' x j):bnd r g=bnd r' g':=by
 subst e;obtain⟨o,j⟩:=r;cases o with
 | none=>rfl
 | some x=>exact hg x j rfl (hr.2.2 rfl) hr.2.1
theorem if_cg{c:Prop} [Decidable c]{a a' b b':R}(h:c→a=a')(k:¬c→b=b'):(if c then a else b)=if c then a' else b':=by
 by_cases q:c
 ·rw[if_pos q,if_pos q];exact h q
 ·rw[if_neg q,if_neg q];exact k q
theorem if_ok{L:List Tk.T4}{i q:Nat}{c:Prop} [Decidable c]{a b:R}(h:c→Ok L i a q)(k:¬c→Ok L i b q):Ok L i (if c then a else b) q:=by
 by_cases s:c
 ·rw[if_pos s];exact h s
 ·rw[if_neg s];exact k s
theorem leaf_ok{L:List Tk.T4}{i:Nat}(hi:i≤L.length):Ok L i (leaf L i) 1:=by
 unfold leaf
 split
 ·rename_i t ht
  have hl:=(List.getElem?_eq_some_iff.1 ht).1
  split
  ·exact ok_some (by omega) (by omega)
  ·exact ok_none (by omega) (by omega)
 ·exact ok_none (by omega) (by omega)
def Adv(L:List Tk.T4)(f:NT→Nat→R):Prop:=∀nt i,i≤L.length→Ok L i (f nt i) (ps nt)
theorem step_adv{L:List Tk.T4}{f:NT→Nat→R}(hf:Adv L f):Adv L (step L f):=by
 intro nt i hi;have one:∀nt i,i≤L.length→ps nt=1→Ok L i (f nt i) 1:=fun nt i h e=>by have:=hf nt i h;rwa [e] at this
 have zero:∀nt i,i≤L.length→Ok L i (f nt i) 0:=fun nt i h=>(hf nt i h).weak (Nat.le_refl _) (by omega);cases nt
 all_goals
  unfold step;dsimp only[ps]
  repeat' (first
   | (refine if_ok (fun hw=>?_) (fun hw=>?_);(try have hl:=isw_lt hw);(try have hl:=isw_lt hw.2);clear hw)
   | (refine bnd_ok (p:=1) ((one _ _ (by omega) rfl).weak (by omega) (by omega)) fun x j hr h1 h2=>?_;clear hr)
   | exact ok_none (by omega) (by omega)
   | exact ok_some (by omega) (by omega)
   | exact leaf_ok hi
   | exact(one _ _ (by omega) rfl).weak (by omega) (by omega)
   | exact(zero _ _ (by omega)).weak (by omega) (by omega))
theorem pz_adv(L:List Tk.T4):∀n,Adv L (pz L n)
 | 0=>fun nt i hi=>ok_none (Nat.le_refl _) hi
 | n+1=>step_adv (pz_adv L n)
theorem step_congr{L:List Tk.T4}{f g:NT→Nat→R}(hf:Adv L f)(nt:NT)(i:Nat)(hi:i≤L.length)(h:∀nt' i',i'≤L.length→need L nt' i' < need L nt i→f nt' i'=g nt' i'):step L f nt i=step L g nt i:=by
 have one:∀nt i,i≤L.length→ps nt=1→Ok L i (f nt i) 1:=fun nt i h e=>by have:=hf nt i h;rwa [e] at this
 cases nt
 all_goals
  unfold need at h;dsimp only[rk] at h;unfold step;dsimp only
  repeat' (first
   | rfl
   | (refine if_cg (fun hw=>?_) (fun hw=>?_);(try have hl:=isw_lt hw);(try have hl:=isw_lt hw.2);clear hw)
   | (refine bnd_cg (p:=1) (one _ _ (by omega) rfl) (h _ _ (by omega) (by dsimp only[rk];omega)) fun x j hr h1 h2=>?_;clear hr)
   | exact h _ _ (by omega) (by dsimp only[rk];omega))
theorem pz_more(L:List Tk.T4):∀n m nt i,i≤L.length→need L nt i < n→need L nt i < m→pz L n nt i=pz L m nt i:=by
 intro n
 induction n with
 | zero=>intro m nt i _ h;omega
 | succ n ih =>
   intro m nt i hi h1 h2;cases m with
   | zero=>omega
   | succ m=>exact step_congr (pz_adv L n) nt i hi fun nt' i' h' hn=>ih m nt' i' h' (by omega) (by omega)
def pv(L:List Tk.T4)(nt:NT)(i:Nat):R:=pz L (12 * L.length+20) nt i
theorem rk_le(nt:NT):rk nt≤10:=by cases nt<;>simp[rk]
theorem pv_step(L:List Tk.T4)(nt:NT)(i:Nat)(hi:i≤L.length):pv L nt i=step L (pv L) nt i:=by
 have hr:=rk_le nt;have h:need L nt i < 12 * L.length+20:=by unfold need;omega
 exact pz_more L (12 * L.length+20) (12 * L.length+20+1) nt i hi h (by omega)
theorem pv_adv(L:List Tk.T4):Adv L (pv L):=pz_adv L _
end Pz
end Go.Proofs.YtcejjdmnlejbaaaGreatDoor
