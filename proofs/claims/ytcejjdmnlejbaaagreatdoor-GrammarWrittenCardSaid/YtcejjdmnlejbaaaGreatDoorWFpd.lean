import Derived.Test.YtcejjdmnlejbaaaGreatDoorWTvt
namespace Go.Proofs.YtcejjdmnlejbaaaGreatDoor
open Option.some(inj)
set_option linter.unusedVariables false
set_option linter.unusedSimpArgs false
open Go.Deep (BT)
theorem kQ{t:Tk.T3}(h:VT t):(t.kind=1∧t.text.size≤33∧t.num=0)∨(t.kind=2∧t.text=⟨#[]⟩∧0≤t.num∧t.num≤1099511627776)∨(t.kind=3∧t.text=⟨#[]⟩∧0≤t.num∧t.num≤1099511627776)∨(t.kind=4∧t.text=⟨#[]⟩∧0≤t.num∧t.num≤1439)∨(t.kind=5∧t.num=0):=by
 rcases h with ⟨h1,h2,h3,h4⟩|⟨h1,h2⟩|h|⟨h1,h2,h3,h4⟩
 ·refine .inl ⟨h1,?_,h4⟩;unfold Tk.word at h3
  split at h3
  ·split at h3
   ·cases h3
   ·rename_i q;omega
  ·split at h3
   ·split at h3
    ·have:=congrArg (fun o=>o.map (fun t:Tk.T3=>t.kind)) h3;simp at this
    ·cases h3
   ·split at h3
    ·split at h3
     ·have:=congrArg (fun o=>o.map (fun t:Tk.T3=>t.kind)) h3;simp at this
     ·cases h3
    ·split at h3
     ·have:=congrArg (fun o=>o.map (fun t:Tk.T3=>t.kind)) h3;simp at this
     ·cases h3
 ·rcases h1 with h1|h1
  ·exact .inr (.inl ⟨h1,h2⟩)
  ·exact .inr (.inr (.inl ⟨h1,h2⟩))
 ·exact .inr (.inr (.inr (.inl h)))
 ·exact .inr (.inr (.inr (.inr ⟨h1,h4⟩)))
namespace Pz
theorem len_nrm(T:Fo):len (nrm T)=len T:=by
 induction T with
 | nil=>rfl
 | node b o a k r ihk ihr=>simp only[nrm,len,ihr]
theorem sz_nrm(T:Fo):sz (nrm T)=sz T:=by
 induction T with
 | nil=>rfl
 | node b o a k r ihk ihr=>simp only[nrm,sz,ihr,ihk]
theorem dp_nrm(T:Fo):dp (nrm T)=dp T:=by
 induction T with
 | nil=>rfl
 | node b o a k r ihk ihr=>simp only[nrm,dp,ihr,ihk]
theorem wfT_nrm(T:Fo):za (nrm T)=za T:=by
 induction T with
 | nil=>rfl
 | node b o a k r ihk ihr=>simp only[nrm,za,ihr,ihk,len_nrm];rfl
theorem ok_nrm(T:Fo):je (nrm T)↔je T:=by
 induction T with
 | nil=>exact Iff.rfl
 | node b o a k r ihk ihr=>simp only[nrm,je,ihr,ihk,len_nrm];exact Iff.rfl
structure Gd (c:Ch):Prop where
 ok:yN c.a c.k
 wf:(zk c.a (len c.k) && za c.k)=true
theorem val_nr(c:Ch):qQ (nr c).a (nr c).k=qQ c.a c.k:=by
 unfold qQ nr fitB;dsimp only;rw[sz_nrm,dp_nrm,wfT_nrm,len_nrm];rfl
theorem Gd.of_nr{c x:Ch}(h:Gd x)(e:nr c=x):Gd c:=by
 subst e;refine⟨?_,?_⟩
 ·have:=h.ok;unfold nr yN Vc at this;dsimp only at this;rw[len_nrm,ok_nrm] at this;exact this
 ·have:=h.wf;unfold nr at this;dsimp only at this;rw[len_nrm,wfT_nrm] at this;exact this
theorem Gd.val{c:Ch}(h:Gd c):qQ c.a c.k=if fitB 0 1 c.k=true then 0 else 10:=by
 unfold qQ;rw[if_pos h.wf]
theorem gd_lf(op num:Int)(s:ByteArray)(h:zk ⟨op,num,s,none,0⟩ 0=true)(hb:0≤num∧num≤1099511627776)(hop:1≤op∧op≤22)(hs:s.size≤33):Gd (lf op num s):=by
 refine⟨⟨⟨by dsimp only[lf];omega,by dsimp only[lf];omega,by dsimp only[lf];omega,by simp[lf,len]⟩,trivial⟩,?_⟩
 show(zk ⟨op,num,s,none,0⟩ 0 && true)=true
 rw[h];rfl
theorem gd_leaf{t:Tk.T3}(ht:VT t){x:Ch}(h:leafT t=some x):Gd x:=by
 unfold leafT at h;rcases kQ ht with ⟨h1,h2,h3⟩|⟨h1,h2,h3,h4⟩|⟨h1,h2,h3,h4⟩|⟨h1,h2,h3,h4⟩|⟨h1,h2⟩
 ·rw [if_neg (by omega),if_neg (by omega),if_neg (by omega),if_pos h1] at h
  split at h
  ·rename_i ha
   obtain rfl:=inj h;refine gd_lf 6 0 _ ?_ (by omega) (by omega) h2;unfold zk j6 j8 zQ;simp[ha]
  ·cases h
 ·rw [if_pos h1] at h;obtain rfl:=inj h;refine gd_lf 1 _ _ ?_ (by omega) (by omega) (by show(0:Nat)≤33;omega);unfold zk j6 j8 zQ;have e:(⟨#[]⟩:ByteArray).size=0:=rfl;simp[h3,h4,e]
 ·rw [if_neg (by omega),if_pos h1] at h;obtain rfl:=inj h;refine gd_lf 2 _ _ ?_ (by omega) (by omega) (by show(0:Nat)≤33;omega);unfold zk j6 j8 zQ;have e:(⟨#[]⟩:ByteArray).size=0:=rfl;simp[h3,h4,e]
 ·rw [if_neg (by omega),if_neg (by omega),if_pos h1] at h;obtain rfl:=inj h;refine gd_lf 3 _ _ ?_ (by omega) (by omega) (by show(0:Nat)≤33;omega);unfold zk j6 j8 zQ;have e:(⟨#[]⟩:ByteArray).size=0:=rfl;simp[h3,h4,e]
 ·rw [if_neg (by omega),if_neg (by omega),if_neg (by omega),if_neg (by omega)] at h;cases h
theorem rowF_ok(l:List Ch)(h:∀c∈ l,Gd c):je (qC l)∧za (qC l)=true:=by
 induction l with
 | nil=>exact⟨trivial,rfl⟩
 | cons c l ih =>
   obtain⟨h1,h2⟩:=ih fun d hd=>h d (by simp[hd]);have hc:=h c (by simp);exact⟨⟨hc.ok.1,hc.ok.2,h1⟩,by show((zk c.a (len c.k) && za c.k) && za (qC l))=true;rw[hc.wf,h2];rfl⟩
theorem gd_node(op:Int)(l:List Ch)(h:∀c∈ l,Gd c)(hop:7≤op∧op≤22)(hw:j6 op l.length=true)(hl:l.length≤9223372036854775807):Gd (tn op l):=by
 obtain⟨h1,h2⟩:=rowF_ok l h;have h6:¬op=6:=by omega
 refine⟨⟨⟨by dsimp only[tn];omega,by dsimp only[tn];omega,Nat.zero_le _,by dsimp only[tn];rw[ql];omega⟩,h1⟩,?_⟩
 show(zk ⟨op,0,⟨#[]⟩,none,0⟩ (len (qC l)) && za (qC l))=true
 rw[h2,Bool.and_true,ql];unfold zk;dsimp only;have q1:j8 op 0=true:=by unfold j8;rw[if_neg (by omega),if_neg (by omega)];rfl
 have q2:zQ op ⟨#[]⟩=true:=by unfold zQ;rw[if_neg h6];rfl
 rw[hw,q1,q2];simp;omega
theorem gd1(op:Int)(x:Ch)(h:Gd x)(hop:7≤op∧op≤22)(hw:j6 op 1=true):Gd (tn op [x]):=gd_node op [x] (by intro c hc;simp only[List.mem_cons,List.not_mem_nil,or_false] at hc;rw[hc];exact h) hop hw (by simp)
theorem gd2(op:Int)(x y:Ch)(h:Gd x)(k:Gd y)(hop:7≤op∧op≤22)(hw:j6 op 2=true):Gd (tn op [x,y]):=gd_node op [x,y] (by intro c hc;simp only[List.mem_cons,List.not_mem_nil,or_false] at hc;rcases hc with e|e;rw[e];exact h;rw[e];exact k) hop hw (by simp)
theorem gd3(op:Int)(x y z:Ch)(h:Gd x)(k:Gd y)(m:Gd z)(hop:7≤op∧op≤22)(hw:j6 op 3=true):Gd (tn op [x,y,z]):=gd_node op [x,y,z] (by intro c hc;simp only[List.mem_cons,List.not_mem_nil,or_false] at hc;rcases hc with e|e|e;rw[e];exact h;rw[e];exact k;rw[e];exact m) hop hw (by simp)
def GR(r:R):Prop:=∀x,r.1=some x→Gd x
theorem gr_none(j:Nat):GR (none,j):=fun x h=>by cases h
theorem gr_some{x:Ch}(j:Nat)(h:Gd x):GR (some x,j):=fun y e=>by cases e;exact h
theorem gr_bnd{L:List Tk.T4}{i p:Nat}{r:R}{g:Ch→Nat→R}(ho:Ok L i r p)(hr:GR r)(hg:∀x j,Gd x→i+p≤j→j≤L.length→GR (g x j)):GR (bnd r g):=by
 obtain⟨o,j⟩:=r;cases o with
 | none=>exact gr_none j
 | some x=>exact hg x j (hr x rfl) (ho.2.2 rfl) ho.2.1
theorem gr_if{c:Prop} [Decidable c]{a b:R}(h:c→GR a)(k:¬c→GR b):GR (if c then a else b):=by
 by_cases q:c
 ·rw[if_pos q];exact h q
 ·rw[if_neg q];exact k q
theorem gr_leaf{L:List Tk.T4}(hV:∀t∈ L,VT t.t)(i:Nat):GR (leaf L i):=by
 unfold leaf
 split
 ·rename_i t ht
  split
  ·rename_i x hx
   exact gr_some _ (gd_leaf (hV t (List.mem_of_getElem? ht)) hx)
  ·exact gr_none _
 ·exact gr_none _
def GN(L:List Tk.T4):NT→Nat→Prop
 | .djL x,_=>Gd x|.cjL x,_=>Gd x|.smL x,_=>Gd x|.tmL x,_=>Gd x|.bd x,_=>Gd x
 | .li op,_=>op=12∨op=13
 | .liL op l,i=>(op=12∨op=13)∧(∀c∈ l,Gd c)∧l.length≤i
 | _,_=>True
theorem step_gr{L:List Tk.T4}{f:NT→Nat→R}(hV:∀t∈ L,VT t.t)(hL:L.length≤400)(hf:Adv L f)(hg:∀nt i,i≤L.length→GN L nt i→GR (f nt i))(nt:NT)(i:Nat)(hi:i≤L.length)(hn:GN L nt i):GR (step L f nt i):=by
 have one:∀nt i,i≤L.length→ps nt=1→Ok L i (f nt i) 1:=fun nt i h e=>by have:=hf nt i h;rwa [e] at this
 cases nt
 case liL op l =>
  obtain⟨h1,h2,h3⟩:=hn;unfold step;refine gr_bnd (one _ _ hi rfl) (hg _ _ hi trivial) fun x j hx hj hl=>?_
  have hm:∀c∈ l++[x],Gd c:=fun c hc=>by
   rcases List.mem_append.1 hc with hc|hc
   ·exact h2 c hc
   ·simp only[List.mem_cons,List.not_mem_nil,or_false] at hc;rw[hc];exact hx
  refine gr_if (fun hw=>gr_some _ (gd_node op _ hm (by omega) ?_ (by rw[List.length_append];show l.length+1≤_;omega))) fun hw=>gr_if (fun hc=>hg _ _ (isw_lt hc) ⟨h1,hm,by rw[List.length_append];show l.length+1≤_;omega⟩) fun _=>gr_none _;rw[List.length_append];unfold j6;have h4:1≤l.length:=hw.1;have e:((l.length+[x].length:Nat):Int)=(l.length:Int)+1:=by simp
  rw[e,if_neg (by omega),if_neg (by omega),if_pos h1,decide_eq_true_eq];omega
 all_goals
  unfold step;dsimp only[GN] at hn;dsimp only
  repeat' (first
   | exact gr_none _
   | exact gr_leaf hV _
   | (refine gr_if (fun hw=>?_) (fun hw=>?_);(try have hl:=isw_lt hw);clear hw)
   | (refine gr_bnd (p:=1) (one _ _ (by omega) rfl) (hg _ _ (by omega) trivial) fun x j hx h1 h2=>?_)
   | exact gr_some _ (by assumption)
   | exact gr_some _ (gd1 _ _ (by assumption) (by omega) (by decide))
   | exact gr_some _ (gd2 _ _ _ (by assumption) (by assumption) (by omega) (by decide))
   | exact gr_some _ (gd3 _ _ _ _ (by assumption) (by assumption) (by assumption) (by omega) (by decide))
   | exact gr_some _ (gd_lf _ _ _ (by decide) (by omega) (by omega) (by decide))
   | exact hg _ _ (by omega) trivial
   | exact hg _ _ (by omega) (by assumption)
   | exact hg _ _ (by omega) (gd2 _ _ _ (by assumption) (by assumption) (by omega) (by decide))
   | exact hg _ _ (by omega) (.inl rfl)
   | exact hg _ _ (by omega) (.inr rfl)
   | exact hg _ _ (by omega) ⟨hn,(fun c hc=>by cases hc),Nat.zero_le _⟩)
theorem pz_gr{L:List Tk.T4}(hV:∀t∈ L,VT t.t)(hL:L.length≤400):∀n nt i,i≤L.length→GN L nt i→GR (pz L n nt i)
 | 0,_,i,_,_=>gr_none i
 | n+1,nt,i,hi,hn=>step_gr hV hL (pz_adv L n) (pz_gr hV hL n) nt i hi hn
theorem ex_good{L:List Tk.T4}(hV:∀t∈ L,VT t.t)(hL:L.length≤400){x:Ch}{j:Nat}(h:pv L .ex 0=(some x,j)):Gd x:=pz_gr hV hL _ .ex 0 (Nat.zero_le _) trivial x (by show(pv L .ex 0).1=_;rw[h])
end Pz
namespace Fp
open Pz
abbrev P:=Bool× Tk.T3
def sg(s:ByteArray):Tk.T3:=⟨5,s,0⟩
def wd(s:ByteArray):Tk.T3:=⟨1,s,0⟩
def bl:List P→List P
 | []=>[]
 | p :: l=>(true,p.2) :: l
def opW(op:Int):Tk.T3 :=
 if op=8 then sg wPlus else if op=9 then sg wMinus else if op=10 then sg wStar else if op=11 then sg wSlash
 else if op=16 then sg wLess else if op=17 then sg wLeq else if op=18 then sg wEq else if op=20 then wd wAnd else if op=21 then wd wOr else wd wImplies
abbrev Q:=List (List P× List P)
def at'(q:Q)(i:Nat):List P× List P:=q.getD i ([],[])
def jnC:Q→List P
 | []=>[]
 | [x]=>x.1
 | x :: y :: l=>x.1++(false,sg wComma) :: bl (jnC (y :: l))
def tF(a:Nd)(q:Q):List P :=
 if a.op=1 then [(false,⟨2,⟨#[]⟩,a.num⟩)] else if a.op=2 then [(false,⟨3,⟨#[]⟩,a.num⟩)] else if a.op=3 then [(false,⟨4,⟨#[]⟩,a.num⟩)]
 else if a.op=4 then [(false,wd wTrue)] else if a.op=5 then [(false,wd wFalse)] else if a.op=6 then [(false,wd a.name)]
 else if a.op=7 then (false,sg wMinus) :: (at' q 0).2
 else if a.op=19 then (false,wd wNot) :: bl (at' q 0).2
 else if a.op=12 then (false,wd wMin) :: (false,sg wOpen) :: (jnC q++[(false,sg wShut)])
 else if a.op=13 then (false,wd wMax) :: (false,sg wOpen) :: (jnC q++[(false,sg wShut)])
 else if a.op=14 then (false,wd wIf) :: (bl (at' q 0).1++(true,wd wThen) :: (bl (at' q 1).1++(true,wd wElse) :: bl (at' q 2).1))
 else if a.op=15 then (at' q 0).2++(true,wd wIn) :: (bl (at' q 1).2++(true,wd wTo) :: bl (at' q 2).2)
 else (at' q 0).2++(true,opW a.op) :: bl (at' q 1).2
def tI(a:Nd)(k:Fo)(f:List P):List P:=if len k=0∨a.op=12∨a.op=13 then f else (false,sg wOpen) :: (f++[(false,sg wShut)])
def tK:Fo→Q
 | .nil=>[]
 | .node _ _ a k r=>(tF a (tK k),tI a k (tF a (tK k))) :: tK r
def F(c:Ch):List P:=tF c.a (tK c.k)
def I(c:Ch):List P:=tI c.a c.k (F c)
def kl:Fo→List Ch
 | .nil=>[]
 | .node b o a k r=>⟨b,o,a,k⟩ :: kl r
theorem rowF_kl(k:Fo):qC (kl k)=k:=by
 induction k with
 | nil=>rfl
 | node b o a k r ihk ihr=>show BT.node b o a k (qC (kl r))=_;rw[ihr]
theorem kl_len(k:Fo):(kl k).length=len k:=by
 induction k with
 | nil=>rfl
 | node b o a k r ihk ihr=>simp only[kl,List.length_cons,len,ihr]
theorem nrm_kl(k:Fo):nrm k=qC ((kl k).map nr):=by
 have:=nrm_rowF (kl k)
 rwa [rowF_kl] at this
theorem tK_kl(k:Fo):tK k=(kl k).map fun c=>(F c,I c):=by
 induction k with
 | nil=>rfl
 | node b o a k r ihk ihr=>show _ :: tK r=_ :: (kl r).map _;rw[ihr];rfl
theorem bl_len(l:List P):(bl l).length=l.length:=by cases l<;>rfl
def Seg(L:List Tk.T4)(i:Nat)(l:List P):Prop:=∀k p,l[k]?=some p→∃u,L[i+k]?=some u∧u.t=p.2
theorem seg_cons{L:List Tk.T4}{i:Nat}{p:P}{l:List P}(h:Seg L i (p :: l)):(∃u,L[i]?=some u∧u.t=p.2)∧Seg L (i+1) l :=
 ⟨h 0 p rfl,fun k q hq=>by rw[show i+1+k=i+(k+1) by omega];exact h (k+1) q (by simpa using hq)⟩
theorem seg_app{L:List Tk.T4}{i:Nat}{l m:List P}(h:Seg L i (l++m)):Seg L i l∧Seg L (i+l.length) m:=by
 refine⟨fun k p hp=>h k p ?_,fun k p hp=>?_⟩
 ·rw[List.getElem?_append_left (List.getElem?_eq_some_iff.1 hp).1];exact hp
 ·rw [Nat.add_assoc];exact h (l.length+k) p (by rw[List.getElem?_append_right (by omega),show l.length+k - l.length=k by omega];exact hp)
theorem seg_bl{L:List Tk.T4}{i:Nat}{l:List P}(h:Seg L i (bl l)):Seg L i l:=by
 cases l with
 | nil=>exact h
 | cons p l =>
   intro k q hq;cases k with
   | zero =>
     obtain⟨u,h1,h2⟩:=h 0 (true,p.2) rfl;have e:p=q:=(by simpa using hq);exact⟨u,h1,by rw[← e];exact h2⟩
   | succ k=>exact h (k+1) q (by simpa [bl] using hq)
theorem seg_len{L:List Tk.T4}{i:Nat}{l:List P}(h:Seg L i l)(hi:i≤L.length):i+l.length≤L.length:=by
 cases hl:l.length with
 | zero=>omega
 | succ n =>
   obtain⟨p,hp⟩:∃p,l[n]?=some p:=⟨_,List.getElem?_eq_getElem (by omega)⟩;obtain⟨u,h1,-⟩:=h n p hp;have:=(List.getElem?_eq_some_iff.1 h1).1;omega
def isT(t:Tk.T3)(w:ByteArray):Bool:=(decide (t.kind=1) || decide (t.kind=5)) && decide (t.text.data.toList=w.data.toList)
theorem isw_eq{L:List Tk.T4}{i:Nat}{t:Tk.T3}(h:∃u,L[i]?=some u∧u.t=t)(w:ByteArray):isw L i w=isT t w:=by
 obtain⟨u,h1,rfl⟩:=h;unfold isw;rw[h1];rfl
def Pr(L:List Tk.T4)(nt:NT)(i:Nat)(x:Ch)(j:Nat):Prop:=i≤L.length∧j≤L.length∧pv L nt i=(some x,j)
theorem pr_of{L:List Tk.T4}{nt:NT}{i:Nat}{x:Ch}{j:Nat}(hi:i≤L.length)(h:pv L nt i=(some x,j)):Pr L nt i x j:=by
 have q:=(pv_adv L nt i hi).2.1;rw[h] at q;exact⟨hi,q,h⟩
structure Stp (L:List Tk.T4) (j:Nat):Prop where
 star:isw L j wStar=false
 slash:isw L j wSlash=false
 plus:isw L j wPlus=false
 minus:isw L j wMinus=false
 less:isw L j wLess=false
 leq:isw L j wLeq=false
 eq:isw L j wEq=false
 in':isw L j wIn=false
 and':isw L j wAnd=false
 or':isw L j wOr=false
 imp:isw L j wImplies=false
theorem ff{p:Bool}(h:p=false):¬p=true:=by rw[h];decide
section
variable {L:List Tk.T4} {i j k m:Nat} {x y z:Ch}
theorem tm_of(h:Pr L .fc i x j)(h1:isw L j wStar=false)(h2:isw L j wSlash=false):Pr L .tm i x j:=by
 refine pr_of h.1 ?_;rw[pv_step L _ i h.1]
 show bnd (pv L .fc i) (fun x j=>pv L (.tmL x) j)=_
 rw[h.2.2]
 show pv L (.tmL x) j=_
 rw[pv_step L _ j h.2.1]
 show(if isw L j wStar=true then _ else if isw L j wSlash=true then _ else _)=_
 rw[if_neg (ff h1),if_neg (ff h2)]
theorem tm_two(op:Int)(h:Pr L .fc i x j)(ho:op=10∧isw L j wStar=true∨op=11∧isw L j wStar=false∧isw L j wSlash=true)(h2:Pr L .fc (j+1) y k)(s:Stp L k):Pr L .tm i (tn op [x,y]) k:=by
 refine pr_of h.1 ?_;rw[pv_step L _ i h.1]
 show bnd (pv L .fc i) (fun x j=>pv L (.tmL x) j)=_
 rw[h.2.2]
 show pv L (.tmL x) j=_
 rw[pv_step L _ j h.2.1]
 have e:∀z,pv L (.tmL z) k=(some z,k):=fun z=>by
  rw[pv_step L _ k h2.2.1]
  show(if isw L k wStar=true then _ else if isw L k wSlash=true then _ else _)=_
  rw[if_neg (ff s.star),if_neg (ff s.slash)]
 show(if isw L j wStar=true then bnd (pv L .fc (j+1)) (fun y j=>pv L (.tmL (tn 10 [x,y])) j) else if isw L j wSlash=true then bnd (pv L .fc (j+1)) (fun y j=>pv L (.tmL (tn 11 [x,y])) j) else _)=_
 rcases ho with ⟨rfl,q⟩|⟨rfl,q,q2⟩
 ·rw[if_pos q,h2.2.2];exact e _
 ·rw[if_neg (ff q),if_pos q2,h2.2.2];exact e _
theorem sm_of(h:Pr L .tm i x j)(h1:isw L j wPlus=false)(h2:isw L j wMinus=false):Pr L .sm i x j:=by
 refine pr_of h.1 ?_;rw[pv_step L _ i h.1]
 show bnd (pv L .tm i) (fun x j=>pv L (.smL x) j)=_
 rw[h.2.2]
 show pv L (.smL x) j=_
 rw[pv_step L _ j h.2.1]
 show(if isw L j wPlus=true then _ else if isw L j wMinus=true then _ else _)=_
 rw[if_neg (ff h1),if_neg (ff h2)]
theorem sm_two(op:Int)(h:Pr L .tm i x j)(ho:op=8∧isw L j wPlus=true∨op=9∧isw L j wPlus=false∧isw L j wMinus=true)(h2:Pr L .tm (j+1) y k)(s:Stp L k):Pr L .sm i (tn op [x,y]) k:=by
 refine pr_of h.1 ?_;rw[pv_step L _ i h.1]
 show bnd (pv L .tm i) (fun x j=>pv L (.smL x) j)=_
 rw[h.2.2]
 show pv L (.smL x) j=_
 rw[pv_step L _ j h.2.1]
 have e:∀z,pv L (.smL z) k=(some z,k):=fun z=>by
  rw[pv_step L _ k h2.2.1]
  show(if isw L k wPlus=true then _ else if isw L k wMinus=true then _ else _)=_
  rw[if_neg (ff s.plus),if_neg (ff s.minus)]
 show(if isw L j wPlus=true then bnd (pv L .tm (j+1)) (fun y j=>pv L (.smL (tn 8 [x,y])) j) else if isw L j wMinus=true then bnd (pv L .tm (j+1)) (fun y j=>pv L (.smL (tn 9 [x,y])) j) else _)=_
 rcases ho with ⟨rfl,q⟩|⟨rfl,q,q2⟩
 ·rw[if_pos q,h2.2.2];exact e _
 ·rw[if_neg (ff q),if_pos q2,h2.2.2];exact e _
theorem cm_of(h:Pr L .sm i x j)(h1:isw L j wLess=false)(h2:isw L j wLeq=false)(h3:isw L j wEq=false)(h4:isw L j wIn=false):Pr L .cm i x j:=by
 refine pr_of h.1 ?_;rw[pv_step L _ i h.1]
 show bnd (pv L .sm i) (fun x j=>if isw L j wLess=true then _ else if isw L j wLeq=true then _ else if isw L j wEq=true then _ else if isw L j wIn=true then _ else (some x,j))=_
 rw[h.2.2]
 show(if isw L j wLess=true then _ else if isw L j wLeq=true then _ else if isw L j wEq=true then _ else if isw L j wIn=true then _ else (some x,j))=_
 rw[if_neg (ff h1),if_neg (ff h2),if_neg (ff h3),if_neg (ff h4)]
theorem cm_two(op:Int)(h:Pr L .sm i x j)(ho:op=16∧isw L j wLess=true∨op=17∧isw L j wLess=false∧isw L j wLeq=true∨op=18∧isw L j wLess=false∧isw L j wLeq=false∧isw L j wEq=true)(h2:Pr L .sm (j+1) y k):Pr L .cm i (tn op [x,y]) k:=by
 refine pr_of h.1 ?_;rw[pv_step L _ i h.1]
 show bnd (pv L .sm i) (fun x j=>if isw L j wLess=true then bnd (pv L .sm (j+1)) (fun y k=>(some (tn 16 [x,y]),k)) else if isw L j wLeq=true then bnd (pv L .sm (j+1)) (fun y k=>(some (tn 17 [x,y]),k)) else if isw L j wEq=true then bnd (pv L .sm (j+1)) (fun y k=>(some (tn 18 [x,y]),k)) else _)=_
 rw[h.2.2]
 show(if isw L j wLess=true then bnd (pv L .sm (j+1)) (fun y k=>(some (tn 16 [x,y]),k)) else if isw L j wLeq=true then bnd (pv L .sm (j+1)) (fun y k=>(some (tn 17 [x,y]),k)) else if isw L j wEq=true then bnd (pv L .sm (j+1)) (fun y k=>(some (tn 18 [x,y]),k)) else _)=_
 rcases ho with ⟨rfl,q⟩|⟨rfl,q,q2⟩|⟨rfl,q,q2,q3⟩
 ·rw[if_pos q,h2.2.2];rfl
 ·rw[if_neg (ff q),if_pos q2,h2.2.2];rfl
 ·rw[if_neg (ff q),if_neg (ff q2),if_pos q3,h2.2.2];rfl
theorem cm_in(h:Pr L .sm i x j)(q1:isw L j wLess=false)(q2:isw L j wLeq=false)(q3:isw L j wEq=false)(q4:isw L j wIn=true)(h2:Pr L .sm (j+1) y k)(q5:isw L k wTo=true)(h3:Pr L .sm (k+1) z m):Pr L .cm i (tn 15 [x,y,z]) m:=by
 refine pr_of h.1 ?_;rw[pv_step L _ i h.1]
 show bnd (pv L .sm i) (fun x j=>if isw L j wLess=true then _ else if isw L j wLeq=true then _ else if isw L j wEq=true then _ else if isw L j wIn=true then pv L (.bd x) (j+1) else (some x,j))=_
 rw[h.2.2]
 show(if isw L j wLess=true then _ else if isw L j wLeq=true then _ else if isw L j wEq=true then _ else if isw L j wIn=true then pv L (.bd x) (j+1) else (some x,j))=_
 rw[if_neg (ff q1),if_neg (ff q2),if_neg (ff q3),if_pos q4,pv_step L _ (j+1) h2.1]
 show bnd (pv L .sm (j+1)) (fun y j=>if isw L j wTo=true then bnd (pv L .sm (j+1)) (fun z k=>(some (tn 15 [x,y,z]),k)) else (none,j))=_
 rw[h2.2.2]
 show(if isw L k wTo=true then bnd (pv L .sm (k+1)) (fun z k=>(some (tn 15 [x,y,z]),k)) else (none,k))=_
 rw[if_pos q5,h3.2.2];rfl
theorem ng_of(h:Pr L .cm i x j)(h1:isw L i wNot=false):Pr L .ng i x j:=by
 refine pr_of h.1 ?_;rw[pv_step L _ i h.1]
 show(if isw L i wNot=true then _ else pv L .cm i)=_
 rw[if_neg (ff h1),h.2.2]
theorem ng_not(h:isw L i wNot=true)(h2:Pr L .ng (i+1) x j):Pr L .ng i (tn 19 [x]) j:=by
 have hi:i≤L.length:=by have:=h2.1;omega
 refine pr_of hi ?_;rw[pv_step L _ i hi]
 show(if isw L i wNot=true then bnd (pv L .ng (i+1)) (fun x j=>(some (tn 19 [x]),j)) else _)=_
 rw[if_pos h,h2.2.2];rfl
theorem cj_of(h:Pr L .ng i x j)(h1:isw L j wAnd=false):Pr L .cj i x j:=by
 refine pr_of h.1 ?_;rw[pv_step L _ i h.1]
 show bnd (pv L .ng i) (fun x j=>pv L (.cjL x) j)=_
 rw[h.2.2]
 show pv L (.cjL x) j=_
 rw[pv_step L _ j h.2.1]
 show(if isw L j wAnd=true then _ else _)=_
 rw[if_neg (ff h1)]
theorem cj_two(h:Pr L .ng i x j)(ho:isw L j wAnd=true)(h2:Pr L .ng (j+1) y k)(s:Stp L k):Pr L .cj i (tn 20 [x,y]) k:=by
 refine pr_of h.1 ?_;rw[pv_step L _ i h.1]
 show bnd (pv L .ng i) (fun x j=>pv L (.cjL x) j)=_
 rw[h.2.2]
 show pv L (.cjL x) j=_
 rw[pv_step L _ j h.2.1]
 show(if isw L j wAnd=true then bnd (pv L .ng (j+1)) (fun y j=>pv L (.cjL (tn 20 [x,y])) j) else _)=_
 rw[if_pos ho,h2.2.2]
 show pv L (.cjL (tn 20 [x,y])) k=_
 rw[pv_step L _ k h2.2.1]
 show(if isw L k wAnd=true then _ else _)=_
 rw[if_neg (ff s.and')]
theorem dj_of(h:Pr L .cj i x j)(h1:isw L j wOr=false):Pr L .dj i x j:=by
 refine pr_of h.1 ?_;rw[pv_step L _ i h.1]
 show bnd (pv L .cj i) (fun x j=>pv L (.djL x) j)=_
 rw[h.2.2]
 show pv L (.djL x) j=_
 rw[pv_step L _ j h.2.1]
 show(if isw L j wOr=true then _ else _)=_
 rw[if_neg (ff h1)]
theorem dj_two(h:Pr L .cj i x j)(ho:isw L j wOr=true)(h2:Pr L .cj (j+1) y k)(s:Stp L k):Pr L .dj i (tn 21 [x,y]) k:=by
 refine pr_of h.1 ?_;rw[pv_step L _ i h.1]
 show bnd (pv L .cj i) (fun x j=>pv L (.djL x) j)=_
 rw[h.2.2]
 show pv L (.djL x) j=_
 rw[pv_step L _ j h.2.1]
 show(if isw L j wOr=true then bnd (pv L .cj (j+1)) (fun y j=>pv L (.djL (tn 21 [x,y])) j) else _)=_
 rw[if_pos ho,h2.2.2]
 show pv L (.djL (tn 21 [x,y])) k=_
 rw[pv_step L _ k h2.2.1]
 show(if isw L k wOr=true then _ else _)=_
 rw[if_neg (ff s.or')]
theorem ex_of(h:Pr L .dj i x j)(h1:isw L j wImplies=false):Pr L .ex i x j:=by
 refine pr_of h.1 ?_;rw[pv_step L _ i h.1]
 show bnd (pv L .dj i) (fun x j=>if isw L j wImplies=true then _ else (some x,j))=_
 rw[h.2.2]
 show(if isw L j wImplies=true then _ else (some x,j))=_
 rw[if_neg (ff h1)]
theorem ex_two(h:Pr L .dj i x j)(ho:isw L j wImplies=true)(h2:Pr L .ex (j+1) y k):Pr L .ex i (tn 22 [x,y]) k:=by
 refine pr_of h.1 ?_;rw[pv_step L _ i h.1]
 show bnd (pv L .dj i) (fun x j=>if isw L j wImplies=true then bnd (pv L .ex (j+1)) (fun y k=>(some (tn 22 [x,y]),k)) else (some x,j))=_
 rw[h.2.2]
 show(if isw L j wImplies=true then bnd (pv L .ex (j+1)) (fun y k=>(some (tn 22 [x,y]),k)) else (some x,j))=_
 rw[if_pos ho,h2.2.2];rfl
theorem ex_ng(h:Pr L .ng i x j)(s:Stp L j):Pr L .ex i x j:=ex_of (dj_of (cj_of h s.and') s.or') s.imp
theorem ex_cm(h:Pr L .cm i x j)(hn:isw L i wNot=false)(s:Stp L j):Pr L .ex i x j:=ex_ng (ng_of h hn) s
theorem ex_sm(h:Pr L .sm i x j)(hn:isw L i wNot=false)(s:Stp L j):Pr L .ex i x j:=ex_cm (cm_of h s.less s.leq s.eq s.in') hn s
theorem ex_tm(h:Pr L .tm i x j)(hn:isw L i wNot=false)(s:Stp L j):Pr L .ex i x j:=ex_sm (sm_of h s.plus s.minus) hn s
theorem ex_fc(h:Pr L .fc i x j)(hn:isw L i wNot=false)(s:Stp L j):Pr L .ex i x j:=ex_tm (tm_of h s.star s.slash) hn s
end
end Fp
namespace Fp
open Pz
theorem attr_first{l:List UInt8}(h:Nam.attr l=true):Nam.lowB (l.getD 0 0)=true:=by
 have one:∀m,Nam.isName m=true→Nam.lowB (m.getD 0 0)=true∧1≤m.length:=fun m q=>by
  unfold Nam.isName at q;rw[decide_eq_true_eq] at q;exact⟨q.2.2.1,q.1⟩
 unfold Nam.attr at h
 by_cases h1:Lib.indexByte l 46 = -1
 ·rw [if_pos h1] at h;unfold Nam.declName at h;rw[Bool.and_eq_true] at h;exact(one _ h.1).1
 ·rw [if_neg h1,Bool.and_eq_true] at h;obtain⟨q1,q2⟩:=one _ h.1;rw[List.getD_eq_getElem?_getD,List.getElem?_take] at q1;rw[List.length_take] at q2;rw[if_pos (by omega),← List.getD_eq_getElem?_getD] at q1;exact q1
theorem idx_none{l:List UInt8}{c:UInt8}(h:c ∉ l):Lib.indexByte l c = -1:=by
 induction l with
 | nil=>rfl
 | cons a l ih =>
   rw[List.mem_cons,not_or] at h;have e:(a==c)=false:=by rw[beq_eq_false_iff_ne];exact fun q=>h.1 q.symm
   show(if a==c then (0:Int) else if Lib.indexByte l c == -1 then -1 else Lib.indexByte l c+1) = -1
   rw[e,ih h.2];rfl
theorem attr_ne{s:ByteArray}(h:zv s=true){w:ByteArray}(hx:w.data.toList∈ Nam.words∨Nam.lowB (w.data.toList.getD 0 0)=false):isT (wd s) w=false:=by
 unfold isT;rw[Bool.and_eq_false_iff];right;rw[decide_eq_false_iff_not];intro e;have e2:s.data.toList=w.data.toList:=e;have h2:Nam.attr w.data.toList=true:=by rw[← e2];exact h
 rcases hx with hx|hx
 ·have no46:∀x∈ Nam.words,(46:UInt8) ∉ x:=by decide
  unfold Nam.attr at h2;rw[idx_none (no46 _ hx),if_pos rfl] at h2;unfold Nam.declName at h2;rw[Bool.and_eq_true] at h2
  have h3:Nam.reserved w.data.toList=true:=by
   unfold Nam.reserved;rw[List.any_eq_true];exact⟨_,hx,by simp⟩
  rw[h3] at h2;exact absurd h2.2 (by decide)
 ·have:=attr_first h2;rw[hx] at this;cases this
section
variable {L:List Tk.T4} {i j k m:Nat} {x y z:Ch} {t:Tk.T3}
theorem fc_eq(hi:i≤L.length):pv L .fc i =
 (if isw L i wMinus=true then bnd (pv L .fc (i+1)) fun x j=>(some (tn 7 [x]),j)
   else if isw L i wTrue=true then (some (lf 4 0 ⟨#[]⟩),i+1)
   else if isw L i wFalse=true then (some (lf 5 0 ⟨#[]⟩),i+1)
   else if isw L i wMin=true then pv L (.li 12) (i+1)
   else if isw L i wMax=true then pv L (.li 13) (i+1)
   else if isw L i wIf=true then bnd (pv L .ex (i+1)) fun a j=>if isw L j wThen=true then bnd (pv L .ex (j+1)) fun b k=>if isw L k wElse=true then bnd (pv L .ex (k+1)) fun c m=>(some (tn 14 [a,b,c]),m) else (none,k) else (none,j)
   else if isw L i wOpen=true then bnd (pv L .ex (i+1)) fun x j=>if isw L j wShut=true then (some x,j+1) else (none,j)
   else leaf L i):=by
 rw[pv_step L _ i hi];rfl
def At(L:List Tk.T4)(i:Nat)(t:Tk.T3):Prop:=∃u,L[i]?=some u∧u.t=t
theorem At.lt(h:At L i t):i < L.length:=by obtain⟨u,h1,-⟩:=h;exact(List.getElem?_eq_some_iff.1 h1).1
theorem fc_leaf(h:At L i t)(h1:isT t wMinus=false)(h2:isT t wTrue=false)(h3:isT t wFalse=false)(h4:isT t wMin=false)(h5:isT t wMax=false)(h6:isT t wIf=false)(h7:isT t wOpen=false)(hl:leafT t=some x):Pr L .fc i x (i+1):=by
 have hi:=h.lt;refine pr_of (by omega) ?_;rw[fc_eq (by omega),isw_eq h,h1,isw_eq h,h2,isw_eq h,h3,isw_eq h,h4,isw_eq h,h5,isw_eq h,h6,isw_eq h,h7];obtain⟨u,hu,rfl⟩:=h
 show leaf L i=_
 unfold leaf;rw[hu]
 show(match leafT u.t with|some x=>(some x,i+1)|none=>(none,i))=_
 rw[hl]
theorem fc_true(h:At L i (wd wTrue)):Pr L .fc i (lf 4 0 ⟨#[]⟩) (i+1):=by
 have hi:=h.lt;refine pr_of (by omega) ?_;rw[fc_eq (by omega),isw_eq h,show isT (wd wTrue) wMinus=false by decide,isw_eq h,show isT (wd wTrue) wTrue=true by decide];rfl
theorem fc_false(h:At L i (wd wFalse)):Pr L .fc i (lf 5 0 ⟨#[]⟩) (i+1):=by
 have hi:=h.lt;refine pr_of (by omega) ?_;rw[fc_eq (by omega),isw_eq h,show isT (wd wFalse) wMinus=false by decide,isw_eq h,show isT (wd wFalse) wTrue=false by decide,isw_eq h,show isT (wd wFalse) wFalse=true by decide];rfl
theorem fc_neg(h:At L i (sg wMinus))(h2:Pr L .fc (i+1) x j):Pr L .fc i (tn 7 [x]) j:=by
 have hi:=h.lt;refine pr_of (by omega) ?_;rw[fc_eq (by omega),isw_eq h,show isT (sg wMinus) wMinus=true by decide]
 show bnd (pv L .fc (i+1)) _=_
 rw[h2.2.2];rfl
theorem fc_paren(h:At L i (sg wOpen))(h2:Pr L .ex (i+1) x j)(h3:At L j (sg wShut)):Pr L .fc i x (j+1):=by
 have hi:=h.lt;refine pr_of (by omega) ?_;rw[fc_eq (by omega),isw_eq h,show isT (sg wOpen) wMinus=false by decide,isw_eq h,show isT (sg wOpen) wTrue=false by decide,isw_eq h,show isT (sg wOpen) wFalse=false by decide,isw_eq h,show isT (sg wOpen) wMin=false by decide,isw_eq h,show isT (sg wOpen) wMax=false by decide,isw_eq h,show isT (sg wOpen) wIf=false by decide,isw_eq h,show isT (sg wOpen) wOpen=true by decide]
 show bnd (pv L .ex (i+1)) _=_
 rw[h2.2.2]
 show(if isw L j wShut=true then _ else _)=_
 rw[isw_eq h3,show isT (sg wShut) wShut=true by decide];rfl
theorem fc_if(h:At L i (wd wIf))(h1:Pr L .ex (i+1) x j)(h2:At L j (wd wThen))(h3:Pr L .ex (j+1) y k)(h4:At L k (wd wElse))(h5:Pr L .ex (k+1) z m):Pr L .fc i (tn 14 [x,y,z]) m:=by
 have hi:=h.lt;refine pr_of (by omega) ?_;rw[fc_eq (by omega),isw_eq h,show isT (wd wIf) wMinus=false by decide,isw_eq h,show isT (wd wIf) wTrue=false by decide,isw_eq h,show isT (wd wIf) wFalse=false by decide,isw_eq h,show isT (wd wIf) wMin=false by decide,isw_eq h,show isT (wd wIf) wMax=false by decide,isw_eq h,show isT (wd wIf) wIf=true by decide]
 show bnd (pv L .ex (i+1)) _=_
 rw[h1.2.2]
 show(if isw L j wThen=true then _ else _)=_
 rw[isw_eq h2,show isT (wd wThen) wThen=true by decide]
 show bnd (pv L .ex (j+1)) _=_
 rw[h3.2.2]
 show(if isw L k wElse=true then _ else _)=_
 rw[isw_eq h4,show isT (wd wElse) wElse=true by decide]
 show bnd (pv L .ex (k+1)) _=_
 rw[h5.2.2];rfl
theorem fc_list(op:Int)(w:ByteArray)(hw:op=12∧w=wMin∨op=13∧w=wMax)(h:At L i (wd w))(h2:At L (i+1) (sg wOpen))(h3:Pr L (.liL op []) (i+2) x j):Pr L .fc i x j:=by
 have hi:=h.lt;have hi2:=h2.lt;refine pr_of (by omega) ?_
 have li:pv L (.li op) (i+1)=(some x,j):=by
  rw[pv_step L _ (i+1) (by omega)]
  show(if isw L (i+1) wOpen=true then pv L (.liL op []) (i+1+1) else _)=_
  rw[isw_eq h2,show isT (sg wOpen) wOpen=true by decide];exact h3.2.2
 rcases hw with ⟨rfl,rfl⟩|⟨rfl,rfl⟩
 ·rw [fc_eq (by omega),isw_eq h,show isT (wd wMin) wMinus=false by decide,isw_eq h,show isT (wd wMin) wTrue=false by decide,isw_eq h,show isT (wd wMin) wFalse=false by decide,isw_eq h,show isT (wd wMin) wMin=true by decide];exact li
 ·rw [fc_eq (by omega),isw_eq h,show isT (wd wMax) wMinus=false by decide,isw_eq h,show isT (wd wMax) wTrue=false by decide,isw_eq h,show isT (wd wMax) wFalse=false by decide,isw_eq h,show isT (wd wMax) wMin=false by decide,isw_eq h,show isT (wd wMax) wMax=true by decide];exact li
theorem li_last(op:Int)(l:List Ch)(hl:1≤l.length)(h:Pr L .ex i x j)(h2:At L j (sg wShut)):Pr L (.liL op l) i (tn op (l++[x])) (j+1):=by
 refine pr_of h.1 ?_;rw[pv_step L _ i h.1]
 show bnd (pv L .ex i) (fun a j=>if 1≤l.length∧isw L j wShut=true then (some (tn op (l++[a])),j+1) else if isw L j wComma=true then pv L (.liL op (l++[a])) (j+1) else (none,j))=_
 rw[h.2.2]
 show(if 1≤l.length∧isw L j wShut=true then (some (tn op (l++[x])),j+1) else _)=_
 rw[isw_eq h2,if_pos ⟨hl,by decide⟩]
theorem li_more(op:Int)(l:List Ch)(h:Pr L .ex i x j)(h2:At L j (sg wComma))(h3:Pr L (.liL op (l++[x])) (j+1) y k):Pr L (.liL op l) i y k:=by
 refine pr_of h.1 ?_;rw[pv_step L _ i h.1]
 show bnd (pv L .ex i) (fun a j=>if 1≤l.length∧isw L j wShut=true then (some (tn op (l++[a])),j+1) else if isw L j wComma=true then pv L (.liL op (l++[a])) (j+1) else (none,j))=_
 rw[h.2.2]
 show(if 1≤l.length∧isw L j wShut=true then _ else if isw L j wComma=true then pv L (.liL op (l++[x])) (j+1) else _)=_
 rw[isw_eq h2,if_neg (fun q=>absurd q.2 (by decide)),isw_eq h2,show isT (sg wComma) wComma=true by decide];exact h3.2.2
theorem stp_of(h:At L i t)(q1:isT t wStar=false)(q2:isT t wSlash=false)(q3:isT t wPlus=false)(q4:isT t wMinus=false)(q5:isT t wLess=false)(q6:isT t wLeq=false)(q7:isT t wEq=false)(q8:isT t wIn=false)(q9:isT t wAnd=false)(q10:isT t wOr=false)(q11:isT t wImplies=false):Stp L i :=
 ⟨by rw[isw_eq h];exact q1,by rw[isw_eq h];exact q2,by rw[isw_eq h];exact q3,by rw[isw_eq h];exact q4,by rw[isw_eq h];exact q5,by rw[isw_eq h];exact q6,by rw[isw_eq h];exact q7,by rw[isw_eq h];exact q8,by rw[isw_eq h];exact q9,by rw[isw_eq h];exact q10,by rw[isw_eq h];exact q11⟩
theorem stp_shut(h:At L i (sg wShut)):Stp L i:=stp_of h (by decide) (by decide) (by decide) (by decide) (by decide) (by decide) (by decide) (by decide) (by decide) (by decide) (by decide)
theorem stp_comma(h:At L i (sg wComma)):Stp L i:=stp_of h (by decide) (by decide) (by decide) (by decide) (by decide) (by decide) (by decide) (by decide) (by decide) (by decide) (by decide)
theorem stp_then(h:At L i (wd wThen)):Stp L i:=stp_of h (by decide) (by decide) (by decide) (by decide) (by decide) (by decide) (by decide) (by decide) (by decide) (by decide) (by decide)
theorem stp_else(h:At L i (wd wElse)):Stp L i:=stp_of h (by decide) (by decide) (by decide) (by decide) (by decide) (by decide) (by decide) (by decide) (by decide) (by decide) (by decide)
theorem stp_end(h:L.length≤i):Stp L i:=by
 have e:∀w,isw L i w=false:=fun w=>by
  unfold isw;rw[List.getElem?_eq_none h]
 exact⟨e _,e _,e _,e _,e _,e _,e _,e _,e _,e _,e _⟩
end
end Fp
namespace Fp
open Pz
section
variable {L:List Tk.T4} {i j k m:Nat} {x y z:Ch} {t:Tk.T3}
theorem sm_fc(h:Pr L .fc i x j)(h1:isw L j wStar=false)(h2:isw L j wSlash=false)(h3:isw L j wPlus=false)(h4:isw L j wMinus=false):Pr L .sm i x j:=sm_of (tm_of h h1 h2) h3 h4
theorem ng_fc(h:Pr L .fc i x j)(hn:isw L i wNot=false)(h1:isw L j wStar=false)(h2:isw L j wSlash=false)(h3:isw L j wPlus=false)(h4:isw L j wMinus=false)(h5:isw L j wLess=false)(h6:isw L j wLeq=false)(h7:isw L j wEq=false)(h8:isw L j wIn=false):Pr L .ng i x j:=ng_of (cm_of (sm_fc h h1 h2 h3 h4) h5 h6 h7 h8) hn
theorem ng_stp(h:Pr L .fc i x j)(hn:isw L i wNot=false)(s:Stp L j):Pr L .ng i x j:=ng_fc h hn s.star s.slash s.plus s.minus s.less s.leq s.eq s.in'
theorem bin_ex(op:Int)(hop:op=8∨op=9∨op=10∨op=11∨op=16∨op=17∨op=18∨op=20∨op=21∨op=22)(hx:Pr L .fc i x j)(hn:isw L i wNot=false)(ht:At L j (opW op))(hy:Pr L .fc (j+1) y k)(hn2:isw L (j+1) wNot=false)(s:Stp L k):Pr L .ex i (tn op [x,y]) k:=by
 have q:∀w b,isT (opW op) w=b→isw L j w=b:=fun w b e=>by rw[isw_eq ht];exact e
 rcases hop with rfl|rfl|rfl|rfl|rfl|rfl|rfl|rfl|rfl|rfl
 ·exact ex_sm (sm_two 8 (tm_of hx (q _ _ (by decide)) (q _ _ (by decide))) (.inl ⟨rfl,q _ _ (by decide)⟩) (tm_of hy s.star s.slash) s) hn s
 ·exact ex_sm (sm_two 9 (tm_of hx (q _ _ (by decide)) (q _ _ (by decide))) (.inr ⟨rfl,q _ _ (by decide),q _ _ (by decide)⟩) (tm_of hy s.star s.slash) s) hn s
 ·exact ex_tm (tm_two 10 hx (.inl ⟨rfl,q _ _ (by decide)⟩) hy s) hn s
 ·exact ex_tm (tm_two 11 hx (.inr ⟨rfl,q _ _ (by decide),q _ _ (by decide)⟩) hy s) hn s
 ·exact ex_cm (cm_two 16 (sm_fc hx (q _ _ (by decide)) (q _ _ (by decide)) (q _ _ (by decide)) (q _ _ (by decide))) (.inl ⟨rfl,q _ _ (by decide)⟩) (sm_fc hy s.star s.slash s.plus s.minus)) hn s
 ·exact ex_cm (cm_two 17 (sm_fc hx (q _ _ (by decide)) (q _ _ (by decide)) (q _ _ (by decide)) (q _ _ (by decide))) (.inr (.inl ⟨rfl,q _ _ (by decide),q _ _ (by decide)⟩)) (sm_fc hy s.star s.slash s.plus s.minus)) hn s
 ·exact ex_cm (cm_two 18 (sm_fc hx (q _ _ (by decide)) (q _ _ (by decide)) (q _ _ (by decide)) (q _ _ (by decide))) (.inr (.inr ⟨rfl,q _ _ (by decide),q _ _ (by decide),q _ _ (by decide)⟩)) (sm_fc hy s.star s.slash s.plus s.minus)) hn s
 ·exact ex_of (dj_of (cj_two (ng_fc hx hn (q _ _ (by decide)) (q _ _ (by decide)) (q _ _ (by decide)) (q _ _ (by decide)) (q _ _ (by decide)) (q _ _ (by decide)) (q _ _ (by decide)) (q _ _ (by decide))) (q _ _ (by decide)) (ng_stp hy hn2 s) s) s.or') s.imp
 ·exact ex_of (dj_two (cj_of (ng_fc hx hn (q _ _ (by decide)) (q _ _ (by decide)) (q _ _ (by decide)) (q _ _ (by decide)) (q _ _ (by decide)) (q _ _ (by decide)) (q _ _ (by decide)) (q _ _ (by decide))) (q _ _ (by decide))) (q _ _ (by decide)) (cj_of (ng_stp hy hn2 s) s.and') s) s.imp
 ·exact ex_two (dj_of (cj_of (ng_fc hx hn (q _ _ (by decide)) (q _ _ (by decide)) (q _ _ (by decide)) (q _ _ (by decide)) (q _ _ (by decide)) (q _ _ (by decide)) (q _ _ (by decide)) (q _ _ (by decide))) (q _ _ (by decide))) (q _ _ (by decide))) (q _ _ (by decide)) (ex_fc hy hn2 s)
end
def GoodC(c:Ch):Prop:=∀(L:List Tk.T4)(i:Nat),i≤L.length→
 (Seg L i (I c)→Pr L .fc i (nr c) (i+(I c).length)∧isw L i wNot=false)∧
 (Seg L i (F c)→Stp L (i+(F c).length)→Pr L .ex i (nr c) (i+(F c).length))
theorem nr_tn(c:Ch)(h1:c.a.num=0)(h2:c.a.name.size=0):nr c=tn c.a.op ((kl c.k).map nr):=by
 have e:c.a.name=⟨#[]⟩:=by
  apply ByteArray.ext;apply Array.eq_empty_of_size_eq_zero;exact h2
 show(⟨0,0,⟨c.a.op,c.a.num,c.a.name,none,0⟩,nrm c.k⟩:Ch)=⟨0,0,⟨c.a.op,0,⟨#[]⟩,none,0⟩,qC ((kl c.k).map nr)⟩
 rw[h1,e,nrm_kl]
theorem good_of_ex(c:Ch)(hk:¬(len c.k=0∨c.a.op=12∨c.a.op=13))(hB:∀(L:List Tk.T4)(i:Nat),i≤L.length→Seg L i (F c)→Stp L (i+(F c).length)→Pr L .ex i (nr c) (i+(F c).length)):GoodC c:=by
 intro L i hi;refine⟨fun hs=>?_,fun hs s=>hB L i hi hs s⟩;have e:I c=(false,sg wOpen) :: (F c++[(false,sg wShut)]):=by unfold I tI;rw[if_neg hk]
 rw[e] at hs ⊢;obtain⟨h1,h2⟩:=seg_cons hs;obtain⟨h3,h4⟩:=seg_app h2;obtain⟨h5,-⟩:=seg_cons h4;have l1:=At.lt h1;have b:=hB L (i+1) (by omega) h3 (stp_shut h5);have r:=fc_paren h1 b h5;refine⟨?_,by rw[isw_eq h1];decide⟩;rw[List.length_cons,List.length_append,List.length_singleton,show i+((F c).length+1+1)=i+1+(F c).length+1 by omega];exact r
theorem good_of_fc(c:Ch)(hk:len c.k=0∨c.a.op=12∨c.a.op=13)(hA:∀(L:List Tk.T4)(i:Nat),i≤L.length→Seg L i (F c)→Pr L .fc i (nr c) (i+(F c).length)∧isw L i wNot=false):GoodC c:=by
 intro L i hi;have e:I c=F c:=by unfold I tI;rw[if_pos hk]
 rw[e];refine⟨fun hs=>hA L i hi hs,fun hs s=>?_⟩;obtain⟨h1,h2⟩:=hA L i hi hs;exact ex_fc h1 h2 s
theorem tK_one{k:Fo}{x:Ch}(h:kl k=[x]):tK k=[(F x,I x)]:=by rw[tK_kl,h];rfl
theorem tK_two{k:Fo}{x y:Ch}(h:kl k=[x,y]):tK k=[(F x,I x),(F y,I y)]:=by rw[tK_kl,h];rfl
theorem tK_three{k:Fo}{x y z:Ch}(h:kl k=[x,y,z]):tK k=[(F x,I x),(F y,I y),(F z,I z)]:=by rw[tK_kl,h];rfl
theorem len_one{l:List Ch}(h:l.length=1):∃x,l=[x]:=by
 match l,h with
 | [x],_=>exact⟨x,rfl⟩
theorem len_two{l:List Ch}(h:l.length=2):∃x y,l=[x,y]:=by
 match l,h with
 | [x,y],_=>exact⟨x,y,rfl⟩
theorem len_three{l:List Ch}(h:l.length=3):∃x y z,l=[x,y,z]:=by
 match l,h with
 | [x,y,z],_=>exact⟨x,y,z,rfl⟩
theorem good_list(op:Int){L:List Tk.T4}:∀(l A:List Ch)(i:Nat),i≤L.length→l≠[]→2≤A.length+l.length→(∀c∈ l,GoodC c)→Seg L i (jnC (l.map fun c=>(F c,I c))++[(false,sg wShut)])→
 Pr L (.liL op A) i (tn op (A++l.map nr)) (i+(jnC (l.map fun c=>(F c,I c))).length+1):=by
 intro l
 induction l with
 | nil=>intro A i _ h;exact absurd rfl h
 | cons c l ih =>
   intro A i hi _ hl hg hs;cases l with
   | nil =>
     have e:jnC ([c].map fun c=>(F c,I c))=F c:=rfl;rw[e] at hs ⊢;obtain⟨h1,h2⟩:=seg_app hs;obtain⟨h3,-⟩:=seg_cons h2;have b:=(hg c (by simp) L i hi).2 h1 (stp_shut h3);have r:=li_last op A (by simp at hl;omega) b h3
     simpa using r
   | cons d l =>
     have e:jnC ((c :: d :: l).map fun c=>(F c,I c))=F c++(false,sg wComma) :: bl (jnC ((d :: l).map fun c=>(F c,I c))):=rfl;rw[e,List.append_assoc,List.cons_append] at hs;obtain⟨h1,h2⟩:=seg_app hs;obtain⟨h3,h4⟩:=seg_cons h2;have b:=(hg c (by simp) L i hi).2 h1 (stp_comma h3);have l3:=At.lt h3
     have h5:Seg L (i+(F c).length+1) (jnC ((d :: l).map fun c=>(F c,I c))++[(false,sg wShut)]):=by
      have q:bl (jnC ((d :: l).map fun c=>(F c,I c)))++[(false,sg wShut)]=bl (jnC ((d :: l).map fun c=>(F c,I c))++[(false,sg wShut)])∨jnC ((d :: l).map fun c=>(F c,I c))=[]:=by
       cases jnC ((d :: l).map fun c=>(F c,I c)) with
       | nil=>exact .inr rfl
       | cons p q=>exact .inl rfl
      rcases q with q|q
      ·rw[q] at h4;exact seg_bl h4
      ·rw[q] at h4 ⊢;exact h4
     have r:=ih (A++[nr c]) (i+(F c).length+1) (by omega) (by simp) (by simp at hl ⊢;omega) (fun x hx=>hg x (by simp only[List.mem_cons] at hx ⊢;exact .inr hx)) h5;have r2:=li_more op A b h3 r
     rw [e,List.length_append,List.length_cons,bl_len,List.map_cons,show A++(nr c :: (d :: l).map nr)=A++[nr c]++(d :: l).map nr by simp,
      show i+((F c).length+((jnC ((d :: l).map fun c=>(F c,I c))).length+1))+1=i+(F c).length+1+(jnC ((d :: l).map fun c=>(F c,I c))).length+1 by omega]
     exact r2
end Fp
namespace Fp
open Pz
theorem lz0{k:Fo}(h:len k=0):k=.nil:=by
 cases k with
 | nil=>rfl
 | node b o a k r=>simp[len] at h
theorem fst_not{L:List Tk.T4}{i:Nat}{t:Tk.T3}(h:At L i t)(e:isT t wNot=false):isw L i wNot=false:=by rw[isw_eq h];exact e
theorem good_leaf(c:Ch)(t:Tk.T3)(hk:len c.k=0)(hF:F c=[(false,t)])(hl:leafT t=some (nr c))(h:∀w∈ [wMinus,wTrue,wFalse,wMin,wMax,wIf,wOpen,wNot],isT t w=false):GoodC c:=by
 refine good_of_fc c (.inl hk) fun L i hi hs=>?_;rw[hF] at hs ⊢;obtain⟨h1,-⟩:=seg_cons hs;exact⟨fc_leaf h1 (h _ (by simp)) (h _ (by simp)) (h _ (by simp)) (h _ (by simp)) (h _ (by simp)) (h _ (by simp)) (h _ (by simp)) hl,fst_not h1 (h _ (by simp))⟩
theorem nr_leaf(c:Ch)(hk:len c.k=0)(h2:c.a.name.size=0):nr c=lf c.a.op c.a.num ⟨#[]⟩:=by
 have e:c.a.name=⟨#[]⟩:=by
  apply ByteArray.ext;apply Array.eq_empty_of_size_eq_zero;exact h2
 have ek:c.k=.nil:=lz0 hk
 show(⟨0,0,⟨c.a.op,c.a.num,c.a.name,none,0⟩,nrm c.k⟩:Ch)=⟨0,0,⟨c.a.op,c.a.num,⟨#[]⟩,none,0⟩,.nil⟩
 rw[e,ek];rfl
theorem tF_eq(c:Ch)(n:Int)(h:c.a.op=n):F c=tF ⟨n,c.a.num,c.a.name,c.a.ptr,c.a.cap⟩ (tK c.k):=by
 unfold F;rw[← h]
theorem good_node(c:Ch)(hw:zk c.a (len c.k)=true)(hg:∀x∈ kl c.k,GoodC x):GoodC c:=by
 unfold zk at hw;rw[Bool.and_eq_true,Bool.and_eq_true,Bool.and_eq_true,decide_eq_true_eq] at hw;obtain⟨⟨⟨⟨o1,o2⟩,ha⟩,hn⟩,hm⟩:=hw;have hkl:=kl_len c.k;unfold j6 at ha;unfold j8 at hn;unfold zQ at hm
 have hop:c.a.op=1∨c.a.op=2∨c.a.op=3∨c.a.op=4∨c.a.op=5∨c.a.op=6∨c.a.op=7∨c.a.op=19∨c.a.op=12∨c.a.op=13∨c.a.op=14∨c.a.op=15∨
  (c.a.op=8∨c.a.op=9∨c.a.op=10∨c.a.op=11∨c.a.op=16∨c.a.op=17∨c.a.op=18∨c.a.op=20∨c.a.op=21∨c.a.op=22):=by omega
 rcases hop with h|h|h|h|h|h|h|h|h|h|h|h|h
 ·rw [h] at ha hn hm;have k0:len c.k=0:=(by have:=of_decide_eq_true ha;omega);have nm:c.a.name.size=0:=of_decide_eq_true hm;refine good_leaf c ⟨2,⟨#[]⟩,c.a.num⟩ k0 (by rw[tF_eq c 1 h];rfl) ?_ (fun w _=>rfl);rw[nr_leaf c k0 nm,h];rfl
 ·rw [h] at ha hn hm;have k0:len c.k=0:=(by have:=of_decide_eq_true ha;omega);have nm:c.a.name.size=0:=of_decide_eq_true hm;refine good_leaf c ⟨3,⟨#[]⟩,c.a.num⟩ k0 (by rw[tF_eq c 2 h];rfl) ?_ (fun w _=>rfl);rw[nr_leaf c k0 nm,h];rfl
 ·rw [h] at ha hn hm;have k0:len c.k=0:=(by have:=of_decide_eq_true ha;omega);have nm:c.a.name.size=0:=of_decide_eq_true hm;refine good_leaf c ⟨4,⟨#[]⟩,c.a.num⟩ k0 (by rw[tF_eq c 3 h];rfl) ?_ (fun w _=>rfl);rw[nr_leaf c k0 nm,h];rfl
 ·rw [h] at ha hn hm;have k0:len c.k=0:=(by have:=of_decide_eq_true ha;omega);have nm:c.a.name.size=0:=of_decide_eq_true hm;have n0:c.a.num=0:=of_decide_eq_true hn;refine good_of_fc c (.inl k0) fun L i hi hs=>?_;rw[tF_eq c 4 h] at hs ⊢;obtain⟨h1,-⟩:=seg_cons (p:=(false,wd wTrue)) (l:=[]) hs;rw[nr_leaf c k0 nm,h,n0];exact⟨fc_true h1,fst_not h1 (by decide)⟩
 ·rw [h] at ha hn hm;have k0:len c.k=0:=(by have:=of_decide_eq_true ha;omega);have nm:c.a.name.size=0:=of_decide_eq_true hm;have n0:c.a.num=0:=of_decide_eq_true hn;refine good_of_fc c (.inl k0) fun L i hi hs=>?_;rw[tF_eq c 5 h] at hs ⊢;obtain⟨h1,-⟩:=seg_cons (p:=(false,wd wFalse)) (l:=[]) hs;rw[nr_leaf c k0 nm,h,n0];exact⟨fc_false h1,fst_not h1 (by decide)⟩
 ·rw [h] at ha hn hm;have k0:len c.k=0:=(by have:=of_decide_eq_true ha;omega);have hat:zv c.a.name=true:=hm;have n0:c.a.num=0:=of_decide_eq_true hn;refine good_leaf c (wd c.a.name) k0 (by rw[tF_eq c 6 h];rfl) ?_ (fun w hw=>attr_ne hat ?_)
  ·show (if zv c.a.name=true then some (lf 6 0 c.a.name) else none)=_
   rw[if_pos hat];have ek:c.k=.nil:=lz0 k0
   show some _=some (⟨0,0,⟨c.a.op,c.a.num,c.a.name,none,0⟩,nrm c.k⟩:Ch)
   rw[h,n0,ek];rfl
  ·simp only [List.mem_cons,List.not_mem_nil,or_false] at hw;rcases hw with rfl|rfl|rfl|rfl|rfl|rfl|rfl|rfl
   ·exact .inr (by decide)
   ·exact .inl (by decide)
   ·exact .inl (by decide)
   ·exact .inl (by decide)
   ·exact .inl (by decide)
   ·exact .inl (by decide)
   ·exact .inr (by decide)
   ·exact .inl (by decide)
 ·rw [h] at ha hn hm;have k1:len c.k=1:=(by have:=of_decide_eq_true ha;omega);have nm:c.a.name.size=0:=of_decide_eq_true hm;have n0:c.a.num=0:=of_decide_eq_true hn;obtain⟨x,hx⟩:=len_one (hkl.trans k1);have gx:=hg x (by rw[hx];simp);refine good_of_ex c (by omega) fun L i hi hs s=>?_;have e:F c=(false,sg wMinus) :: I x:=(by rw[tF_eq c 7 h,tK_one hx];rfl);rw[e] at hs s ⊢;obtain⟨h1,h2⟩:=seg_cons hs;have l1:=At.lt h1;rw[nr_tn c n0 nm,h,hx];rw[List.length_cons,show i+((I x).length+1)=i+1+(I x).length by omega] at s ⊢;exact ex_fc (fc_neg h1 ((gx L (i+1) (by omega)).1 h2).1) (fst_not h1 (by decide)) s
 ·rw [h] at ha hn hm;have k1:len c.k=1:=(by have:=of_decide_eq_true ha;omega);have nm:c.a.name.size=0:=of_decide_eq_true hm;have n0:c.a.num=0:=of_decide_eq_true hn;obtain⟨x,hx⟩:=len_one (hkl.trans k1);have gx:=hg x (by rw[hx];simp);refine good_of_ex c (by omega) fun L i hi hs s=>?_;have e:F c=(false,wd wNot) :: bl (I x):=(by rw[tF_eq c 19 h,tK_one hx];rfl);rw[e] at hs s ⊢;obtain⟨h1,h2⟩:=seg_cons hs;have l1:=At.lt h1;rw[nr_tn c n0 nm,h,hx];rw[List.length_cons,bl_len,show i+((I x).length+1)=i+1+(I x).length by omega] at s ⊢;obtain⟨q1,q2⟩:=(gx L (i+1) (by omega)).1 (seg_bl h2);exact ex_ng (ng_not (by rw[isw_eq h1];decide) (ng_stp q1 q2 s)) s
 ·rw [h] at ha hn hm;have k2:2≤len c.k:=(by have:=of_decide_eq_true ha;omega);have nm:c.a.name.size=0:=of_decide_eq_true hm;have n0:c.a.num=0:=of_decide_eq_true hn;refine good_of_fc c (.inr (.inl h)) fun L i hi hs=>?_;have e:F c=(false,wd wMin) :: (false,sg wOpen) :: (jnC ((kl c.k).map fun c=>(F c,I c))++[(false,sg wShut)]):=(by rw[tF_eq c 12 h,tK_kl];rfl);rw[e] at hs ⊢;obtain⟨h1,h2⟩:=seg_cons hs;obtain⟨h3,h4⟩:=seg_cons h2;have l3:=At.lt h3;have r:=good_list 12 (kl c.k) [] (i+2) (by omega) (by intro q;rw[q] at hkl;simp at hkl;omega) (by simp;omega) hg h4;refine⟨?_,fst_not h1 (by decide)⟩;rw[nr_tn c n0 nm,h];have r2:=fc_list 12 wMin (.inl ⟨rfl,rfl⟩) h1 h3 r;rw[List.nil_append] at r2;simp only[List.length_cons,List.length_append,List.length_nil] at r2 ⊢;rw[show ∀n,i+(n+(0+1)+1+1)=i+2+n+1 from fun n=>by omega];exact r2
 ·rw [h] at ha hn hm;have k2:2≤len c.k:=(by have:=of_decide_eq_true ha;omega);have nm:c.a.name.size=0:=of_decide_eq_true hm;have n0:c.a.num=0:=of_decide_eq_true hn;refine good_of_fc c (.inr (.inr h)) fun L i hi hs=>?_;have e:F c=(false,wd wMax) :: (false,sg wOpen) :: (jnC ((kl c.k).map fun c=>(F c,I c))++[(false,sg wShut)]):=(by rw[tF_eq c 13 h,tK_kl];rfl);rw[e] at hs ⊢;obtain⟨h1,h2⟩:=seg_cons hs;obtain⟨h3,h4⟩:=seg_cons h2;have l3:=At.lt h3;have r:=good_list 13 (kl c.k) [] (i+2) (by omega) (by intro q;rw[q] at hkl;simp at hkl;omega) (by simp;omega) hg h4;refine⟨?_,fst_not h1 (by decide)⟩;rw[nr_tn c n0 nm,h];have r2:=fc_list 13 wMax (.inr ⟨rfl,rfl⟩) h1 h3 r;rw[List.nil_append] at r2;simp only[List.length_cons,List.length_append,List.length_nil] at r2 ⊢;rw[show ∀n,i+(n+(0+1)+1+1)=i+2+n+1 from fun n=>by omega];exact r2
 ·rw [h] at ha hn hm;have k3:len c.k=3:=(by have:=of_decide_eq_true ha;omega);have nm:c.a.name.size=0:=of_decide_eq_true hm;have n0:c.a.num=0:=of_decide_eq_true hn;obtain⟨x,y,z,hx⟩:=len_three (hkl.trans k3);have gx:=hg x (by rw[hx];simp);have gy:=hg y (by rw[hx];simp);have gz:=hg z (by rw[hx];simp);refine good_of_ex c (by omega) fun L i hi hs s=>?_;have e:F c=(false,wd wIf) :: (bl (F x)++(true,wd wThen) :: (bl (F y)++(true,wd wElse) :: bl (F z))):=(by rw[tF_eq c 14 h,tK_three hx];rfl);rw[e] at hs s ⊢;obtain⟨h1,h2⟩:=seg_cons hs;obtain⟨h3,h4⟩:=seg_app h2;rw[bl_len] at h4;obtain⟨h5,h6⟩:=seg_cons h4;obtain⟨h7,h8⟩:=seg_app h6;rw[bl_len] at h8;obtain⟨h9,h10⟩:=seg_cons h8;have l1:=At.lt h1;have l5:=At.lt h5;have l9:=At.lt h9;rw[nr_tn c n0 nm,h,hx];simp only[List.length_cons,List.length_append,bl_len] at s ⊢;rw[show i+((F x).length+((F y).length+((F z).length+1)+1)+1)=i+1+(F x).length+1+(F y).length+1+(F z).length by omega] at s ⊢;exact ex_fc (fc_if h1 ((gx L (i+1) (by omega)).2 (seg_bl h3) (stp_then h5)) h5 ((gy L _ (by omega)).2 (seg_bl h7) (stp_else h9)) h9 ((gz L _ (by omega)).2 (seg_bl h10) s)) (fst_not h1 (by decide)) s
 ·rw [h] at ha hn hm;have k3:len c.k=3:=(by have:=of_decide_eq_true ha;omega);have nm:c.a.name.size=0:=of_decide_eq_true hm;have n0:c.a.num=0:=of_decide_eq_true hn;obtain⟨x,y,z,hx⟩:=len_three (hkl.trans k3);have gx:=hg x (by rw[hx];simp);have gy:=hg y (by rw[hx];simp);have gz:=hg z (by rw[hx];simp);refine good_of_ex c (by omega) fun L i hi hs s=>?_;have e:F c=I x++(true,wd wIn) :: (bl (I y)++(true,wd wTo) :: bl (I z)):=(by rw[tF_eq c 15 h,tK_three hx];rfl);rw[e] at hs s ⊢;obtain⟨h3,h4⟩:=seg_app hs;obtain⟨h5,h6⟩:=seg_cons h4;obtain⟨h7,h8⟩:=seg_app h6;rw[bl_len] at h8;obtain⟨h9,h10⟩:=seg_cons h8;have l5:=At.lt h5;have l9:=At.lt h9;rw[nr_tn c n0 nm,h,hx];simp only[List.length_cons,List.length_append,bl_len] at s ⊢;rw[show i+((I x).length+((I y).length+((I z).length+1)+1))=i+(I x).length+1+(I y).length+1+(I z).length by omega] at s ⊢;obtain⟨x1,x2⟩:=(gx L i hi).1 h3;obtain⟨y1,y2⟩:=(gy L _ (by omega)).1 (seg_bl h7);obtain⟨z1,z2⟩:=(gz L _ (by omega)).1 (seg_bl h10);have q:∀w b,isT (wd wIn) w=b→isw L (i+(I x).length) w=b:=fun w b e=>by rw[isw_eq h5];exact e
  have r:∀w b,isT (wd wTo) w=b→isw L (i+(I x).length+1+(I y).length) w=b:=fun w b e=>by rw[isw_eq h9];exact e
  exact ex_cm (cm_in (sm_fc x1 (q _ _ (by decide)) (q _ _ (by decide)) (q _ _ (by decide)) (q _ _ (by decide))) (q _ _ (by decide)) (q _ _ (by decide)) (q _ _ (by decide)) (q _ _ (by decide)) (sm_fc y1 (r _ _ (by decide)) (r _ _ (by decide)) (r _ _ (by decide)) (r _ _ (by decide))) (r _ _ (by decide)) (sm_fc z1 s.star s.slash s.plus s.minus)) x2 s
 ·have n1:¬(1≤c.a.op∧c.a.op≤6):=by omega
  have n2:¬(c.a.op=7∨c.a.op=19):=(by omega);have n3:¬(c.a.op=12∨c.a.op=13):=(by omega);have n4:¬(c.a.op=14∨c.a.op=15):=(by omega);rw[if_neg n1,if_neg n2,if_neg n3,if_neg n4] at ha;rw[if_neg (by omega),if_neg (by omega)] at hn;rw[if_neg (by omega)] at hm;have k2:len c.k=2:=(by have:=of_decide_eq_true ha;omega);have nm:c.a.name.size=0:=of_decide_eq_true hm;have n0:c.a.num=0:=of_decide_eq_true hn;obtain⟨x,y,hx⟩:=len_two (hkl.trans k2);have gx:=hg x (by rw[hx];simp);have gy:=hg y (by rw[hx];simp);refine good_of_ex c (by omega) fun L i hi hs s=>?_
  have e:F c=I x++(true,opW c.a.op) :: bl (I y):=by
   unfold F tF;rw[tK_two hx];rw[if_neg (by omega),if_neg (by omega),if_neg (by omega),if_neg (by omega),if_neg (by omega),if_neg (by omega),if_neg (by omega),if_neg (by omega),if_neg (by omega),if_neg (by omega),if_neg (by omega),if_neg (by omega)];rfl
  rw[e] at hs s ⊢;obtain⟨h3,h4⟩:=seg_app hs;obtain⟨h5,h6⟩:=seg_cons h4;have l5:=At.lt h5;rw[nr_tn c n0 nm,hx];simp only[List.length_cons,List.length_append,bl_len] at s ⊢;rw[show i+((I x).length+((I y).length+1))=i+(I x).length+1+(I y).length by omega] at s ⊢;obtain⟨x1,x2⟩:=(gx L i hi).1 h3;obtain⟨y1,y2⟩:=(gy L _ (by omega)).1 (seg_bl h6);exact bin_ex c.a.op h x1 x2 h5 y1 y2 s
theorem good_all(k:Fo):za k=true→∀c∈ kl k,GoodC c:=by
 induction k with
 | nil=>intro _ c hc;cases hc
 | node b o a k r ihk ihr =>
   intro hw c hc;unfold za at hw;rw[Bool.and_eq_true,Bool.and_eq_true] at hw;rcases List.mem_cons.1 hc with rfl|hc
   ·exact good_node _ hw.1.1 (ihk hw.1.2)
   ·exact ihr hw.2 c hc
theorem read_back(c:Ch)(hw:(zk c.a (len c.k) && za c.k)=true)(L:List Tk.T4)(hL:L.map (fun t=>t.t)=(F c).map fun p=>p.2):pv L .ex 0=(some (nr c),L.length):=by
 rw[Bool.and_eq_true] at hw;have g:=good_node c hw.1 (good_all c.k hw.2);have hl:L.length=(F c).length:=by have:=congrArg List.length hL;simpa using this
 have hs:Seg L 0 (F c):=fun k p hp=>by
  have q:=congrArg (fun l=>l[k]?) hL;simp only[List.getElem?_map,hp,Option.map_some] at q;rw[Nat.zero_add];cases hu:L[k]? with
  | none=>rw[hu] at q;cases q
  | some u=>rw[hu] at q;exact⟨u,rfl,inj q⟩
 have r:=((g L 0 (Nat.zero_le _)).2 hs (stp_end (by omega))).2.2;rw[Nat.zero_add,← hl] at r;exact r
end Fp
end Go.Proofs.YtcejjdmnlejbaaaGreatDoor
