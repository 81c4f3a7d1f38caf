import Derived.Test.YtcejjdmnlejbaaaGreatDoorBPzG
namespace Go.Proofs.YtcejjdmnlejbaaaGreatDoor
set_option linter.unusedVariables false
set_option linter.unusedSimpArgs false
open Go.Deep (BT)
namespace Fp
open Pz
abbrev P:=Bool × Tk.T3
def sg (s:ByteArray):Tk.T3:=⟨5,s,0⟩
def wd (s:ByteArray):Tk.T3:=⟨1,s,0⟩
def bl:List P→List P
 | []=>[]
 | p :: l=>(true,p.2) :: l
def opW (op:Int):Tk.T3 :=
 if op=8 then sg wPlus else if op=9 then sg wMinus else if op=10 then sg wStar else if op=11 then sg wSlash
 else if op=16 then sg wLess else if op=17 then sg wLeq else if op=18 then sg wEq else if op=20 then wd wAnd else if op=21 then wd wOr else wd wImplies
abbrev Q:=List (List P × List P)
def at' (q:Q) (i:Nat):List P × List P:=q.getD i ([],[])
def jnC:Q→List P
 | []=>[]
 | [x]=>x.1
 | x :: y :: l=>x.1++(false,sg wComma) :: bl (jnC (y :: l))
def tF (a:Nd) (q:Q):List P :=
 if a.op=1 then [(false,⟨2,⟨#[]⟩,a.num⟩)] else if a.op=2 then [(false,⟨3,⟨#[]⟩,a.num⟩)] else if a.op=3 then [(false,⟨4,⟨#[]⟩,a.num⟩)]
 else if a.op=4 then [(false,wd wTrue)] else if a.op=5 then [(false,wd wFalse)] else if a.op=6 then [(false,wd a.name)]
 else if a.op=7 then (false,sg wMinus) :: (at' q 0).2
 else if a.op=19 then (false,wd wNot) :: bl (at' q 0).2
 else if a.op=12 then (false,wd wMin) :: (false,sg wOpen) :: (jnC q++[(false,sg wShut)])
 else if a.op=13 then (false,wd wMax) :: (false,sg wOpen) :: (jnC q++[(false,sg wShut)])
 else if a.op=14 then (false,wd wIf) :: (bl (at' q 0).1++(true,wd wThen) :: (bl (at' q 1).1++(true,wd wElse) :: bl (at' q 2).1))
 else if a.op=15 then (at' q 0).2++(true,wd wIn) :: (bl (at' q 1).2++(true,wd wTo) :: bl (at' q 2).2)
 else (at' q 0).2++(true,opW a.op) :: bl (at' q 1).2
def tI (a:Nd) (k:Fo) (f:List P):List P:=if len k=0∨a.op=12∨a.op=13 then f else (false,sg wOpen) :: (f++[(false,sg wShut)])
def tK:Fo→Q
 | .nil=>[]
 | .node _ _ a k r=>(tF a (tK k),tI a k (tF a (tK k))) :: tK r
def F (c:Ch):List P:=tF c.a (tK c.k)
def I (c:Ch):List P:=tI c.a c.k (F c)
def kl:Fo→List Ch
 | .nil=>[]
 | .node b o a k r=>⟨b,o,a,k⟩ :: kl r
theorem rowF_kl (k:Fo):rowF (kl k)=k:=by
 induction k with
 | nil=>rfl
 | node b o a k r ihk ihr=>show BT.node b o a k (rowF (kl r))=_;rw [ihr]
theorem kl_len (k:Fo):(kl k).length=len k:=by
 induction k with
 | nil=>rfl
 | node b o a k r ihk ihr=>simp only [kl,List.length_cons,len,ihr]
theorem nrm_kl (k:Fo):nrm k=rowF ((kl k).map nr):=by
 have:=nrm_rowF (kl k)
 rwa [rowF_kl] at this
theorem tK_kl (k:Fo):tK k=(kl k).map fun c=>(F c,I c):=by
 induction k with
 | nil=>rfl
 | node b o a k r ihk ihr=>show _ :: tK r=_ :: (kl r).map _;rw [ihr];rfl
theorem bl_len (l:List P):(bl l).length=l.length:=by cases l<;>rfl
def Seg (L:List Tk.T4) (i:Nat) (l:List P):Prop:=∀ k p,l[k]?=some p→∃ u,L[i+k]?=some u∧u.t=p.2
theorem seg_cons {L:List Tk.T4} {i:Nat} {p:P} {l:List P} (h:Seg L i (p :: l)):(∃ u,L[i]?=some u∧u.t=p.2)∧Seg L (i+1) l :=
 ⟨h 0 p rfl,fun k q hq=>by rw [show i+1+k=i+(k+1) by omega];exact h (k+1) q (by simpa using hq)⟩
theorem seg_app {L:List Tk.T4} {i:Nat} {l m:List P} (h:Seg L i (l++m)):Seg L i l∧Seg L (i+l.length) m:=by
 refine ⟨fun k p hp=>h k p ?_,fun k p hp=>?_⟩
 · rw [List.getElem?_append_left (List.getElem?_eq_some_iff.1 hp).1];exact hp
 · rw [Nat.add_assoc]
   exact h (l.length+k) p (by rw [List.getElem?_append_right (by omega),show l.length+k - l.length=k by omega];exact hp)
theorem seg_bl {L:List Tk.T4} {i:Nat} {l:List P} (h:Seg L i (bl l)):Seg L i l:=by
 cases l with
 | nil=>exact h
 | cons p l =>
   intro k q hq
   cases k with
   | zero =>
     obtain ⟨u,h1,h2⟩:=h 0 (true,p.2) rfl
     have e:p=q:=by simpa using hq
     exact ⟨u,h1,by rw [← e];exact h2⟩
   | succ k=>exact h (k+1) q (by simpa [bl] using hq)
def isT (t:Tk.T3) (w:ByteArray):Bool:=(decide (t.kind=1) || decide (t.kind=5)) && decide (t.text.data.toList=w.data.toList)
theorem isw_eq {L:List Tk.T4} {i:Nat} {t:Tk.T3} (h:∃ u,L[i]?=some u∧u.t=t) (w:ByteArray):isw L i w=isT t w:=by
 obtain ⟨u,h1,rfl⟩:=h
 unfold isw
 rw [h1]
 rfl
def Pr (L:List Tk.T4) (nt:NT) (i:Nat) (x:Ch) (j:Nat):Prop:=i≤L.length∧j≤L.length∧pv L nt i=(some x,j)
theorem pr_of {L:List Tk.T4} {nt:NT} {i:Nat} {x:Ch} {j:Nat} (hi:i≤L.length) (h:pv L nt i=(some x,j)):Pr L nt i x j:=by
 have q:=(pv_adv L nt i hi).2.1
 rw [h] at q
 exact ⟨hi,q,h⟩
structure Stp (L:List Tk.T4) (j:Nat):Prop where
 star:isw L j wStar=false
 slash:isw L j wSlash=false
 plus:isw L j wPlus=false
 minus:isw L j wMinus=false
 less:isw L j wLess=false
 leq:isw L j wLeq=false
 eq:isw L j wEq=false
 in':isw L j wIn=false
 and':isw L j wAnd=false
 or':isw L j wOr=false
 imp:isw L j wImplies=false
theorem ff {p:Bool} (h:p=false):¬ p=true:=by rw [h];decide
section
variable {L:List Tk.T4} {i j k m:Nat} {x y z:Ch}
theorem tm_of (h:Pr L .fc i x j) (h1:isw L j wStar=false) (h2:isw L j wSlash=false):Pr L .tm i x j:=by
 refine pr_of h.1 ?_
 rw [pv_step L _ i h.1]
 show bnd (pv L .fc i) (fun x j=>pv L (.tmL x) j)=_
 rw [h.2.2]
 show pv L (.tmL x) j=_
 rw [pv_step L _ j h.2.1]
 show (if isw L j wStar=true then _ else if isw L j wSlash=true then _ else _)=_
 rw [if_neg (ff h1),if_neg (ff h2)]
theorem tm_two (op:Int) (h:Pr L .fc i x j) (ho:op=10∧isw L j wStar=true∨op=11∧isw L j wStar=false∧isw L j wSlash=true) (h2:Pr L .fc (j+1) y k) (s:Stp L k):Pr L .tm i (tn op [x,y]) k:=by
 refine pr_of h.1 ?_
 rw [pv_step L _ i h.1]
 show bnd (pv L .fc i) (fun x j=>pv L (.tmL x) j)=_
 rw [h.2.2]
 show pv L (.tmL x) j=_
 rw [pv_step L _ j h.2.1]
 have e:∀ z,pv L (.tmL z) k=(some z,k):=fun z=>by
  rw [pv_step L _ k h2.2.1]
  show (if isw L k wStar=true then _ else if isw L k wSlash=true then _ else _)=_
  rw [if_neg (ff s.star),if_neg (ff s.slash)]
 show (if isw L j wStar=true then bnd (pv L .fc (j+1)) (fun y j=>pv L (.tmL (tn 10 [x,y])) j) else if isw L j wSlash=true then bnd (pv L .fc (j+1)) (fun y j=>pv L (.tmL (tn 11 [x,y])) j) else _)=_
 rcases ho with ⟨rfl,q⟩|⟨rfl,q,q2⟩
 · rw [if_pos q,h2.2.2];exact e _
 · rw [if_neg (ff q),if_pos q2,h2.2.2];exact e _
theorem sm_of (h:Pr L .tm i x j) (h1:isw L j wPlus=false) (h2:isw L j wMinus=false):Pr L .sm i x j:=by
 refine pr_of h.1 ?_
 rw [pv_step L _ i h.1]
 show bnd (pv L .tm i) (fun x j=>pv L (.smL x) j)=_
 rw [h.2.2]
 show pv L (.smL x) j=_
 rw [pv_step L _ j h.2.1]
 show (if isw L j wPlus=true then _ else if isw L j wMinus=true then _ else _)=_
 rw [if_neg (ff h1),if_neg (ff h2)]
theorem sm_two (op:Int) (h:Pr L .tm i x j) (ho:op=8∧isw L j wPlus=true∨op=9∧isw L j wPlus=false∧isw L j wMinus=true) (h2:Pr L .tm (j+1) y k) (s:Stp L k):Pr L .sm i (tn op [x,y]) k:=by
 refine pr_of h.1 ?_
 rw [pv_step L _ i h.1]
 show bnd (pv L .tm i) (fun x j=>pv L (.smL x) j)=_
 rw [h.2.2]
 show pv L (.smL x) j=_
 rw [pv_step L _ j h.2.1]
 have e:∀ z,pv L (.smL z) k=(some z,k):=fun z=>by
  rw [pv_step L _ k h2.2.1]
  show (if isw L k wPlus=true then _ else if isw L k wMinus=true then _ else _)=_
  rw [if_neg (ff s.plus),if_neg (ff s.minus)]
 show (if isw L j wPlus=true then bnd (pv L .tm (j+1)) (fun y j=>pv L (.smL (tn 8 [x,y])) j) else if isw L j wMinus=true then bnd (pv L .tm (j+1)) (fun y j=>pv L (.smL (tn 9 [x,y])) j) else _)=_
 rcases ho with ⟨rfl,q⟩|⟨rfl,q,q2⟩
 · rw [if_pos q,h2.2.2];exact e _
 · rw [if_neg (ff q),if_pos q2,h2.2.2];exact e _
theorem cm_of (h:Pr L .sm i x j) (h1:isw L j wLess=false) (h2:isw L j wLeq=false) (h3:isw L j wEq=false) (h4:isw L j wIn=false):Pr L .cm i x j:=by
 refine pr_of h.1 ?_
 rw [pv_step L _ i h.1]
 show bnd (pv L .sm i) (fun x j=>if isw L j wLess=true then _ else if isw L j wLeq=true then _ else if isw L j wEq=true then _ else if isw L j wIn=true then _ else (some x,j))=_
 rw [h.2.2]
 show (if isw L j wLess=true then _ else if isw L j wLeq=true then _ else if isw L j wEq=true then _ else if isw L j wIn=true then _ else (some x,j))=_
 rw [if_neg (ff h1),if_neg (ff h2),if_neg (ff h3),if_neg (ff h4)]
theorem cm_two (op:Int) (h:Pr L .sm i x j) (ho:op=16∧isw L j wLess=true∨op=17∧isw L j wLess=false∧isw L j wLeq=true∨op=18∧isw L j wLess=false∧isw L j wLeq=false∧isw L j wEq=true) (h2:Pr L .sm (j+1) y k):Pr L .cm i (tn op [x,y]) k:=by
 refine pr_of h.1 ?_
 rw [pv_step L _ i h.1]
 show bnd (pv L .sm i) (fun x j=>if isw L j wLess=true then bnd (pv L .sm (j+1)) (fun y k=>(some (tn 16 [x,y]),k)) else if isw L j wLeq=true then bnd (pv L .sm (j+1)) (fun y k=>(some (tn 17 [x,y]),k)) else if isw L j wEq=true then bnd (pv L .sm (j+1)) (fun y k=>(some (tn 18 [x,y]),k)) else _)=_
 rw [h.2.2]
 show (if isw L j wLess=true then bnd (pv L .sm (j+1)) (fun y k=>(some (tn 16 [x,y]),k)) else if isw L j wLeq=true then bnd (pv L .sm (j+1)) (fun y k=>(some (tn 17 [x,y]),k)) else if isw L j wEq=true then bnd (pv L .sm (j+1)) (fun y k=>(some (tn 18 [x,y]),k)) else _)=_
 rcases ho with ⟨rfl,q⟩|⟨rfl,q,q2⟩|⟨rfl,q,q2,q3⟩
 · rw [if_pos q,h2.2.2];rfl
 · rw [if_neg (ff q),if_pos q2,h2.2.2];rfl
 · rw [if_neg (ff q),if_neg (ff q2),if_pos q3,h2.2.2];rfl
theorem cm_in (h:Pr L .sm i x j) (q1:isw L j wLess=false) (q2:isw L j wLeq=false) (q3:isw L j wEq=false) (q4:isw L j wIn=true) (h2:Pr L .sm (j+1) y k) (q5:isw L k wTo=true) (h3:Pr L .sm (k+1) z m):Pr L .cm i (tn 15 [x,y,z]) m:=by
 refine pr_of h.1 ?_
 rw [pv_step L _ i h.1]
 show bnd (pv L .sm i) (fun x j=>if isw L j wLess=true then _ else if isw L j wLeq=true then _ else if isw L j wEq=true then _ else if isw L j wIn=true then pv L (.bd x) (j+1) else (some x,j))=_
 rw [h.2.2]
 show (if isw L j wLess=true then _ else if isw L j wLeq=true then _ else if isw L j wEq=true then _ else if isw L j wIn=true then pv L (.bd x) (j+1) else (some x,j))=_
 rw [if_neg (ff q1),if_neg (ff q2),if_neg (ff q3),if_pos q4,pv_step L _ (j+1) h2.1]
 show bnd (pv L .sm (j+1)) (fun y j=>if isw L j wTo=true then bnd (pv L .sm (j+1)) (fun z k=>(some (tn 15 [x,y,z]),k)) else (none,j))=_
 rw [h2.2.2]
 show (if isw L k wTo=true then bnd (pv L .sm (k+1)) (fun z k=>(some (tn 15 [x,y,z]),k)) else (none,k))=_
 rw [if_pos q5,h3.2.2];rfl
theorem ng_of (h:Pr L .cm i x j) (h1:isw L i wNot=false):Pr L .ng i x j:=by
 refine pr_of h.1 ?_
 rw [pv_step L _ i h.1]
 show (if isw L i wNot=true then _ else pv L .cm i)=_
 rw [if_neg (ff h1),h.2.2]
theorem ng_not (h:isw L i wNot=true) (h2:Pr L .ng (i+1) x j):Pr L .ng i (tn 19 [x]) j:=by
 have hi:i≤L.length:=by have:=h2.1;omega
 refine pr_of hi ?_
 rw [pv_step L _ i hi]
 show (if isw L i wNot=true then bnd (pv L .ng (i+1)) (fun x j=>(some (tn 19 [x]),j)) else _)=_
 rw [if_pos h,h2.2.2];rfl
theorem cj_of (h:Pr L .ng i x j) (h1:isw L j wAnd=false):Pr L .cj i x j:=by
 refine pr_of h.1 ?_
 rw [pv_step L _ i h.1]
 show bnd (pv L .ng i) (fun x j=>pv L (.cjL x) j)=_
 rw [h.2.2]
 show pv L (.cjL x) j=_
 rw [pv_step L _ j h.2.1]
 show (if isw L j wAnd=true then _ else _)=_
 rw [if_neg (ff h1)]
theorem cj_two (h:Pr L .ng i x j) (ho:isw L j wAnd=true) (h2:Pr L .ng (j+1) y k) (s:Stp L k):Pr L .cj i (tn 20 [x,y]) k:=by
 refine pr_of h.1 ?_
 rw [pv_step L _ i h.1]
 show bnd (pv L .ng i) (fun x j=>pv L (.cjL x) j)=_
 rw [h.2.2]
 show pv L (.cjL x) j=_
 rw [pv_step L _ j h.2.1]
 show (if isw L j wAnd=true then bnd (pv L .ng (j+1)) (fun y j=>pv L (.cjL (tn 20 [x,y])) j) else _)=_
 rw [if_pos ho,h2.2.2]
 show pv L (.cjL (tn 20 [x,y])) k=_
 rw [pv_step L _ k h2.2.1]
 show (if isw L k wAnd=true then _ else _)=_
 rw [if_neg (ff s.and')]
theorem dj_of (h:Pr L .cj i x j) (h1:isw L j wOr=false):Pr L .dj i x j:=by
 refine pr_of h.1 ?_
 rw [pv_step L _ i h.1]
 show bnd (pv L .cj i) (fun x j=>pv L (.djL x) j)=_
 rw [h.2.2]
 show pv L (.djL x) j=_
 rw [pv_step L _ j h.2.1]
 show (if isw L j wOr=true then _ else _)=_
 rw [if_neg (ff h1)]
theorem dj_two (h:Pr L .cj i x j) (ho:isw L j wOr=true) (h2:Pr L .cj (j+1) y k) (s:Stp L k):Pr L .dj i (tn 21 [x,y]) k:=by
 refine pr_of h.1 ?_
 rw [pv_step L _ i h.1]
 show bnd (pv L .cj i) (fun x j=>pv L (.djL x) j)=_
 rw [h.2.2]
 show pv L (.djL x) j=_
 rw [pv_step L _ j h.2.1]
 show (if isw L j wOr=true then bnd (pv L .cj (j+1)) (fun y j=>pv L (.djL (tn 21 [x,y])) j) else _)=_
 rw [if_pos ho,h2.2.2]
 show pv L (.djL (tn 21 [x,y])) k=_
 rw [pv_step L _ k h2.2.1]
 show (if isw L k wOr=true then _ else _)=_
 rw [if_neg (ff s.or')]
theorem ex_of (h:Pr L .dj i x j) (h1:isw L j wImplies=false):Pr L .ex i x j:=by
 refine pr_of h.1 ?_
 rw [pv_step L _ i h.1]
 show bnd (pv L .dj i) (fun x j=>if isw L j wImplies=true then _ else (some x,j))=_
 rw [h.2.2]
 show (if isw L j wImplies=true then _ else (some x,j))=_
 rw [if_neg (ff h1)]
theorem ex_two (h:Pr L .dj i x j) (ho:isw L j wImplies=true) (h2:Pr L .ex (j+1) y k):Pr L .ex i (tn 22 [x,y]) k:=by
 refine pr_of h.1 ?_
 rw [pv_step L _ i h.1]
 show bnd (pv L .dj i) (fun x j=>if isw L j wImplies=true then bnd (pv L .ex (j+1)) (fun y k=>(some (tn 22 [x,y]),k)) else (some x,j))=_
 rw [h.2.2]
 show (if isw L j wImplies=true then bnd (pv L .ex (j+1)) (fun y k=>(some (tn 22 [x,y]),k)) else (some x,j))=_
 rw [if_pos ho,h2.2.2];rfl
theorem ex_ng (h:Pr L .ng i x j) (s:Stp L j):Pr L .ex i x j:=ex_of (dj_of (cj_of h s.and') s.or') s.imp
theorem ex_cm (h:Pr L .cm i x j) (hn:isw L i wNot=false) (s:Stp L j):Pr L .ex i x j:=ex_ng (ng_of h hn) s
theorem ex_sm (h:Pr L .sm i x j) (hn:isw L i wNot=false) (s:Stp L j):Pr L .ex i x j:=ex_cm (cm_of h s.less s.leq s.eq s.in') hn s
theorem ex_tm (h:Pr L .tm i x j) (hn:isw L i wNot=false) (s:Stp L j):Pr L .ex i x j:=ex_sm (sm_of h s.plus s.minus) hn s
theorem ex_fc (h:Pr L .fc i x j) (hn:isw L i wNot=false) (s:Stp L j):Pr L .ex i x j:=ex_tm (tm_of h s.star s.slash) hn s
end
end Fp
end Go.Proofs.YtcejjdmnlejbaaaGreatDoor
