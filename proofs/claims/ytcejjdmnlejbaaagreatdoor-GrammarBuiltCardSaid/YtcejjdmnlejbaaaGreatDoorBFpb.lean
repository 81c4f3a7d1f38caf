import Derived.Test.YtcejjdmnlejbaaaGreatDoorBFpa
namespace Go.Proofs.YtcejjdmnlejbaaaGreatDoor
set_option linter.unusedVariables false
set_option linter.unusedSimpArgs false
open Go.Deep (BT)
namespace Fp
open Pz
theorem attr_first {l:List UInt8} (h:Nam.attr l=true):Nam.lowB (l.getD 0 0)=true:=by
 have one:∀ m,Nam.isName m=true→Nam.lowB (m.getD 0 0)=true∧1≤m.length:=fun m q=>by
  unfold Nam.isName at q
  rw [decide_eq_true_eq] at q
  exact ⟨q.2.2.1,q.1⟩
 unfold Nam.attr at h
 by_cases h1:Lib.indexByte l 46 = -1
 · rw [if_pos h1] at h
   unfold Nam.declName at h
   rw [Bool.and_eq_true] at h
   exact (one _ h.1).1
 · rw [if_neg h1,Bool.and_eq_true] at h
   obtain ⟨q1,q2⟩:=one _ h.1
   rw [List.getD_eq_getElem?_getD,List.getElem?_take] at q1
   rw [List.length_take] at q2
   rw [if_pos (by omega),← List.getD_eq_getElem?_getD] at q1
   exact q1
theorem idx_none {l:List UInt8} {c:UInt8} (h:c ∉ l):Lib.indexByte l c = -1:=by
 induction l with
 | nil=>rfl
 | cons a l ih =>
   rw [List.mem_cons,not_or] at h
   have e:(a==c)=false:=by rw [beq_eq_false_iff_ne];exact fun q=>h.1 q.symm
   show (if a==c then (0:Int) else if Lib.indexByte l c == -1 then -1 else Lib.indexByte l c+1) = -1
   rw [e,ih h.2]
   rfl
theorem attr_ne {s:ByteArray} (h:attrS s=true) {w:ByteArray} (hx:w.data.toList ∈ Nam.words∨Nam.lowB (w.data.toList.getD 0 0)=false):isT (wd s) w=false:=by
 unfold isT
 rw [Bool.and_eq_false_iff]
 right
 rw [decide_eq_false_iff_not]
 intro e
 have e2:s.data.toList=w.data.toList:=e
 have h2:Nam.attr w.data.toList=true:=by rw [← e2];exact h
 rcases hx with hx|hx
 · have no46:∀ x ∈ Nam.words,(46:UInt8) ∉ x:=by decide
   unfold Nam.attr at h2
   rw [idx_none (no46 _ hx),if_pos rfl] at h2
   unfold Nam.declName at h2
   rw [Bool.and_eq_true] at h2
   have h3:Nam.reserved w.data.toList=true:=by
    unfold Nam.reserved
    rw [List.any_eq_true]
    exact ⟨_,hx,by simp⟩
   rw [h3] at h2
   exact absurd h2.2 (by decide)
 · have:=attr_first h2
   rw [hx] at this
   cases this
section
variable {L:List Tk.T4} {i j k m:Nat} {x y z:Ch} {t:Tk.T3}
theorem fc_eq (hi:i≤L.length):pv L .fc i =
 (if isw L i wMinus=true then bnd (pv L .fc (i+1)) fun x j=>(some (tn 7 [x]),j)
   else if isw L i wTrue=true then (some (lf 4 0 ⟨#[]⟩),i+1)
   else if isw L i wFalse=true then (some (lf 5 0 ⟨#[]⟩),i+1)
   else if isw L i wMin=true then pv L (.li 12) (i+1)
   else if isw L i wMax=true then pv L (.li 13) (i+1)
   else if isw L i wIf=true then bnd (pv L .ex (i+1)) fun a j=>if isw L j wThen=true then bnd (pv L .ex (j+1)) fun b k=>if isw L k wElse=true then bnd (pv L .ex (k+1)) fun c m=>(some (tn 14 [a,b,c]),m) else (none,k) else (none,j)
   else if isw L i wOpen=true then bnd (pv L .ex (i+1)) fun x j=>if isw L j wShut=true then (some x,j+1) else (none,j)
   else leaf L i):=by
 rw [pv_step L _ i hi]
 rfl
def At (L:List Tk.T4) (i:Nat) (t:Tk.T3):Prop:=∃ u,L[i]?=some u∧u.t=t
theorem At.lt (h:At L i t):i < L.length:=by obtain ⟨u,h1,-⟩:=h;exact (List.getElem?_eq_some_iff.1 h1).1
theorem fc_leaf (h:At L i t) (h1:isT t wMinus=false) (h2:isT t wTrue=false) (h3:isT t wFalse=false) (h4:isT t wMin=false) (h5:isT t wMax=false) (h6:isT t wIf=false) (h7:isT t wOpen=false) (hl:leafT t=some x):Pr L .fc i x (i+1):=by
 have hi:=h.lt
 refine pr_of (by omega) ?_
 rw [fc_eq (by omega),isw_eq h,h1,isw_eq h,h2,isw_eq h,h3,isw_eq h,h4,isw_eq h,h5,isw_eq h,h6,isw_eq h,h7]
 obtain ⟨u,hu,rfl⟩:=h
 show leaf L i=_
 unfold leaf
 rw [hu]
 show (match leafT u.t with|some x=>(some x,i+1)|none=>(none,i))=_
 rw [hl]
theorem fc_true (h:At L i (wd wTrue)):Pr L .fc i (lf 4 0 ⟨#[]⟩) (i+1):=by
 have hi:=h.lt
 refine pr_of (by omega) ?_
 rw [fc_eq (by omega),isw_eq h,show isT (wd wTrue) wMinus=false by decide,isw_eq h,show isT (wd wTrue) wTrue=true by decide]
 rfl
theorem fc_false (h:At L i (wd wFalse)):Pr L .fc i (lf 5 0 ⟨#[]⟩) (i+1):=by
 have hi:=h.lt
 refine pr_of (by omega) ?_
 rw [fc_eq (by omega),isw_eq h,show isT (wd wFalse) wMinus=false by decide,isw_eq h,show isT (wd wFalse) wTrue=false by decide,isw_eq h,show isT (wd wFalse) wFalse=true by decide]
 rfl
theorem fc_neg (h:At L i (sg wMinus)) (h2:Pr L .fc (i+1) x j):Pr L .fc i (tn 7 [x]) j:=by
 have hi:=h.lt
 refine pr_of (by omega) ?_
 rw [fc_eq (by omega),isw_eq h,show isT (sg wMinus) wMinus=true by decide]
 show bnd (pv L .fc (i+1)) _=_
 rw [h2.2.2]
 rfl
theorem fc_paren (h:At L i (sg wOpen)) (h2:Pr L .ex (i+1) x j) (h3:At L j (sg wShut)):Pr L .fc i x (j+1):=by
 have hi:=h.lt
 refine pr_of (by omega) ?_
 rw [fc_eq (by omega),isw_eq h,show isT (sg wOpen) wMinus=false by decide,isw_eq h,show isT (sg wOpen) wTrue=false by decide,isw_eq h,show isT (sg wOpen) wFalse=false by decide,isw_eq h,show isT (sg wOpen) wMin=false by decide,isw_eq h,show isT (sg wOpen) wMax=false by decide,isw_eq h,show isT (sg wOpen) wIf=false by decide,isw_eq h,show isT (sg wOpen) wOpen=true by decide]
 show bnd (pv L .ex (i+1)) _=_
 rw [h2.2.2]
 show (if isw L j wShut=true then _ else _)=_
 rw [isw_eq h3,show isT (sg wShut) wShut=true by decide]
 rfl
theorem fc_if (h:At L i (wd wIf)) (h1:Pr L .ex (i+1) x j) (h2:At L j (wd wThen)) (h3:Pr L .ex (j+1) y k) (h4:At L k (wd wElse)) (h5:Pr L .ex (k+1) z m):Pr L .fc i (tn 14 [x,y,z]) m:=by
 have hi:=h.lt
 refine pr_of (by omega) ?_
 rw [fc_eq (by omega),isw_eq h,show isT (wd wIf) wMinus=false by decide,isw_eq h,show isT (wd wIf) wTrue=false by decide,isw_eq h,show isT (wd wIf) wFalse=false by decide,isw_eq h,show isT (wd wIf) wMin=false by decide,isw_eq h,show isT (wd wIf) wMax=false by decide,isw_eq h,show isT (wd wIf) wIf=true by decide]
 show bnd (pv L .ex (i+1)) _=_
 rw [h1.2.2]
 show (if isw L j wThen=true then _ else _)=_
 rw [isw_eq h2,show isT (wd wThen) wThen=true by decide]
 show bnd (pv L .ex (j+1)) _=_
 rw [h3.2.2]
 show (if isw L k wElse=true then _ else _)=_
 rw [isw_eq h4,show isT (wd wElse) wElse=true by decide]
 show bnd (pv L .ex (k+1)) _=_
 rw [h5.2.2]
 rfl
theorem fc_list (op:Int) (w:ByteArray) (hw:op=12∧w=wMin∨op=13∧w=wMax) (h:At L i (wd w)) (h2:At L (i+1) (sg wOpen)) (h3:Pr L (.liL op []) (i+2) x j):Pr L .fc i x j:=by
 have hi:=h.lt
 have hi2:=h2.lt
 refine pr_of (by omega) ?_
 have li:pv L (.li op) (i+1)=(some x,j):=by
  rw [pv_step L _ (i+1) (by omega)]
  show (if isw L (i+1) wOpen=true then pv L (.liL op []) (i+1+1) else _)=_
  rw [isw_eq h2,show isT (sg wOpen) wOpen=true by decide]
  exact h3.2.2
 rcases hw with ⟨rfl,rfl⟩|⟨rfl,rfl⟩
 · rw [fc_eq (by omega),isw_eq h,show isT (wd wMin) wMinus=false by decide,isw_eq h,show isT (wd wMin) wTrue=false by decide,isw_eq h,show isT (wd wMin) wFalse=false by decide,isw_eq h,show isT (wd wMin) wMin=true by decide]
   exact li
 · rw [fc_eq (by omega),isw_eq h,show isT (wd wMax) wMinus=false by decide,isw_eq h,show isT (wd wMax) wTrue=false by decide,isw_eq h,show isT (wd wMax) wFalse=false by decide,isw_eq h,show isT (wd wMax) wMin=false by decide,isw_eq h,show isT (wd wMax) wMax=true by decide]
   exact li
theorem li_last (op:Int) (l:List Ch) (hl:1≤l.length) (h:Pr L .ex i x j) (h2:At L j (sg wShut)):Pr L (.liL op l) i (tn op (l++[x])) (j+1):=by
 refine pr_of h.1 ?_
 rw [pv_step L _ i h.1]
 show bnd (pv L .ex i) (fun a j=>if 1≤l.length∧isw L j wShut=true then (some (tn op (l++[a])),j+1) else if isw L j wComma=true then pv L (.liL op (l++[a])) (j+1) else (none,j))=_
 rw [h.2.2]
 show (if 1≤l.length∧isw L j wShut=true then (some (tn op (l++[x])),j+1) else _)=_
 rw [isw_eq h2,if_pos ⟨hl,by decide⟩]
theorem li_more (op:Int) (l:List Ch) (h:Pr L .ex i x j) (h2:At L j (sg wComma)) (h3:Pr L (.liL op (l++[x])) (j+1) y k):Pr L (.liL op l) i y k:=by
 refine pr_of h.1 ?_
 rw [pv_step L _ i h.1]
 show bnd (pv L .ex i) (fun a j=>if 1≤l.length∧isw L j wShut=true then (some (tn op (l++[a])),j+1) else if isw L j wComma=true then pv L (.liL op (l++[a])) (j+1) else (none,j))=_
 rw [h.2.2]
 show (if 1≤l.length∧isw L j wShut=true then _ else if isw L j wComma=true then pv L (.liL op (l++[x])) (j+1) else _)=_
 rw [isw_eq h2,if_neg (fun q=>absurd q.2 (by decide)),isw_eq h2,show isT (sg wComma) wComma=true by decide]
 exact h3.2.2
theorem stp_of (h:At L i t) (q1:isT t wStar=false) (q2:isT t wSlash=false) (q3:isT t wPlus=false) (q4:isT t wMinus=false) (q5:isT t wLess=false) (q6:isT t wLeq=false) (q7:isT t wEq=false) (q8:isT t wIn=false) (q9:isT t wAnd=false) (q10:isT t wOr=false) (q11:isT t wImplies=false):Stp L i :=
 ⟨by rw [isw_eq h];exact q1,by rw [isw_eq h];exact q2,by rw [isw_eq h];exact q3,by rw [isw_eq h];exact q4,by rw [isw_eq h];exact q5,by rw [isw_eq h];exact q6,by rw [isw_eq h];exact q7,by rw [isw_eq h];exact q8,by rw [isw_eq h];exact q9,by rw [isw_eq h];exact q10,by rw [isw_eq h];exact q11⟩
theorem stp_shut (h:At L i (sg wShut)):Stp L i:=stp_of h (by decide) (by decide) (by decide) (by decide) (by decide) (by decide) (by decide) (by decide) (by decide) (by decide) (by decide)
theorem stp_comma (h:At L i (sg wComma)):Stp L i:=stp_of h (by decide) (by decide) (by decide) (by decide) (by decide) (by decide) (by decide) (by decide) (by decide) (by decide) (by decide)
theorem stp_then (h:At L i (wd wThen)):Stp L i:=stp_of h (by decide) (by decide) (by decide) (by decide) (by decide) (by decide) (by decide) (by decide) (by decide) (by decide) (by decide)
theorem stp_else (h:At L i (wd wElse)):Stp L i:=stp_of h (by decide) (by decide) (by decide) (by decide) (by decide) (by decide) (by decide) (by decide) (by decide) (by decide) (by decide)
theorem stp_end (h:L.length≤i):Stp L i:=by
 have e:∀ w,isw L i w=false:=fun w=>by
  unfold isw
  rw [List.getElem?_eq_none h]
 exact ⟨e _,e _,e _,e _,e _,e _,e _,e _,e _,e _,e _⟩
end
end Fp
end Go.Proofs.YtcejjdmnlejbaaaGreatDoor
