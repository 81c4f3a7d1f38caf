import Derived.Orders
import Derived.ChangeArms
import Derived.Deep.Slices
import Derived.SizedLaws
import Derived.WalkArith
import Derived.Laws.BitsLemmas
import Derived.ChangeSlices
import Derived.Test.YtcejjdmnlejbaaaGreatDoorWPcj
namespace Go.Proofs.YtcejjdmnlejbaaaGreatDoor
set_option linter.unusedVariables false
set_option linter.unusedSimpArgs false
open Go.ChangeShapes Go.WideShapes Go.ChangeAt Go.RowKit
open Go.Deep (BT)
set_option maxRecDepth 100000
namespace Pg
open Pc
theorem isW_two{L:List Tk.T4}{i:Nat}{s u:ByteArray}(h:s≠u)(q:isW L i s=true):isW L i u=false:=by
 have h1:=isW_kd q;unfold isW;rw[h1.1,h1.2,decide_eq_false h];rfl
theorem limQ_eq(c:Pc.PC)(L:List Tk.T4)(h0:isW L 0 wLimit=true):limQ c L =
 if L.length=8∧nmd L 1=true∧isW L 2 wIs=true∧kd L 3 1=true∧isW L 5 wIn=true∧kd L 6 2=true∧isW L 7 wDays=true then
  (if (qW (Pc.tok L 3).text=2∧kd L 4 3=true)∨(qW (Pc.tok L 3).text=1∧kd L 4 2=true) then ({ c with ls:=c.ls++[⟨(Pc.tok L 1).text,(Pc.tok L 3).text,(Pc.tok L 4).num,(Pc.tok L 6).num⟩] },0) else (c,1)) else (c,1):=by
 unfold limQ
 by_cases hl:L.length≤3
 ·rw[if_pos hl,if_neg (by omega)]
 ·rw [if_neg hl];have key:∀a,amt (Pc.tok L 3).text=some a→wordP (Pc.tok L 3).text:=fun a h=>meas_word h
  have e:∀a,amt (Pc.tok L 3).text=some a→(sh L [wLimit,pN,wIs,(Pc.tok L 3).text,a,wIn,pD,wDays]=true↔(L.length=8∧nmd L 1=true∧isW L 2 wIs=true∧kd L 3 1=true∧isW L 5 wIn=true∧kd L 6 2=true∧isW L 7 wDays=true)∧pI L 4 a=true):=by
   intro a ha;have e3:isW L 3 (Pc.tok L 3).text=kd L 3 1:=(by unfold isW;simp);rw[sh_allI,allI8,pI_word wp_limit,pI_n,pI_word wp_is,pI_word (key a ha),pI_word wp_in,pI_d,pI_word wp_days,h0,e3];simp only[Bool.and_eq_true,decide_eq_true_eq,List.length_cons,List.length_nil];constructor
   ·rintro⟨a1,-,a2,a3,a4,a5,a6,a7,a8⟩;exact⟨⟨a1,a2,a3,a4,a6,a7,a8⟩,a5⟩
   ·rintro⟨⟨a1,a2,a3,a4,a6,a7,a8⟩,a5⟩;exact⟨a1,trivial,a2,a3,a4,a5,a6,a7,a8⟩
  by_cases h2:qW (Pc.tok L 3).text=2
  ·have ha:amt (Pc.tok L 3).text=some pT:=by unfold amt;rw[if_pos h2]
   have e1:=e _ ha;rw[pI_t] at e1;rw[ha];dsimp only
   by_cases q:L.length=8∧nmd L 1=true∧isW L 2 wIs=true∧kd L 3 1=true∧isW L 5 wIn=true∧kd L 6 2=true∧isW L 7 wDays=true
   ·rw [if_pos q]
    by_cases q2:kd L 4 3=true
    ·rw[if_pos (e1.2 ⟨q,q2⟩),if_pos (.inl ⟨h2,q2⟩)]
    ·rw[if_neg (fun s=>q2 (e1.1 s).2),if_neg (by rintro (⟨-,s⟩|⟨s,-⟩)<;>first|exact q2 s|(omega))]
   ·rw[if_neg q,if_neg (fun s=>q (e1.1 s).1)]
  ·by_cases h1:qW (Pc.tok L 3).text=1
   ·have ha:amt (Pc.tok L 3).text=some pD:=by unfold amt;rw[if_neg h2,if_pos h1]
    have e1:=e _ ha;rw[pI_d] at e1;rw[ha];dsimp only
    by_cases q:L.length=8∧nmd L 1=true∧isW L 2 wIs=true∧kd L 3 1=true∧isW L 5 wIn=true∧kd L 6 2=true∧isW L 7 wDays=true
    ·rw [if_pos q]
     by_cases q2:kd L 4 2=true
     ·rw[if_pos (e1.2 ⟨q,q2⟩),if_pos (.inr ⟨h1,q2⟩)]
     ·rw[if_neg (fun s=>q2 (e1.1 s).2),if_neg (by rintro (⟨s,-⟩|⟨-,s⟩)<;>first|exact h2 s|exact q2 s)]
    ·rw[if_neg q,if_neg (fun s=>q (e1.1 s).1)]
   ·have ha:amt (Pc.tok L 3).text=none:=by unfold amt;rw[if_neg h2,if_neg h1]
    rw[ha];dsimp only;have hn:¬(qW (Pc.tok L 3).text=2∧kd L 4 3=true∨qW (Pc.tok L 3).text=1∧kd L 4 2=true):=(by rintro (⟨s,-⟩|⟨s,-⟩)<;>first|exact h2 s|exact h1 s);rw[if_neg hn]
    split<;>rfl
theorem scoQ_eq(c:Pc.PC)(t:Tk.T4)(r:List Tk.T4):scoQ c (t :: r) =
 if scopeT t.t.text=0 then (c,1) else
 if isW (t :: r) 1 wCost=true∧isW (t :: r) 2 wIs=true then ifEx c ((t :: r).drop 3) fun x=>{ c with os:=c.os++[(scopeT t.t.text,x)] } else
 if isW (t :: r) 1 wRule=true∧nmd (t :: r) 2=true∧isW (t :: r) 3 wIs=true then ifEx c ((t :: r).drop 4) fun x=>{ c with rs:=c.rs++[(scopeT t.t.text,(Pc.tok (t :: r) 2).text,x)] } else (c,1):=by
 unfold scoQ;rw[List.drop_one,List.tail_cons,bg_cost,bg_rule,isW_consS,isW_consS,isW_consS,isW_consS,nmd_consS];simp only[Bool.and_eq_true];rfl
def restD(c:Pc.PC)(L:List Tk.T4):Pc.PC× Int :=
    if (Pc.tok L 0).text=wConst∧nmd L 1=true∧isW L 2 wIs=true then ifEx c (L.drop 3) fun x=>{ c with cs:=c.cs++[((Pc.tok L 1).text,x)] } else
    if scopeT (Pc.tok L 0).text≠0∧isW L 1 wRule=true∧nmd L 2=true∧isW L 3 wIs=true then ifEx c (L.drop 4) fun x=>{ c with rs:=c.rs++[(scopeT (Pc.tok L 0).text,(Pc.tok L 2).text,x)] } else
    if scopeT (Pc.tok L 0).text≠0∧isW L 1 wCost=true∧isW L 2 wIs=true then ifEx c (L.drop 3) fun x=>{ c with os:=c.os++[(scopeT (Pc.tok L 0).text,x)] } else
    if (Pc.tok L 0).text=wDuty∧isW L 1 wCredit=true∧isW L 2 wIs=true then ifEx c (L.drop 3) fun x=>{ c with cr:=c.cr++[x] } else
    if (Pc.tok L 0).text=wLimit∧L.length=8∧nmd L 1=true∧isW L 2 wIs=true∧kd L 3 1=true∧isW L 5 wIn=true∧kd L 6 2=true∧isW L 7 wDays=true then
     (if (qW (Pc.tok L 3).text=2∧kd L 4 3=true)∨(qW (Pc.tok L 3).text=1∧kd L 4 2=true) then ({ c with ls:=c.ls++[⟨(Pc.tok L 1).text,(Pc.tok L 3).text,(Pc.tok L 4).num,(Pc.tok L 6).num⟩] },0) else (c,1)) else
    if (Pc.tok L 0).text=wOff∧L.length=7∧nmd L 1=true∧isW L 2 wIs=true∧kd L 3 2=true∧isW L 4 wIn=true∧kd L 5 2=true∧isW L 6 wDays=true then ({ c with fs:=c.fs++[⟨(Pc.tok L 1).text,(Pc.tok L 3).num,(Pc.tok L 5).num⟩] },0) else
    (c,1)
theorem wn_c:¬wConst=wDuty∧¬wConst=wLimit∧¬wConst=wOff:=by decide
theorem wn_d:¬wDuty=wConst∧¬wDuty=wLimit∧¬wDuty=wOff:=by decide
theorem wn_l:¬wLimit=wConst∧¬wLimit=wDuty∧¬wLimit=wOff:=by decide
theorem wn_o:¬wOff=wConst∧¬wOff=wDuty∧¬wOff=wLimit:=by decide
theorem declQ_eq(c:Pc.PC)(t:Tk.T4)(r:List Tk.T4)(hv:VT t.t):declQ c (t :: r)=declT c (t :: r):=by
 have et:(Pc.tok (t :: r) 0).text=t.t.text:=rfl
 by_cases hk:kd (t :: r) 0 1=true
 case neg =>
  have hk':kd (t :: r) 0 1=false:=by simpa using hk
  have hkk:¬t.t.kind=1:=by rw[kd_cons0] at hk;simpa using hk
  have w0:∀s,isW (t :: r) 0 s=false:=fun s=>by unfold isW;rw[hk'];rfl
  have h1:¬tgt t.t.text < 6:=fun q=>hkk (vt_word hv (word_size (.inl q)));have h2:scopeT t.t.text=0:=Classical.byContradiction fun q=>hkk (vt_word hv (word_size (.inr q)));unfold declQ declT;rw[if_pos hk',et,if_neg (fun q=>h1 q.1),sh_night,bg_const,bg_credit,sh_off,bg_limit,scoQ_eq,if_pos h2];simp[w0]
 have w0:∀s,isW (t :: r) 0 s=decide (t.t.text=s):=fun s=>by rw[isW_0 hk];rfl
 have hd:declT c (t :: r)=match fieldsL.findIdx? (fun s=>decide (s=t.t.text)) with
  | some i=>fieldT c (t :: r) i
  | none=>restD c (t :: r):=by
  unfold declT;rw[if_neg (by rw[hk];decide)];rfl
 rw[hd,tgt_find]
 by_cases hf:tgt t.t.text < 6
 ·rw [if_pos hf];dsimp only;have e1:=sh_t1 t r;have hn:∀ {s:ByteArray},tgt s=6→decide (t.t.text=s)=false:=fun {s} h=>decide_eq_false fun e=>by rw[e] at hf;omega
  have T:=tgt_words;have hs:scopeT t.t.text=0:=(by rcases tgt_word _ hf with h|h|h|h|h|h<;>rw[h]<;>decide);unfold declQ fieldT;rw[et,sh_night,bg_const,bg_credit,sh_off,bg_limit,scoQ_eq,if_pos hs,w0,w0,w0,w0,w0,hn T.1,hn T.2.1,hn T.2.2.2.2.1,hn T.2.2.2.2.2.1,hn T.2.2.2.2.2.2,e1];generalize tgt t.t.text=i at *
  by_cases q1:(t :: r).length=2
  ·by_cases q2:kd (t :: r) 1 3=true
   ·rw [if_pos ⟨hf,by rw[decide_eq_true q1,q2];rfl⟩,if_neg (by rintro ⟨-,s|s⟩<;>first|exact s q1|(rw[q2] at s;cases s)),if_neg (by omega)];rfl
   ·rw [if_neg (by rw[decide_eq_true q1];simp[q2])];have hR:fieldT c (t :: r) i=(c,1):=(by unfold fieldT;rw[if_pos ⟨hf,.inr (by simpa using q2)⟩]);unfold fieldT at hR;rw[hR];simp
  ·rw [if_neg (by rw[decide_eq_false q1];simp)];have hR:fieldT c (t :: r) i=(c,1):=(by unfold fieldT;rw[if_pos ⟨hf,.inl q1⟩]);unfold fieldT at hR;rw[hR];simp
 ·rw [if_neg hf];have ht6:¬(tgt t.t.text < 6∧sh ((t :: r).drop 1) [pT]=true):=fun q=>hf q.1
  by_cases hn:t.t.text=wNight
  ·rw [if_pos hn];dsimp only;unfold declQ fieldT;rw[et,if_neg ht6,sh_night,bg_const,bg_credit,sh_off,bg_limit,scoQ_eq,w0,w0,w0,w0,w0,hn,if_pos (show scopeT wNight=0 by decide)];rw[decide_eq_false (show ¬wNight=wConst by decide),decide_eq_false (show ¬wNight=wDuty by decide),decide_eq_false (show ¬wNight=wOff by decide),decide_eq_false (show ¬wNight=wLimit by decide),decide_eq_true (rfl:wNight=wNight)];rw[if_neg (show ¬(6 < 6∧_) by omega)]
   by_cases q:(t :: r).length=4∧kd (t :: r) 1 4=true∧isW (t :: r) 2 wTo=true∧kd (t :: r) 3 4=true
   ·obtain ⟨q1,q2,q3,q4⟩:=q;rw[if_pos (by rw[decide_eq_true q1,q2,q3,q4];rfl),if_neg (by rintro ⟨-,s|s|s|s⟩<;>first|exact s q1|(rw[q2] at s;cases s)|(rw[q3] at s;cases s)|(rw[q4] at s;cases s))];rfl
   ·rw [if_neg (by simp only[Bool.and_eq_true,decide_eq_true_eq];rintro ⟨a1,-,a2,a3,a4⟩;exact q ⟨a1,a2,a3,a4⟩)]
    rw [if_pos (show 6=6∧_ from⟨rfl,by
     apply Classical.byContradiction;intro s;apply q;simp only[not_or,Bool.not_eq_false,Decidable.not_not] at s;exact s⟩)]
    simp
  ·rw [if_neg hn];dsimp only;have n0:decide (t.t.text=wNight)=false:=decide_eq_false hn;unfold declQ restD;rw[et,if_neg ht6,sh_night,bg_const,bg_credit,sh_off,bg_limit,scoQ_eq,w0,w0,w0,w0,w0,n0];rw[if_neg (by simp)];have hcr:=@isW_two (t :: r) 1 wRule wCost (by decide);have hcd:=@isW_two (t :: r) 1 wCost wCredit (by decide);have hrd:=@isW_two (t :: r) 1 wRule wCredit (by decide);have lim:=fun h=>limQ_eq c (t :: r) h;rw[w0] at lim;generalize isW (t :: r) 1 wRule=b1 at *;generalize isW (t :: r) 1 wCost=b2 at *;generalize isW (t :: r) 1 wCredit=b3 at *;generalize isW (t :: r) 2 wIs=b4 at *;generalize isW (t :: r) 3 wIs=b5 at *;generalize nmd (t :: r) 1=b6 at *;generalize nmd (t :: r) 2=b7 at *;generalize t.t.text=x at *
   by_cases x1:x=wConst
   ·subst x1;rw[show decide (wConst=wConst)=true from rfl,show decide (wConst=wDuty)=false from rfl,show decide (wConst=wOff)=false from rfl,show decide (wConst=wLimit)=false from rfl,scope_words.1];cases b6<;>cases b4<;>simp[wn_c]
   by_cases x2:x=wDuty
   ·subst x2;rw[show decide (wDuty=wConst)=false from rfl,show decide (wDuty=wDuty)=true from rfl,show decide (wDuty=wOff)=false from rfl,show decide (wDuty=wLimit)=false from rfl,scope_words.2.2.2.1];cases b1<;>cases b2<;>cases b3<;>cases b4<;>cases b5<;>cases b7<;>simp_all [wn_d]
   by_cases x3:x=wLimit
   ·subst x3;rw[show decide (wLimit=wConst)=false from rfl,show decide (wLimit=wDuty)=false from rfl,show decide (wLimit=wOff)=false from rfl,show decide (wLimit=wLimit)=true from rfl,scope_words.2.1];rw[if_neg (by simp),if_neg (by simp),if_neg (by simp),if_pos rfl,if_neg (by simp[wn_l]),if_neg (by simp),if_neg (by simp),if_neg (by simp[wn_l]),lim rfl]
    by_cases q:(t :: r).length=8∧b6=true∧b4=true∧kd (t :: r) 3 1=true∧isW (t :: r) 5 wIn=true∧kd (t :: r) 6 2=true∧isW (t :: r) 7 wDays=true
    ·rw[if_pos q,if_pos (show wLimit=wLimit∧_ from⟨rfl,q⟩)]
    ·rw[if_neg q,if_neg (fun s=>q s.2),if_neg (by simp[wn_l])]
   by_cases x4:x=wOff
   ·subst x4;rw[show decide (wOff=wConst)=false from rfl,show decide (wOff=wDuty)=false from rfl,show decide (wOff=wOff)=true from rfl,show decide (wOff=wLimit)=false from rfl,scope_words.2.2.1]
    by_cases q:(t :: r).length=7∧b6=true∧b4=true∧kd (t :: r) 3 2=true∧isW (t :: r) 4 wIn=true∧kd (t :: r) 5 2=true∧isW (t :: r) 6 wDays=true
    ·rw[if_neg (by simp),if_neg (by simp),if_pos (by obtain⟨a1,a2,a3,a4,a5,a6,a7⟩:=q;rw[decide_eq_true a1,a2,a3,a4,a5,a6,a7];rfl),if_neg (by simp[wn_o]),if_neg (by simp),if_neg (by simp),if_neg (by simp[wn_o]),if_neg (by simp[wn_o]),if_pos ⟨rfl,q⟩]
    ·rw[if_neg (by simp),if_neg (by simp),if_neg (by intro s;apply q;simp only[Bool.and_eq_true,decide_eq_true_eq] at s;exact⟨s.1,by simpa using s.2⟩),if_neg (by simp),if_pos rfl,if_neg (by simp[wn_o]),if_neg (by simp),if_neg (by simp),if_neg (by simp[wn_o]),if_neg (by simp[wn_o]),if_neg (fun s=>q s.2)]
   rw[decide_eq_false x1,decide_eq_false x2,decide_eq_false x3,decide_eq_false x4]
   by_cases hs:scopeT x=0
   ·simp[hs,x1,x2,x3,x4]
   ·cases b1<;>cases b2<;>cases b4<;>cases b5<;>cases b7<;>simp_all
end Pg
open Go Go.RowKit
def Ext(w w':World):Prop:=Below w.heap.size w w'
theorem Ext.refl(w:World):Ext w w:=Below.refl _ _
theorem Ext.trans{a b c:World}(h:Ext a b)(k:Ext b c):Ext a c:=Below.trans h (Below.mono k h.size)
theorem Ext.alloc(w:World)(o:Obj):Ext w (w.alloc o):=(Below.refl _ _).alloc (Nat.le_refl _) o
section
variable {P:Program} {ops:Array Oper} {Q:Exit→Act→World→Prop}
theorem kD{md:Region.Mode}{listed:Array Bool}{i:Nat}(h:i∈ Region.ready md ops listed):∃o,ops[i]?=some o∧listed.getD i true=false∧∀e∈ o.after,Region.binds md e=true→listed.getD e.on false=true:=by
 unfold Region.ready at h;rw[List.mem_filter] at h;obtain⟨-,h2⟩:=h;rw[Bool.and_eq_true] at h2;cases ho:ops[i]? with
 | none=>rw[ho] at h2;simp at h2
 | some o =>
   rw[ho] at h2;refine⟨o,rfl,by simpa using h2.1,fun e he hb=>?_⟩;have h3:=h2.2;simp only[Option.map_some,Option.getD_some] at h3;rw[Array.all_eq_true_iff_forall_mem] at h3;have h4:=h3 e he;rw[hb] at h4
   simpa using h4
theorem JG{md:Region.Mode}{listed:Array Bool}{i:Nat}{o:Oper}(ho:ops[i]?=some o)(hl:listed.getD i true=false)(ha:∀e∈ o.after,Region.binds md e=true→listed.getD e.on false=true):i∈ Region.ready md ops listed:=by
 unfold Region.ready;rw[List.mem_filter];refine⟨List.mem_range.2 (Array.getElem?_eq_some_iff.1 ho).1,?_⟩;rw[Bool.and_eq_true,ho,hl];refine⟨rfl,?_⟩;simp only[Option.map_some,Option.getD_some];rw[Array.all_eq_true_iff_forall_mem];intro e he;cases hb:Region.binds md e with
 | false=>rfl
 | true=>rw[ha e he hb];rfl
def left(l:List Bool):Nat:=(l.filter (fun b=>!b)).length
theorem JY(l:List Bool)(i:Nat)(h:l[i]?=some false):left (l.set i true)+1=left l:=by
 induction l generalizing i with
 | nil=>simp at h
 | cons b l ih =>
   cases i with
   | zero=>simp at h;subst h;simp[left]
   | succ i =>
     have:=ih i (by simpa using h);cases b<;>simp[left] at this ⊢<;>omega
theorem J1(l:List Bool)(h:left l=0)(i:Nat):l.getD i true=true:=by
 induction l generalizing i with
 | nil=>rfl
 | cons b l ih =>
   cases b with
   | false=>simp[left] at h
   | true =>
     cases i with
     | zero=>rfl
     | succ i=>simpa using ih (by simpa [left] using h) i
theorem getD_toList(l:Array Bool)(i:Nat)(d:Bool):l.getD i d=l.toList.getD i d:=by
 rw[Array.getD_eq_getD_getElem?,List.getD_eq_getElem?_getD,Array.getElem?_toList]
theorem Js{l:Array Bool}{i:Nat}(h:l.getD i true=false):l.toList[i]?=some false:=by
 rw[getD_toList,List.getD_eq_getElem?_getD] at h;cases q:l.toList[i]? with
 | none=>rw[q] at h;cases h
 | some b=>rw[q] at h;cases b<;>first|rfl|cases h
theorem Yv(I:Array Bool→Act→World→Prop)
 (hstep:∀listed a w i,I listed a w→i∈ Region.ready .any ops listed→wpOp P ops Q i (fun a' w'=>I (listed.setIfInBounds i true) a' w') a w)
 (hdone:∀listed a w,I listed a w→Region.ready .any ops listed=[]→Q .normal a w) :
 ∀fuel listed a w,left listed.toList≤fuel→I listed a w→wpAny P .any ops Q fuel listed a w:=by
 intro fuel
 induction fuel with
 | zero =>
   intro listed a w hl hI
   have hr:Region.ready .any ops listed=[]:=by
    rw[List.eq_nil_iff_forall_not_mem];intro i hi;obtain⟨o,-,h2,-⟩:=kD hi;rw[getD_toList,J1 _ (by omega)] at h2;cases h2
   exact⟨hr,hdone listed a w hI hr⟩
 | succ fuel ih =>
   intro listed a w hl hI;refine⟨hdone listed a w hI,fun i hi=>?_⟩;obtain⟨o,-,h2,-⟩:=kD hi;have h3:=JY _ _ (Js h2);refine wpOp_mono (fun a' w' h'=>ih _ a' w' ?_ h') (hstep listed a w i hI hi);rw[Array.toList_setIfInBounds];omega
structure PInv (ops:Array Oper) (src:Nat→Option Nat) (G:Nat→Value→World→Prop) (s0:Array Value) (d0:List Deferred) (w0:World) (listed:Array Bool) (a:Act) (w:World):Prop where
 ls:listed.size=ops.size
 sz:a.tmps.size=s0.size
 df:a.defers=d0
 ex:Ext w0 w
 sl:∀t i,src t=some i→listed.getD i false=true→G i (a.tmps.getD t undef) w
 un:∀t i,src t=some i→listed.getD i false=false→a.tmps.getD t undef=s0.getD t undef
 ol:∀t,src t=none→a.tmps.getD t undef=s0.getD t undef
 cl:∀e o,ops[e]?=some o→listed.getD e false=true→∀x∈ o.after,Region.binds .any x=true→listed.getD x.on false=true
def QP(P:Program)(ops:Array Oper)(Q:Exit→Act→World→Prop)(src:Nat→Option Nat)(G:Nat→Value→World→Prop)(s0:Array Value)(w0:World)(i:Nat)(o:Oper):Prop :=
 ∀ (a:Act) (w:World),Ext w0 w→(∀t,src t=none→a.tmps.getD t undef=s0.getD t undef)→
   (∀t e,src t=some e→(o.after.toList.any fun x=>x.on==e && Region.binds .any x)=true→G e (a.tmps.getD t undef) w)→
   (∀t e,src t=some e→((ops[e]?).any fun p=>p.after.toList.any fun x=>x.on==i && Region.binds .any x)=true→a.tmps.getD t undef=s0.getD t undef)→
   Region.wanted o (yielded ops a.tmps)=true∧o.wp P a w (fun a' w'=>∃v,a'=a.put o.dst v∧Ext w w'∧(o.dst.isSome=true→G i v w')) Q
def jO(s0:Array Value)(src:Nat→Option Nat)(x:Nat→Value):Array Value:=(s0.toList.mapIdx fun t v=>match src t with|some _=>x t|none=>v).toArray
theorem yY(l:Array Bool)(i j:Nat):(l.setIfInBounds i true).getD j false=true↔(j=i∧i < l.size)∨l.getD j false=true:=by
 rw[Array.getD_eq_getD_getElem?,Array.getD_eq_getD_getElem?,Array.getElem?_setIfInBounds]
 by_cases h:i=j
 ·subst h
  by_cases q:i < l.size
  ·simp[q]
  ·simp[q]
 ·have:¬j=i:=fun e=>h e.symm;simp[h,this]
theorem yM(a:Act)(d t:Nat)(v:Value):(a.put (some d) v).tmps.getD t undef=if d=t∧d < a.tmps.size then v else a.tmps.getD t undef:=by
 show(a.tmps.setIfInBounds d v).getD t undef=_
 rw[Array.getD_eq_getD_getElem?,Array.getD_eq_getD_getElem?,Array.getElem?_setIfInBounds]
 by_cases h:d=t
 ·subst h
  by_cases q:d < a.tmps.size
  ·simp[q]
  ·simp[q]
 ·simp[h]
theorem kA{α β:Type}{a:Act}{N M:Nat}{v:Value}{V:α→β→Value}{R:α→β→Prop}(h:N≠M∧M≠N)(hf:∃pn cn,a.tmps.getD M undef=V pn cn∧R pn cn):∃pn cn,(a.put (some N) v).tmps.getD M undef=V pn cn∧R pn cn:=hf.imp fun pn q=>q.imp fun cn q=>⟨(show(a.put (some N) v).tmps.getD M undef=_ from by rw[yM,if_neg (fun e=>by first|exact h.1 e.1|exact h.2 e.1)];exact q.1),q.2⟩
end
open Go.ChangeShapes Go.WideShapes Go.RowKit
def Vz(w:World)(cs:List Value):Prop:=∃(a:Nd)(k:Fo)(b o:Nat),cs=[.int .i64 a.op,.int .i64 a.num,.string a.name,.slice a.ptr (len k) a.cap]∧ExAt w b o a k∧yN a k∧len k≤a.cap
theorem yo{x:Int}(h:(Lit.int .i64 x).wf=true) : -9223372036854775808≤x∧x≤9223372036854775807:=by
 exact bounds_i64 h
theorem xB(a:Addr)(n:Nat)(h:a.spot=none):a.add n=⟨a.block,a.off+n,none⟩:=by
 obtain⟨b,o,s⟩:=a;dsimp only at h;subst h;unfold Addr.add
 by_cases q:n=0
 ·subst q;rfl
 ·rw[if_neg q]
theorem uI{w:World}{a:Addr}{v:Value}(h:w.cell? a=some v):a.spot=none:=by
 unfold World.cell? at h
 split at h
 ·cases q:a.spot with
  | none=>rfl
  | some z=>rw[q] at h;simp at h
 ·cases h
theorem row_of{w:World}(n:Nat)(B O:Nat)(h:∀i,i < n→∃c0 c1 c2 c3,w.cell? ⟨B,O+i * 4,none⟩=some c0∧w.cell? ⟨B,O+i * 4+1,none⟩=some c1∧w.cell? ⟨B,O+i * 4+2,none⟩=some c2∧w.cell? ⟨B,O+i * 4+3,none⟩=some c3∧Vz w [c0,c1,c2,c3]) :
 ∃T:Fo,len T=n∧FoAt w T B O∧je T:=by
 induction n generalizing O with
 | zero=>exact⟨.nil,rfl,trivial,trivial⟩
 | succ n ih =>
   obtain ⟨T,h1,h2,h3⟩:=ih (O+4) (fun i hi=>by
    have:=h (i+1) (by omega);rw[show O+(i+1) * 4=O+4+i * 4 by omega] at this;exact this)
   obtain⟨c0,c1,c2,c3,k0,k1,k2,k3,a,k,b,o,he,hx,hok,-⟩:=h 0 (by omega);simp only[Nat.zero_mul,Nat.add_zero] at k0 k1 k2 k3;simp only[List.cons.injEq,and_true] at he;obtain⟨rfl,rfl,rfl,rfl⟩:=he;exact⟨.node b o a k T,by simp[len,h1],⟨⟨k0,k1,k2,k3⟩,hx.1,hx.2,h2⟩,hok.1,hok.2,h3⟩
section
variable {H:Type} {enc:TypeId× Value→H} {w:World} {base:Nat} {spare:Nat→Bool} {held:Bool}
theorem Tryz.cellsE:Tryz.prog.cellsOf 24=4:=by kernel_rfl
theorem Tryz.cellsI:Tryz.prog.cellsOf 3=1:=by kernel_rfl
theorem Tryz.cellsS:Tryz.prog.cellsOf 9=1:=by kernel_rfl
theorem Tryz.cellsL:Tryz.prog.cellsOf 22=1:=by kernel_rfl
def SlS(w:World)(cs:List Value):Prop:=∃(k:Fo)(p:Option Addr)(cap b o:Nat),cs=[.slice p (len k) cap]∧(k≠.nil→p=some ⟨b,o,none⟩)∧FoAt w k b o∧je k∧len k≤maxLen∧len k≤cap
theorem Ye(fuel:Nat)(ih:∀m,m < fuel→∀cs x,DataW.trod enc Tryz.prog w base spare held m 24 cs=some x→Vz w cs)(cs:List Value)(x:DataW H× List MemPlace)
 (h:DataW.trod enc Tryz.prog w base spare held fuel 22 cs=some x):SlS w cs:=by
 rcases DataW.trod_slice Tryz.underlying22 h with ⟨rfl,-⟩|⟨a,n,cap,elems,rest,m,rfl,rfl,-,hb,hl,hm,hlen,hel,-,-⟩
 ·exact⟨.nil,none,0,0,0,rfl,fun q=>absurd rfl q,trivial,trivial,Nat.zero_le _,Nat.zero_le _⟩
 ·have key:∀i,i < n→∃c0 c1 c2 c3,w.cell? (a.add (i * 4))=some c0∧w.cell? ((a.add (i * 4)).add 1)=some c1∧w.cell? ((a.add (i * 4)).add 2)=some c2∧w.cell? ((a.add (i * 4)).add 3)=some c3∧Vz w [c0,c1,c2,c3]:=by
   intro i hi;have q:=hel i hi;rw[List.getElem?_eq_getElem (by omega),Tryz.cellsE] at q;obtain⟨cs',hc,ht⟩:=Option.bind_eq_some_iff.1 q;obtain⟨-,h4,hcell⟩:=World.cells?_some hc
   match cs',h4 with
   | [c0,c1,c2,c3],_ =>
     refine⟨c0,c1,c2,c3,?_,hcell 1 (by omega),hcell 2 (by omega),hcell 3 (by omega),ih m (Nat.lt_succ_self m) _ _ ht⟩;have:=hcell 0 (by omega)
     simpa [Addr.add] using this
  by_cases h0:n=0
  ·subst h0;exact⟨.nil,some a,cap,0,0,rfl,fun q=>absurd rfl q,trivial,trivial,Nat.zero_le _,Nat.zero_le _⟩
  ·have hs:a.spot=none:=by
    obtain⟨c0,c1,c2,c3,q,-⟩:=key 0 (by omega);exact uI (by simpa [Addr.add] using q)
   obtain ⟨T,t1,t2,t3⟩:=row_of (w:=w) n a.block a.off (fun i hi=>by
    obtain⟨c0,c1,c2,c3,q0,q1,q2,q3,q⟩:=key i hi;rw[Go.Deep.add_add,xB _ _ hs,← Nat.add_assoc] at q1 q2 q3;rw[xB _ _ hs] at q0;exact⟨c0,c1,c2,c3,q0,q1,q2,q3,q⟩)
   refine⟨T,some a,cap,a.block,a.off,by rw[t1],fun _=>?_,t2,t3,by omega,by omega⟩;obtain⟨b,o,s⟩:=a;dsimp only at hs;subst hs;rfl
theorem xR(fuel:Nat):∀(cs:List Value)(x:DataW H× List MemPlace),DataW.trod enc Tryz.prog w base spare held fuel 24 cs=some x→Vz w cs:=by
 induction fuel using Nat.strongRecOn with
 | _ fuel ih =>
   intro cs x h;obtain⟨xs,n,rfl,-,h4,hx,hf⟩:=DataW.trod_struct Tryz.underlying24 h;rw[Tryz.cellsE] at h4
   match cs,h4,xs,hx with
   | [c0,c1,c2,c3],_,[y0,y1,y2,y3],_ =>
     have g0:DataW.trod enc Tryz.prog w base spare held n 3 (List.take (Tryz.prog.cellsOf 3) (List.drop 0 [c0,c1,c2,c3]))=some y0:=hf 0 _ rfl;have g1:DataW.trod enc Tryz.prog w base spare held n 3 (List.take (Tryz.prog.cellsOf 3) (List.drop 1 [c0,c1,c2,c3]))=some y1:=hf 1 _ rfl;have g2:DataW.trod enc Tryz.prog w base spare held n 9 (List.take (Tryz.prog.cellsOf 9) (List.drop 2 [c0,c1,c2,c3]))=some y2:=hf 2 _ rfl;have g3:DataW.trod enc Tryz.prog w base spare held n 22 (List.take (Tryz.prog.cellsOf 22) (List.drop 3 [c0,c1,c2,c3]))=some y3:=hf 3 _ rfl;rw[Tryz.cellsI] at g0 g1;rw[Tryz.cellsS] at g2;rw[Tryz.cellsL] at g3;simp only[List.drop,List.take] at g0 g1 g2 g3;obtain⟨op,e0,-,w0⟩:=DataW.trod_int Tryz.underlying3 g0;obtain⟨num,e1,-,w1⟩:=DataW.trod_int Tryz.underlying3 g1;obtain⟨name,e2,-,w2⟩:=DataW.trod_string Tryz.underlying9 g2;obtain⟨k,p,cap,b,o,e3,hp,hat,hok,hl,hlc⟩:=Ye n (fun m hm=>ih m (by omega)) _ _ g3;simp only[List.cons.injEq,and_true] at e0 e1 e2 e3;subst e0 e1 e2 e3;exact⟨⟨op,num,name,p,cap⟩,k,b,o,rfl,⟨hp,hat⟩,⟨⟨yo w0,yo w1,w2,hl⟩,hok⟩,hlc⟩
end
variable {P:Program} {Q:Exit→Act→World→Prop}
theorem qo{o:Oper}{a:Act}{w w':World}{K:Act→World→Prop}{v:Value}(h:(execOp a.eval o).run P w=.ok (.value v) w')(hk:K (a.put o.dst v) w'):o.wp P a w K Q:=by
 unfold Oper.wp;rw[h];exact hk
section
variable {ρ:Operand→Value}{d:Option Tmp}{ty:TypeId}{pos:String}{af:Array Edge}{gd:Option (Nat×Bool)}{w:World}
theorem run_move(x:Operand)(v:Value)(h:ρ x=v):(execOp ρ ⟨d,.move x,ty,pos,af,gd⟩).run P w=.ok (.value v) w:=by
 simp[execOp,h,go_sem]
end
def zM(tbl:List (Nat× Nat))(t:Nat):Option Nat:=(tbl.find? fun p=>p.1==t).map fun p=>p.2
def uf(ops:Array Oper)(tbl:List (Nat× Nat))(n:Nat):Bool :=
 ((List.range ops.size).all fun i=>match ops[i]? with
   | some o=>(match o.dst with|some d=>(zM tbl d==some i) && decide (d < n)|none=>true) && (o.after.all fun x=>!Region.binds .any x || decide (x.on < i))
   | none=>true) && (tbl.all fun p=>match ops[p.2]? with|some o=>o.dst==some p.1|none=>false)
theorem JH{ops:Array Oper}{tbl:List (Nat× Nat)}{n:Nat}(h:uf ops tbl n=true):∀i o d,ops[i]?=some o→o.dst=some d→zM tbl d=some i∧d < n:=by
 intro i o d ho hd;unfold uf at h;rw[Bool.and_eq_true,List.all_eq_true] at h;have h1:=h.1 i (List.mem_range.2 (Array.getElem?_eq_some_iff.1 ho).1);rw[ho] at h1;simp only[hd,Bool.and_eq_true,decide_eq_true_eq] at h1;exact⟨eq_of_beq h1.1.1,h1.1.2⟩
theorem JI{ops:Array Oper}{tbl:List (Nat× Nat)}{n:Nat}(h:uf ops tbl n=true):∀i o,ops[i]?=some o→∀x∈ o.after,Region.binds .any x=true→x.on < i:=by
 intro i o ho x hx hb;unfold uf at h;rw[Bool.and_eq_true,List.all_eq_true] at h;have h1:=h.1 i (List.mem_range.2 (Array.getElem?_eq_some_iff.1 ho).1);rw[ho] at h1;simp only[Bool.and_eq_true] at h1;have h2:=h1.2;rw[Array.all_eq_true_iff_forall_mem] at h2;have h3:=h2 x hx;rw[hb] at h3
 simpa using h3
theorem JJ{ops:Array Oper}{tbl:List (Nat× Nat)}{n:Nat}(h:uf ops tbl n=true):∀t i,zM tbl t=some i→∃o,ops[i]?=some o∧o.dst=some t:=by
 intro t i hs;unfold uf at h;rw[Bool.and_eq_true,List.all_eq_true,List.all_eq_true] at h;unfold zM at hs;cases hf:tbl.find? (fun p=>p.1==t) with
 | none=>rw[hf] at hs;cases hs
 | some p =>
   rw[hf] at hs;obtain rfl:p.2=i:=Option.some.inj hs;have h1:p.1=t:=(by have:=List.find?_some hf;simpa using this);have h2:=h.2 p (List.mem_of_find?_eq_some hf);cases ho:ops[p.2]? with
   | none=>rw[ho] at h2;cases h2
   | some o =>
     rw[ho] at h2;exact⟨o,rfl,by rw[← h1];exact eq_of_beq h2⟩
section
variable {G:Nat→Value→World→Prop} {i:Nat} {o:Oper} {a:Act} {w w':World} {v:Value}
theorem jI(h:(execOp a.eval o).run P w=.ok (.value v) w')(he:Ext w w')(hg:G i v w'):o.wp P a w (fun a' w'=>∃v,a'=a.put o.dst v∧Ext w w'∧(o.dst.isSome=true→G i v w')) Q :=
 qo h ⟨v,rfl,he,fun _=>hg⟩
end
theorem yl{P:Program}{ops:Array Oper}{Q:Exit→Act→World→Prop}{src:Nat→Option Nat}{G:Nat→Value→World→Prop}{s0:Array Value}{w0:World}{i:Nat}{oc o:Oper}(ho:some oc=some o)(h:∀(a:Act)(w:World),Ext w0 w→(∀t,src t=none→a.tmps.getD t undef=s0.getD t undef)→(∀t e,src t=some e→(oc.after.toList.any fun x=>x.on == e && Region.binds .any x)=true→G e (a.tmps.getD t undef) w)→Region.wanted oc (yielded ops a.tmps)=true∧∃v,(execOp a.eval oc).run P w=.ok (.value v) w∧G i v w):QP P ops Q src G s0 w0 i o:=by
 obtain rfl:=Option.some.inj ho
 intro a w hx qz qb _
 obtain ⟨h1,v,h2,h3⟩:=h a w hx qz qb
 exact ⟨h1,jI h2 (Ext.refl _) h3⟩
def nd(op:Int)(g:Nat)(l:List Ch):Ch:=⟨g,0,⟨op,0,⟨#[]⟩,some ⟨g,0,none⟩,l.length⟩,qC l⟩
section
variable (ρ:Operand→Value) (d:Option Tmp) (ty:TypeId) (pos:String) (af:Array Edge) (gd:Option (Nat× Bool)) (w:World)
end
def frameT(tbl:List (Nat× Nat))(x:Nat→Value)(s:Array Value):Array Value:=tbl.foldl (fun s p=>s.setIfInBounds p.1 (x p.1)) s
theorem Q7(tbl:List (Nat× Nat))(x:Nat→Value)(s:Array Value):(frameT tbl x s).size=s.size:=by
 unfold frameT
 induction tbl generalizing s with
 | nil=>rfl
 | cons p l ih=>rw[List.foldl_cons,ih,Array.size_setIfInBounds]
theorem QK(tbl:List (Nat× Nat))(x:Nat→Value)(s:Array Value)(t:Nat)(ht:t < s.size):(frameT tbl x s)[t]?=if (zM tbl t).isSome=true then some (x t) else s[t]?:=by
 unfold frameT
 induction tbl generalizing s with
 | nil=>rfl
 | cons p l ih =>
   rw[List.foldl_cons,ih _ (by rw[Array.size_setIfInBounds];exact ht),Array.getElem?_setIfInBounds]
   have hs:zM (p :: l) t=if p.1=t then some p.2 else zM l t:=by
    unfold zM;rw[List.find?_cons]
    by_cases q:p.1=t
    ·simp[q]
    ·have:(p.1==t)=false:=by simp[q]
     rw[this,if_neg q]
   rw[hs]
   by_cases q:p.1=t
   ·rw [if_pos q,if_pos q];subst q;simp[ht]
   ·rw[if_neg q,if_neg q]
theorem J9(tbl:List (Nat× Nat))(x:Nat→Value)(s:Array Value):jO s (zM tbl) x=frameT tbl x s:=by
 apply Array.ext_getElem?;intro t
 by_cases ht:t < s.size
 ·rw [QK tbl x s t ht];unfold jO;rw[List.getElem?_toArray,List.getElem?_mapIdx,Array.getElem?_toList,Array.getElem?_eq_getElem ht];cases hs:zM tbl t with
  | some i=>simp[hs]
  | none=>simp[hs]
 ·rw[Array.getElem?_eq_none (by unfold jO;simp;omega),Array.getElem?_eq_none (by rw[Q7];omega)]
section
variable {P:Program} {ops:Array Oper} {Q:Exit→Act→World→Prop}
def Yr(P:Program)(ops:Array Oper)(Q:Exit→Act→World→Prop)(src:Nat→Option Nat)(G:Nat→Value→World→Prop)(F:(Nat→Value)→World→World→Prop)(s0:Array Value)(w0:World)(i:Nat)(o:Oper):Prop :=
 ∀ (a:Act) (w1 w:World),Ext w0 w1→a.tmps.size=s0.size→(∀t,src t=none→a.tmps.getD t undef=s0.getD t undef)→
   (∀t e,src t=some e→(o.after.toList.any fun x=>x.on==e && Region.binds .any x)=true→G e (a.tmps.getD t undef) w1)→
   (∀t e,src t=some e→((ops[e]?).any fun p=>p.after.toList.any fun x=>x.on==i && Region.binds .any x)=true→a.tmps.getD t undef=s0.getD t undef)→
   F (fun t=>a.tmps.getD t undef) w1 w→
   Region.wanted o (yielded ops a.tmps)=true∧o.wp P a w (fun a' w'=>∃v,a'=a.put o.dst v∧w'=w∧(o.dst.isSome=true→G i v w1)∧F (fun t=>(a.put o.dst v).tmps.getD t undef) w1 w) Q
def Yt(P:Program)(ops:Array Oper)(Q:Exit→Act→World→Prop)(src:Nat→Option Nat)(G:Nat→Value→World→Prop)(F:(Nat→Value)→World→World→Prop)(s0:Array Value)(w0:World)(i:Nat)(o:Oper):Prop :=
 ∀ (a:Act) (w:World),Ext w0 w→a.tmps.size=s0.size→(∀t,src t=none→a.tmps.getD t undef=s0.getD t undef)→
   (∀t e,src t=some e→(o.after.toList.any fun x=>x.on==e && Region.binds .any x)=true→G e (a.tmps.getD t undef) w)→
   (∀t e,src t=some e→((ops[e]?).any fun p=>p.after.toList.any fun x=>x.on==i && Region.binds .any x)=true→a.tmps.getD t undef=s0.getD t undef)→
   Region.wanted o (yielded ops a.tmps)=true∧o.wp P a w (fun a' w'=>∃v,a'=a.put o.dst v∧(o.dst.isSome=true→G i v w)∧F (fun t=>(a.put o.dst v).tmps.getD t undef) w w') Q
def V8(ops:Array Oper)(A:Nat→Bool)(z:Nat):Bool:=(List.range ops.size).all fun i=>!A i || (List.range ops.size).any fun e=>decide (i < e) && (e==z || A e) && (match ops[e]? with|some p=>p.after.toList.any fun x=>x.on==i && Region.binds .any x|none=>false)
theorem V4{A:Nat→Bool}{z:Nat}(h:V8 ops A z=true):∀i,(A i && decide (i < ops.size))=true→∃e p,i < e∧(e=z∨(A e && decide (e < ops.size))=true)∧ops[e]?=some p∧(p.after.toList.any fun x=>x.on==i && Region.binds .any x)=true:=by
 intro i hi;rw[Bool.and_eq_true,decide_eq_true_eq] at hi;unfold V8 at h;rw[List.all_eq_true] at h;have h1:=h i (List.mem_range.2 hi.2);rw[hi.1,Bool.not_true,Bool.false_or,List.any_eq_true] at h1;obtain⟨e,he,h2⟩:=h1;rw[Bool.and_eq_true,Bool.and_eq_true,decide_eq_true_eq,Bool.or_eq_true,beq_iff_eq] at h2;obtain⟨⟨h3,h4⟩,h5⟩:=h2;have hes:=List.mem_range.1 he;cases hp:ops[e]? with
 | none=>rw[hp] at h5;cases h5
 | some p =>
   rw[hp] at h5;refine⟨e,p,h3,?_,hp,h5⟩;rcases h4 with h4|h4
   ·exact .inl h4
   ·right;rw[h4];simp[hes]
end
variable {P:Program} {Q:Exit→Act→World→Prop}
end Go.Proofs.YtcejjdmnlejbaaaGreatDoor
