import Derived.Test.YtcejjdmnlejbaaaGreatDoorVPcc
import Derived.Test.YtcejjdmnlejbaaaGreatDoorVCtY
namespace Go.Proofs.YtcejjdmnlejbaaaGreatDoor
open Lib(hid)
set_option linter.unusedVariables false
set_option linter.unusedSimpArgs false
open Go.ChangeShapes Go.WideShapes Go.ChangeAt Go.RowKit
open Go.Deep (BT)
set_option maxHeartbeats 8000000
set_option maxRecDepth 100000
namespace Pg
open Pc
theorem isW_two{L:List Tk.T4}{i:Nat}{s u:ByteArray}(h:s≠u)(q:isW L i s=true):isW L i u=false:=by
 have h1:=isW_kd q;unfold isW;rw[h1.1,h1.2,decide_eq_false h];rfl
theorem limQ_eq(c:Pc.PC)(L:List Tk.T4)(h0:isW L 0 wLimit=true):limQ c L =
 if L.length=8∧nmd L 1=true∧isW L 2 wIs=true∧kd L 3 1=true∧isW L 5 wIn=true∧kd L 6 2=true∧isW L 7 wDays=true then
  (if (yn (Pc.tok L 3).text=2∧kd L 4 3=true)∨(yn (Pc.tok L 3).text=1∧kd L 4 2=true) then ({ c with ls:=c.ls++[⟨(Pc.tok L 1).text,(Pc.tok L 3).text,(Pc.tok L 4).num,(Pc.tok L 6).num⟩] },0) else (c,1)) else (c,1):=by
 unfold limQ
 by_cases hl:L.length≤3
 ·rw[if_pos hl,if_neg (by omega)]
 ·rw [if_neg hl];have key:∀a,amt (Pc.tok L 3).text=some a→wordP (Pc.tok L 3).text:=fun a h=>meas_word h
  have e:∀a,amt (Pc.tok L 3).text=some a→(sh L [wLimit,pN,wIs,(Pc.tok L 3).text,a,wIn,pD,wDays]=true↔(L.length=8∧nmd L 1=true∧isW L 2 wIs=true∧kd L 3 1=true∧isW L 5 wIn=true∧kd L 6 2=true∧isW L 7 wDays=true)∧pI L 4 a=true):=by
   intro a ha;have e3:isW L 3 (Pc.tok L 3).text=kd L 3 1:=(by unfold isW;simp);rw[sh_allI,allI8,pI_word wp_limit,pI_n,pI_word wp_is,pI_word (key a ha),pI_word wp_in,pI_d,pI_word wp_days,h0,e3];simp only[Bool.and_eq_true,decide_eq_true_eq,List.length_cons,List.length_nil];constructor
   ·rintro⟨a1,-,a2,a3,a4,a5,a6,a7,a8⟩;exact⟨⟨a1,a2,a3,a4,a6,a7,a8⟩,a5⟩
   ·rintro⟨⟨a1,a2,a3,a4,a6,a7,a8⟩,a5⟩;exact⟨a1,trivial,a2,a3,a4,a5,a6,a7,a8⟩
  by_cases h2:yn (Pc.tok L 3).text=2
  ·have ha:amt (Pc.tok L 3).text=some pT:=by unfold amt;rw[if_pos h2]
   have e1:=e _ ha;rw[pI_t] at e1;rw[ha];dsimp only
   by_cases q:L.length=8∧nmd L 1=true∧isW L 2 wIs=true∧kd L 3 1=true∧isW L 5 wIn=true∧kd L 6 2=true∧isW L 7 wDays=true
   ·rw [if_pos q]
    by_cases q2:kd L 4 3=true
    ·rw[if_pos (e1.2 ⟨q,q2⟩),if_pos (.inl ⟨h2,q2⟩)]
    ·rw[if_neg (fun s=>q2 (e1.1 s).2),if_neg (by rintro (⟨-,s⟩|⟨s,-⟩)<;>first|exact q2 s|(omega))]
   ·rw[if_neg q,if_neg (fun s=>q (e1.1 s).1)]
  ·by_cases h1:yn (Pc.tok L 3).text=1
   ·have ha:amt (Pc.tok L 3).text=some pD:=by unfold amt;rw[if_neg h2,if_pos h1]
    have e1:=e _ ha;rw[pI_d] at e1;rw[ha];dsimp only
    by_cases q:L.length=8∧nmd L 1=true∧isW L 2 wIs=true∧kd L 3 1=true∧isW L 5 wIn=true∧kd L 6 2=true∧isW L 7 wDays=true
    ·rw [if_pos q]
     by_cases q2:kd L 4 2=true
     ·rw[if_pos (e1.2 ⟨q,q2⟩),if_pos (.inr ⟨h1,q2⟩)]
     ·rw[if_neg (fun s=>q2 (e1.1 s).2),if_neg (by rintro (⟨s,-⟩|⟨-,s⟩)<;>first|exact h2 s|exact q2 s)]
    ·rw[if_neg q,if_neg (fun s=>q (e1.1 s).1)]
   ·have ha:amt (Pc.tok L 3).text=none:=by unfold amt;rw[if_neg h2,if_neg h1]
    rw[ha];dsimp only;have hn:¬(yn (Pc.tok L 3).text=2∧kd L 4 3=true∨yn (Pc.tok L 3).text=1∧kd L 4 2=true):=(by rintro (⟨s,-⟩|⟨s,-⟩)<;>first|exact h2 s|exact h1 s);rw[if_neg hn]
    split<;>rfl
theorem scoQ_eq(c:Pc.PC)(t:Tk.T4)(r:List Tk.T4):scoQ c (t :: r) =
 if scopeT t.t.text=0 then (c,1) else
 if isW (t :: r) 1 wCost=true∧isW (t :: r) 2 wIs=true then ifEx c ((t :: r).drop 3) fun x=>{ c with os:=c.os++[(scopeT t.t.text,x)] } else
 if isW (t :: r) 1 wRule=true∧nmd (t :: r) 2=true∧isW (t :: r) 3 wIs=true then ifEx c ((t :: r).drop 4) fun x=>{ c with rs:=c.rs++[(scopeT t.t.text,(Pc.tok (t :: r) 2).text,x)] } else (c,1):=by
 unfold scoQ;rw[List.drop_one,List.tail_cons,bg_cost,bg_rule,isW_consS,isW_consS,isW_consS,isW_consS,nmd_consS];simp only[Bool.and_eq_true];rfl
def restD(c:Pc.PC)(L:List Tk.T4):Pc.PC× Int :=
    if (Pc.tok L 0).text=wConst∧nmd L 1=true∧isW L 2 wIs=true then ifEx c (L.drop 3) fun x=>{ c with cs:=c.cs++[((Pc.tok L 1).text,x)] } else
    if scopeT (Pc.tok L 0).text≠0∧isW L 1 wRule=true∧nmd L 2=true∧isW L 3 wIs=true then ifEx c (L.drop 4) fun x=>{ c with rs:=c.rs++[(scopeT (Pc.tok L 0).text,(Pc.tok L 2).text,x)] } else
    if scopeT (Pc.tok L 0).text≠0∧isW L 1 wCost=true∧isW L 2 wIs=true then ifEx c (L.drop 3) fun x=>{ c with os:=c.os++[(scopeT (Pc.tok L 0).text,x)] } else
    if (Pc.tok L 0).text=wDuty∧isW L 1 wCredit=true∧isW L 2 wIs=true then ifEx c (L.drop 3) fun x=>{ c with cr:=c.cr++[x] } else
    if (Pc.tok L 0).text=wLimit∧L.length=8∧nmd L 1=true∧isW L 2 wIs=true∧kd L 3 1=true∧isW L 5 wIn=true∧kd L 6 2=true∧isW L 7 wDays=true then
     (if (yn (Pc.tok L 3).text=2∧kd L 4 3=true)∨(yn (Pc.tok L 3).text=1∧kd L 4 2=true) then ({ c with ls:=c.ls++[⟨(Pc.tok L 1).text,(Pc.tok L 3).text,(Pc.tok L 4).num,(Pc.tok L 6).num⟩] },0) else (c,1)) else
    if (Pc.tok L 0).text=wOff∧L.length=7∧nmd L 1=true∧isW L 2 wIs=true∧kd L 3 2=true∧isW L 4 wIn=true∧kd L 5 2=true∧isW L 6 wDays=true then ({ c with fs:=c.fs++[⟨(Pc.tok L 1).text,(Pc.tok L 3).num,(Pc.tok L 5).num⟩] },0) else
    (c,1)
theorem wn_c:¬wConst=wDuty∧¬wConst=wLimit∧¬wConst=wOff:=by decide
theorem wn_d:¬wDuty=wConst∧¬wDuty=wLimit∧¬wDuty=wOff:=by decide
theorem wn_l:¬wLimit=wConst∧¬wLimit=wDuty∧¬wLimit=wOff:=by decide
theorem wn_o:¬wOff=wConst∧¬wOff=wDuty∧¬wOff=wLimit:=by decide
theorem declQ_eq(c:Pc.PC)(t:Tk.T4)(r:List Tk.T4)(hv:VT t.t):declQ c (t :: r)=declT c (t :: r):=by
 have et:(Pc.tok (t :: r) 0).text=t.t.text:=rfl
 by_cases hk:kd (t :: r) 0 1=true
 case neg =>
  have hk':kd (t :: r) 0 1=false:=by simpa using hk
  have hkk:¬t.t.kind=1:=by rw[kd_cons0] at hk;simpa using hk
  have w0:∀s,isW (t :: r) 0 s=false:=fun s=>by unfold isW;rw[hk'];rfl
  have h1:¬tgt t.t.text < 6:=fun q=>hkk (vt_word hv (word_size (.inl q)));have h2:scopeT t.t.text=0:=Classical.byContradiction fun q=>hkk (vt_word hv (word_size (.inr q)));unfold declQ declT;rw[if_pos hk',et,if_neg (fun q=>h1 q.1),sh_night,bg_const,bg_credit,sh_off,bg_limit,scoQ_eq,if_pos h2];simp[w0]
 have w0:∀s,isW (t :: r) 0 s=decide (t.t.text=s):=fun s=>by rw[isW_0 hk];rfl
 have hd:declT c (t :: r)=match fieldsL.findIdx? (fun s=>decide (s=t.t.text)) with
  | some i=>fieldT c (t :: r) i
  | none=>restD c (t :: r):=by
  unfold declT;rw[if_neg (by rw[hk];decide)];rfl
 rw[hd,tgt_find]
 by_cases hf:tgt t.t.text < 6
 ·rw [if_pos hf];dsimp only;have e1:=sh_t1 t r;have hn:∀ {s:ByteArray},tgt s=6→decide (t.t.text=s)=false:=fun {s} h=>decide_eq_false fun e=>by rw[e] at hf;omega
  have T:=tgt_words;have hs:scopeT t.t.text=0:=(by rcases tgt_word _ hf with h|h|h|h|h|h<;>rw[h]<;>decide);unfold declQ fieldT;rw[et,sh_night,bg_const,bg_credit,sh_off,bg_limit,scoQ_eq,if_pos hs,w0,w0,w0,w0,w0,hn T.1,hn T.2.1,hn T.2.2.2.2.1,hn T.2.2.2.2.2.1,hn T.2.2.2.2.2.2,e1];generalize tgt t.t.text=i at *
  by_cases q1:(t :: r).length=2
  ·by_cases q2:kd (t :: r) 1 3=true
   ·rw [if_pos ⟨hf,by rw[decide_eq_true q1,q2];rfl⟩,if_neg (by rintro ⟨-,s|s⟩<;>first|exact s q1|(rw[q2] at s;cases s)),if_neg (by omega)];rfl
   ·rw [if_neg (by rw[decide_eq_true q1];simp[q2])];have hR:fieldT c (t :: r) i=(c,1):=(by unfold fieldT;rw[if_pos ⟨hf,.inr (by simpa using q2)⟩]);unfold fieldT at hR;rw[hR];simp
  ·rw [if_neg (by rw[decide_eq_false q1];simp)];have hR:fieldT c (t :: r) i=(c,1):=(by unfold fieldT;rw[if_pos ⟨hf,.inl q1⟩]);unfold fieldT at hR;rw[hR];simp
 ·rw [if_neg hf];have ht6:¬(tgt t.t.text < 6∧sh ((t :: r).drop 1) [pT]=true):=fun q=>hf q.1
  by_cases hn:t.t.text=wNight
  ·rw [if_pos hn];dsimp only;unfold declQ fieldT;rw[et,if_neg ht6,sh_night,bg_const,bg_credit,sh_off,bg_limit,scoQ_eq,w0,w0,w0,w0,w0,hn,if_pos (show scopeT wNight=0 by decide)];rw[decide_eq_false (show ¬wNight=wConst by decide),decide_eq_false (show ¬wNight=wDuty by decide),decide_eq_false (show ¬wNight=wOff by decide),decide_eq_false (show ¬wNight=wLimit by decide),decide_eq_true (rfl:wNight=wNight)];rw[if_neg (show ¬(6 < 6∧_) by omega)]
   by_cases q:(t :: r).length=4∧kd (t :: r) 1 4=true∧isW (t :: r) 2 wTo=true∧kd (t :: r) 3 4=true
   ·obtain ⟨q1,q2,q3,q4⟩:=q;rw[if_pos (by rw[decide_eq_true q1,q2,q3,q4];rfl),if_neg (by rintro ⟨-,s|s|s|s⟩<;>first|exact s q1|(rw[q2] at s;cases s)|(rw[q3] at s;cases s)|(rw[q4] at s;cases s))];rfl
   ·rw [if_neg (by simp only[Bool.and_eq_true,decide_eq_true_eq];rintro ⟨a1,-,a2,a3,a4⟩;exact q ⟨a1,a2,a3,a4⟩)]
    rw [if_pos (show 6=6∧_ from⟨rfl,by
     apply Classical.byContradiction;intro s;apply q;simp only[not_or,Bool.not_eq_false,Decidable.not_not] at s;exact s⟩)]
    simp
  ·rw [if_neg hn];dsimp only;have n0:decide (t.t.text=wNight)=false:=decide_eq_false hn;unfold declQ restD;rw[et,if_neg ht6,sh_night,bg_const,bg_credit,sh_off,bg_limit,scoQ_eq,w0,w0,w0,w0,w0,n0];rw[if_neg (by simp)];have hcr:=@isW_two (t :: r) 1 wRule wCost (by decide);have hcd:=@isW_two (t :: r) 1 wCost wCredit (by decide);have hrd:=@isW_two (t :: r) 1 wRule wCredit (by decide);have lim:=fun h=>limQ_eq c (t :: r) h;rw[w0] at lim;generalize isW (t :: r) 1 wRule=b1 at *;generalize isW (t :: r) 1 wCost=b2 at *;generalize isW (t :: r) 1 wCredit=b3 at *;generalize isW (t :: r) 2 wIs=b4 at *;generalize isW (t :: r) 3 wIs=b5 at *;generalize nmd (t :: r) 1=b6 at *;generalize nmd (t :: r) 2=b7 at *;generalize t.t.text=x at *
   by_cases x1:x=wConst
   ·subst x1;rw[show decide (wConst=wConst)=true from rfl,show decide (wConst=wDuty)=false from rfl,show decide (wConst=wOff)=false from rfl,show decide (wConst=wLimit)=false from rfl,scope_words.1];cases b6<;>cases b4<;>simp[wn_c]
   by_cases x2:x=wDuty
   ·subst x2;rw[show decide (wDuty=wConst)=false from rfl,show decide (wDuty=wDuty)=true from rfl,show decide (wDuty=wOff)=false from rfl,show decide (wDuty=wLimit)=false from rfl,scope_words.2.2.2.1];cases b1<;>cases b2<;>cases b3<;>cases b4<;>cases b5<;>cases b7<;>simp_all [wn_d]
   by_cases x3:x=wLimit
   ·subst x3;rw[show decide (wLimit=wConst)=false from rfl,show decide (wLimit=wDuty)=false from rfl,show decide (wLimit=wOff)=false from rfl,show decide (wLimit=wLimit)=true from rfl,scope_words.2.1];rw[if_neg (by simp),if_neg (by simp),if_neg (by simp),if_pos rfl,if_neg (by simp[wn_l]),if_neg (by simp),if_neg (by simp),if_neg (by simp[wn_l]),lim rfl]
    by_cases q:(t :: r).length=8∧b6=true∧b4=true∧kd (t :: r) 3 1=true∧isW (t :: r) 5 wIn=true∧kd (t :: r) 6 2=true∧isW (t :: r) 7 wDays=true
    ·rw[if_pos q,if_pos (show wLimit=wLimit∧_ from⟨rfl,q⟩)]
    ·rw[if_neg q,if_neg (fun s=>q s.2),if_neg (by simp[wn_l])]
   by_cases x4:x=wOff
   ·subst x4;rw[show decide (wOff=wConst)=false from rfl,show decide (wOff=wDuty)=false from rfl,show decide (wOff=wOff)=true from rfl,show decide (wOff=wLimit)=false from rfl,scope_words.2.2.1]
    by_cases q:(t :: r).length=7∧b6=true∧b4=true∧kd (t :: r) 3 2=true∧isW (t :: r) 4 wIn=true∧kd (t :: r) 5 2=true∧isW (t :: r) 6 wDays=true
    ·rw[if_neg (by simp),if_neg (by simp),if_pos (by obtain⟨a1,a2,a3,a4,a5,a6,a7⟩:=q;rw[decide_eq_true a1,a2,a3,a4,a5,a6,a7];rfl),if_neg (by simp[wn_o]),if_neg (by simp),if_neg (by simp),if_neg (by simp[wn_o]),if_neg (by simp[wn_o]),if_pos ⟨rfl,q⟩]
    ·rw[if_neg (by simp),if_neg (by simp),if_neg (by intro s;apply q;simp only[Bool.and_eq_true,decide_eq_true_eq] at s;exact⟨s.1,by simpa using s.2⟩),if_neg (by simp),if_pos rfl,if_neg (by simp[wn_o]),if_neg (by simp),if_neg (by simp),if_neg (by simp[wn_o]),if_neg (by simp[wn_o]),if_neg (fun s=>q s.2)]
   rw[decide_eq_false x1,decide_eq_false x2,decide_eq_false x3,decide_eq_false x4]
   by_cases hs:scopeT x=0
   ·simp[hs,x1,x2,x3,x4]
   ·cases b1<;>cases b2<;>cases b4<;>cases b5<;>cases b7<;>simp_all
end Pg
open Go.RowKit
namespace Pc
def Shp(c:PC)(L:List Tk.T4)(r:PC× Int):Prop:=r.1=c∨(∃i,r.1=setField (setSeen c i) i L)∨
    ∃cs rs os cr ls fs,r.1={ c with cs:=cs,rs:=rs,os:=os,cr:=cr,ls:=ls,fs:=fs }∧cs.length+rs.length+os.length+cr.length+ls.length+fs.length=c.cs.length+c.rs.length+c.os.length+c.cr.length+c.ls.length+c.fs.length+1
theorem shp_ite{c:PC}{L:List Tk.T4}{p:Prop} [Decidable p]{a b:PC× Int}(ha:Shp c L a)(hb:Shp c L b):Shp c L (if p then a else b):=by
 by_cases h:p
 ·rw[if_pos h];exact ha
 ·rw[if_neg h];exact hb
theorem shp_ex{c:PC}{L M:List Tk.T4}{f:Ch→PC}(h:∃cs rs os cr ls fs,f (tree M)={ c with cs:=cs,rs:=rs,os:=os,cr:=cr,ls:=ls,fs:=fs }∧cs.length+rs.length+os.length+cr.length+ls.length+fs.length=c.cs.length+c.rs.length+c.os.length+c.cr.length+c.ls.length+c.fs.length+1):Shp c L (ifEx c M f):=by
 unfold ifEx;exact shp_ite (.inl rfl) (.inr (.inr h))
theorem shp_field(c:PC)(L:List Tk.T4)(i:Nat):Shp c L (fieldT c L i):=by
 unfold fieldT;exact shp_ite (.inl rfl) (shp_ite (.inl rfl) (shp_ite (.inl rfl) (.inr (.inl ⟨_,rfl⟩))))
theorem declT_shape(c:PC)(L:List Tk.T4):Shp c L (declT c L):=by
 unfold declT;refine shp_ite (.inl rfl) ?_;cases fieldsL.findIdx? (fun s=>decide (s=(tok L 0).text)) with
 | some i=>exact shp_field c L i
 | none =>
   refine shp_ite (shp_ex ⟨_,c.rs,c.os,c.cr,c.ls,c.fs,rfl,?_⟩) (shp_ite (shp_ex ⟨c.cs,_,c.os,c.cr,c.ls,c.fs,rfl,?_⟩) (shp_ite (shp_ex ⟨c.cs,c.rs,_,c.cr,c.ls,c.fs,rfl,?_⟩) (shp_ite (shp_ex ⟨c.cs,c.rs,c.os,_,c.ls,c.fs,rfl,?_⟩) (shp_ite (shp_ite (.inr (.inr ⟨c.cs,c.rs,c.os,c.cr,_,c.fs,rfl,?_⟩)) (.inl rfl)) (shp_ite (.inr (.inr ⟨c.cs,c.rs,c.os,c.cr,c.ls,_,rfl,?_⟩)) (.inl rfl))))))
   all_goals (simp only[List.length_append,List.length_singleton];omega)
def cnt(c:PC):Nat:=c.cs.length+c.rs.length+c.os.length+c.cr.length+c.ls.length+c.fs.length
theorem cnt_field(c:PC)(i:Nat)(L:List Tk.T4):cnt (setField (setSeen c i) i L)=cnt c:=by
 unfold setField setSeen cnt
 split<;>rfl
theorem declT_cnt(c:PC)(L:List Tk.T4):cnt (declT c L).1≤cnt c+1:=by
 rcases declT_shape c L with h|⟨i,h⟩|⟨cs,rs,os,cr,ls,fs,h,hl⟩
 ·rw[h];omega
 ·rw[h,cnt_field];omega
 ·rw[h];unfold cnt;dsimp only;omega
theorem tok_num{L:List Tk.T4}(hV:∀t∈ L,VT t.t)(i:Nat):0≤(tok L i).num∧(tok L i).num≤1099511627776:=by
 unfold tok;cases h:L[i]? with
 | none=>exact⟨by show(0:Int)≤0;omega,by show(0:Int)≤_;omega⟩
 | some t =>
   have q:=hV t (List.mem_of_getElem? h)
   show 0≤t.t.num∧t.t.num≤_
   rcases q with q|q|q|q<;>omega
theorem tok_bd{L:List Tk.T4}(hV:∀t∈ L,VT t.t)(i:Nat):Bd (tok L i).num:=by
 have:=tok_num hV i;unfold Bd;omega
def NumB(c:PC):Prop:=Bd c.rep∧Bd c.rel∧Bd c.con∧Bd c.sit∧Bd c.lay∧Bd c.nf∧Bd c.nt∧Bd c.gua
theorem numb_field{c:PC}{L:List Tk.T4}(hV:∀t∈ L,VT t.t)(h:NumB c)(i:Nat):NumB (setField (setSeen c i) i L):=by
 obtain⟨h0,h1,h2,h3,h4,h5,h6,h7⟩:=h;have q1:=tok_bd hV 1;have q3:=tok_bd hV 3;unfold setField setSeen NumB
 split<;>exact⟨by assumption,by assumption,by assumption,by assumption,by assumption,by assumption,by assumption,by assumption⟩
theorem declT_numb{c:PC}{L:List Tk.T4}(hV:∀t∈ L,VT t.t)(h:NumB c):NumB (declT c L).1:=by
 rcases declT_shape c L with q|⟨i,q⟩|⟨cs,rs,os,cr,ls,fs,q,-⟩
 ·rw[q];exact h
 ·rw[q];exact numb_field hV h i
 ·rw[q];exact h
theorem numb0:NumB pc0:=by
 unfold NumB pc0 Bd;dsimp only;omega
end Pc
theorem kJ{α β:Type} [DecidableEq β](f:α→β){L:List α}{i j:Nat}{y:α}{s:β}(hy:L[i]?=some y)(hij:i < j)(h:f y=s):yG ((L.take j).map f) s=true:=by
 unfold yG;rw[decide_eq_true_eq,List.mem_map];exact⟨y,List.mem_of_getElem? (i:=i) (by rw[List.getElem?_take_of_lt hij];exact hy),h⟩
theorem jB{α β:Type} [DecidableEq β](f:α→β){L:List α}{i:Nat}{y:α}{s:β}(hy:L[i]?=some y)(h0:yG ((L.take i).map f) s=false)(h:f y≠s):yG ((L.take (i+1)).map f) s=false:=by
 rw[jt f hy,kU,h0];simp[Ne.symm h]
theorem vi{β:Type} [DecidableEq β](A B:List β)(s:β):yG (A++B) s=(yG A s || yG B s):=by
 unfold yG;rw[Bool.eq_iff_iff];simp
theorem js{s t:ByteArray}(h:s≠t):(s.toList==t.toList)=false:=by
 rw[beq_eq_false_iff_ne,Lib.toList_data,Lib.toList_data];exact fun q=>h (ByteArray.ext (Array.toList_inj.1 q))
theorem toList_eq{s t:ByteArray}(h:s=t):(s.toList==t.toList)=true:=by rw[h];simp
theorem qR(n lo hi:Int)(w:World):Calls Tryz.prog 61 #[.int .i64 n,.int .i64 lo,.int .i64 hi] w fun e w'=>e=.returned (.bool (zD n lo hi))∧w=w':=by
 by_cases h1:lo≤n
 ·have hb:decide (n ≥ lo)=true:=decide_eq_true h1;go_enter Tryz.func61,Tryz.ntmps61;go_wp2
  all_goals
   go_ret;exact⟨qr (by unfold zD;simp[h1]),rfl⟩
 ·have hb:¬n ≥ lo:=h1;go_enter Tryz.func61,Tryz.ntmps61;go_wp2
  all_goals
   go_ret;exact⟨qr (by unfold zD;rw[decide_eq_false (by omega)]),rfl⟩
theorem jw(s:ByteArray)(w:World):Calls Tryz.prog 55 #[.string s] w fun e w'=>e=.returned (.int .i64 (yn s))∧w=w':=by
 have R:Hid (yn s=if zu.1.any (fun x=>s.toList==x)=true then 2 else if zu.2.any (fun x=>s.toList==x)=true then 1 else 0):=by unfold Hid yn;rw[Lib.toList_data]
 go_enter Tryz.func55,Tryz.ntmps55;go_wp2
 all_goals
  go_ret;refine⟨qh ?_,rfl⟩;rw[R.out];simp only[zu,List.any_cons,List.any_nil];clear R
  simp_all
theorem Jl(c:Ct)(p:Cp)(w:World)(hv:CtV w c p)(hl1:c.ls.length≤16)(hl2:c.fs.length≤16) :
 Calls Tryz.prog 63 #[.agg #[.int .i64 c.rep,.int .i64 c.rel,.int .i64 c.con,.int .i64 c.sit,.int .i64 c.lay,.int .i64 c.nf,.int .i64 c.nt,.slice p.cs c.cs.length p.ccs,.slice p.rs c.rs.length p.crs,.slice p.os c.os.length p.cos,.slice p.cr (len c.cr) p.ccr,.slice p.ls c.ls.length p.cls,.slice p.fs c.fs.length p.cfs,.int .i64 c.gua]] w fun e w'=>e=.returned (.int .i64 (uL c))∧Below w.heap.size w w':=by
 have HV:=hid hv;clear hv;obtain⟨RV,hRV⟩:∃R,uL c=R:=⟨_,rfl⟩;rw[hRV];obtain⟨RL,hRL⟩:∃R,fe (jz c.ls) 0 c.ls.length=R:=⟨_,rfl⟩;obtain⟨RO,hRO⟩:∃R,fe (jx c.ls c.fs) 0 c.fs.length=R:=⟨_,rfl⟩;have HWW:Hid (RV=ku RL RO):=by unfold Hid;rw[← hRV,← hRL,← hRO];rfl
 have HL:=hid hRL;have HO:=hid hRO;clear hRV hRL hRO;go_enter Tryz.func63,Tryz.ntmps63;go_upto_region 1 with (fail);have X0:=hid (CtBox.start w c p);have B0:Hid (Below w.heap.size w (w.alloc (.cells #[.int .i64 c.rep,.int .i64 c.rel,.int .i64 c.con,.int .i64 c.sit,.int .i64 c.lay,.int .i64 c.nf,.int .i64 c.nt,.slice p.cs c.cs.length p.ccs,.slice p.rs c.rs.length p.crs,.slice p.os c.os.length p.cos,.slice p.cr (len c.cr) p.ccr,.slice p.ls c.ls.length p.cls,.slice p.fs c.fs.length p.cfs,.int .i64 c.gua] 43))):=(Below.refl _ _).alloc (Nat.le_refl _) _;generalize w.alloc (.cells #[.int .i64 c.rep,.int .i64 c.rel,.int .i64 c.con,.int .i64 c.sit,.int .i64 c.lay,.int .i64 c.nf,.int .i64 c.nt,.slice p.cs c.cs.length p.ccs,.slice p.rs c.rs.length p.crs,.slice p.os c.os.length p.cos,.slice p.cr (len c.cr) p.ccr,.slice p.ls c.ls.length p.cls,.slice p.fs c.fs.length p.cfs,.int .i64 c.gua] 43)=w0 at *;go_wp2_with fail
 go_loopw [3] (fun i wr=>∃j:Nat,j≤c.ls.length∧i=.int .i64 j∧Hid (Below w.heap.size w wr∧CtBox wr w.heap.size c p∧fe (jz c.ls) j (c.ls.length - j)=RL)) (fun i _=>c.ls.length - (intOf i).toNat)
 case atStart=>exact⟨0,Nat.zero_le _,rfl,B0.out,X0.out,HL.out⟩
 case round =>
  obtain⟨j,hj,rfl,HR⟩:=hrel
  by_cases qN:j < c.ls.length
  ·obtain ⟨x,hc⟩:∃x,c.ls[j]?=some x:=⟨_,List.getElem?_eq_getElem (by omega)⟩;obtain⟨-,BL,OL,hpp,hrow⟩:=HV.out.ls;have ROW:=hid hrow;have HPls:=hid (hpp (by intro q;rw[q] at hc;simp at hc));obtain⟨d0,d1,d2,d3,-,-,hs,hs2⟩:=(hrow j x hc).next HR.out.1
   have hs':x.name.size≤maxLen:=hs;have hj1:(j:Int) < (c.ls.length:Int):=(by omega);have hj0:(0:Int)≤(j:Int):=(by omega);have FA:=hid ((k6 (f:=jz c.ls) qN).symm.trans HR.out.2.2);have CA:=hid (vY c.ls j x hc);have c11:wr.cell? ⟨w.heap.size,11,none⟩=some (.slice (some ⟨BL,OL,none⟩) c.ls.length p.cls):=(by rw[← HPls.out];exact(HR.out.2.1).c11);clear hc hpp hrow;go_upto_region 5 with (fail);have B1:Hid (Below w.heap.size w (wr.alloc (.cells #[.string x.name,.string x.meas,.int .i64 x.most,.int .i64 x.days] 91))):=HR.out.1.alloc HR.out.1.size _;have X1:Hid (CtBox (wr.alloc (.cells #[.string x.name,.string x.meas,.int .i64 x.most,.int .i64 x.days] 91)) w.heap.size c p):=HR.out.2.1.next ((Below.refl _ _).alloc (Nat.le_refl _) _)
   have e0:(wr.alloc (.cells #[.string x.name,.string x.meas,.int .i64 x.most,.int .i64 x.days] 91)).cell? ⟨wr.heap.size,0,none⟩=some (.string x.name):=(by simp[go_sem]);have e1:(wr.alloc (.cells #[.string x.name,.string x.meas,.int .i64 x.most,.int .i64 x.days] 91)).cell? ⟨wr.heap.size,1,none⟩=some (.string x.meas):=(by simp[go_sem]);have e2:(wr.alloc (.cells #[.string x.name,.string x.meas,.int .i64 x.most,.int .i64 x.days] 91)).cell? ⟨wr.heap.size,2,none⟩=some (.int .i64 x.most):=(by simp[go_sem]);have e3:(wr.alloc (.cells #[.string x.name,.string x.meas,.int .i64 x.most,.int .i64 x.days] 91)).cell? ⟨wr.heap.size,3,none⟩=some (.int .i64 x.days):=(by simp[go_sem]);generalize wr.alloc (.cells #[.string x.name,.string x.meas,.int .i64 x.most,.int .i64 x.days] 91)=w1 at *;clear d0 d1 d2 d3 HR c11;generalize wr.heap.size=g at *;go_wp2_with fail;refine(zI x.name w1 hs).mono ?_;rintro e w2 ⟨he,hb⟩;have B2:=hid (B1.out.trans (hb.mono B1.out.size));have X2:=hid (X1.out.next hb);have k0:=qb e0 hb;have k1:=qb e1 hb;have k2:=qb e2 hb;have k3:=qb e3 hb;clear hb e0 e1 e2 e3;cases hD:yJ x.name
   ·rw [hD] at he;subst he;have RQ:Hid (RL=1):=(by unfold Hid;rw[← FA.out,CA.out,hD];rfl);clear hD;go_wp2;go_ret;exact⟨qh (by rw[HWW.out,RQ.out];rfl),B2.out⟩
   rw[hD] at he;subst he;have HD:=hid hD;clear hD;have RH:Hid (yG ((c.ls.take j).map (·.name)) x.name=true→RV=7):=fun hU=>by rw[HWW.out,← FA.out,CA.out,HD.out,hU];rfl
   go_wp2_with fail
   go_loopw [5] (fun kk wq=>∃i:Nat,i≤j∧kk=.int .i64 i∧Hid (Below w2.heap.size w2 wq∧yG ((c.ls.take i).map (·.name)) x.name=false)) (fun kk _=>j - (intOf kk).toNat)
   case atStart=>exact⟨0,Nat.zero_le _,rfl,Below.refl _ _,rfl⟩
   case round =>
    obtain⟨i,hi,rfl,HI⟩:=hrel
    by_cases hij:i < j
    ·obtain ⟨y,hy⟩:∃y,c.ls[i]?=some y:=⟨_,List.getElem?_eq_getElem (by omega)⟩;have hij':(i:Int) < (j:Int):=(by omega);have hil:(i:Int) < (c.ls.length:Int):=(by omega);have hi0:(0:Int)≤(i:Int):=(by omega);have q0:=qb (ROW.out i y hy).1 (B2.out.trans (HI.out.1.mono B2.out.size));have c11:wr.cell? ⟨w.heap.size,11,none⟩=some (.slice (some ⟨BL,OL,none⟩) c.ls.length p.cls):=(by rw[← HPls.out];exact(X2.out.next HI.out.1).c11);have f0:=qb k0 HI.out.1;have f1:=qb k1 HI.out.1;have f2:=qb k2 HI.out.1;have f3:=qb k3 HI.out.1;have HY:=hid hy;clear hy
     by_cases hq:y.name=x.name
     ·have hb:=toList_eq hq;have RQ:=hid (RH.out (kJ (·.name) HY.out hij hq));clear hq;go_wp2_with fail
      go_quiet (fail)
      go_wp2;go_ret;exact⟨qh RQ.out.symm,below_drewN (B2.out.trans (HI.out.1.mono B2.out.size)) _⟩
     ·have hb:=js hq;have HQ:=hid hq;clear hq;go_wp2_with fail
      go_quiet (fail)
      go_wp2
      go_roundw
      case rel=>exact⟨i+1,by omega,by go_num,below_drewN HI.out.1 _,jB (·.name) HY.out HI.out.2 HQ.out⟩
      case measure=>simp[intOf];omega
    have hij':¬(i:Int) < (j:Int):=(by omega);have NB:=hid HI.out.1;have ND:Hid (yG ((c.ls.take j).map (·.name)) x.name=false):=(by unfold Hid;rw[show j=i by omega];exact HI.out.2);have DD:Hid (yG ((c.ls.take j).map (·.name)) x.name=false):=ND.out;have B3:=hid (B2.out.trans (NB.out.mono B2.out.size));have X3:=hid (X2.out.next NB.out);have n0:=qb k0 NB.out;have n1:=qb k1 NB.out;have n2:=qb k2 NB.out;have n3:=qb k3 NB.out;clear k0 k1 k2 k3 HI NB ND;obtain⟨mk,hmk⟩:∃mk,yn x.meas=mk:=⟨_,rfl⟩;have HK:=hid hmk
    by_cases hm0:mk=0
    ·have RQ:Hid (RL=6):=by unfold Hid;rw[← FA.out,CA.out,HD.out,DD.out,if_pos (hmk.trans hm0)];rfl
     have b0:(mk==0)=true:=(by simp[hm0]);clear hmk hm0;go_wp2_with (go_at_call 55;refine(jw _ _).mono ?_;rw[HK.out];rintro e w8 ⟨rfl,rfl⟩);go_ret;exact⟨qh (by rw[HWW.out,RQ.out];rfl),B3.out⟩
    have b0:(mk==0)=false:=(by simp[hm0]);have CB:Hid (jz c.ls j=if (zD x.most 0 599999 && zD x.days 1 31)=true then 0 else 5):=(by unfold Hid;rw[CA.out,HD.out,DD.out,if_neg (c:=yn x.meas=0) (fun q=>hm0 (hmk.symm.trans q))];rfl);clear hmk hm0;cases hM:zD x.most 0 599999
    ·have HM:=hid hM;have RQ:Hid (RL=5):=(by unfold Hid;rw[← FA.out,CB.out,hM];rfl);clear hM;go_wp2_with (first|(go_at_call 55;refine(jw _ _).mono ?_;rw[HK.out];rintro e w8 ⟨rfl,rfl⟩)|(go_at_call 61;refine(qR _ _ _ _).mono ?_;rw[HM.out];rintro e w8 ⟨rfl,rfl⟩));go_ret;exact⟨qh (by rw[HWW.out,RQ.out];rfl),B3.out⟩
    have HM:=hid hM;cases hY:zD x.days 1 31
    ·have HY:=hid hY;have RQ:Hid (RL=5):=(by unfold Hid;rw[← FA.out,CB.out,hM,hY];rfl);clear hM hY;go_wp2_with (first|(go_at_call 55;refine(jw _ _).mono ?_;rw[HK.out];rintro e w8 ⟨rfl,rfl⟩)|(go_at_call 61;refine(qR _ _ _ _).mono ?_;(first|rw[HM.out]|rw[HY.out]);rintro e w8 ⟨rfl,rfl⟩));go_ret;exact⟨qh (by rw[HWW.out,RQ.out];rfl),B3.out⟩
    have HY:=hid hY;have RQ:Hid (fe (jz c.ls) (j+1) (c.ls.length - (j+1))=RL):=(by unfold Hid;rw[← FA.out,CB.out,hM,hY];exact(yk _).symm);clear hM hY;go_wp2_with (first|(go_at_call 55;refine(jw _ _).mono ?_;rw[HK.out];rintro e w8 ⟨rfl,rfl⟩)|(go_at_call 61;refine(qR _ _ _ _).mono ?_;(first|rw[HM.out]|rw[HY.out]);rintro e w8 ⟨rfl,rfl⟩))
    go_roundw
    case rel=>exact⟨j+1,by omega,by go_num,B3.out,X3.out,RQ.out⟩
    case measure=>simp[intOf];omega
  have hj1:¬(j:Int) < (c.ls.length:Int):=by omega
  have RQ:Hid (RL=0):=by unfold Hid;rw[← HR.out.2.2,jp (by omega)]
  have HWO:Hid (RV=RO):=by unfold Hid;rw[HWW.out,RQ.out,yk]
  have BW:=hid HR.out.1;have XW:=hid HR.out.2.1;have c11:=XW.out.c11;clear HR;go_wp2_with fail;clear c11
  go_loopw [6] (fun i wr=>∃j:Nat,j≤c.fs.length∧i=.int .i64 j∧Hid (Below w.heap.size w wr∧CtBox wr w.heap.size c p∧fe (jx c.ls c.fs) j (c.fs.length - j)=RO)) (fun i _=>c.fs.length - (intOf i).toNat)
  case atStart=>exact⟨0,Nat.zero_le _,rfl,BW.out,XW.out,HO.out⟩
  case round =>
   obtain⟨j,hj,rfl,HR⟩:=hrel
   by_cases qN:j < c.fs.length
   ·obtain ⟨x,hc⟩:∃x,c.fs[j]?=some x:=⟨_,List.getElem?_eq_getElem (by omega)⟩;obtain⟨-,BF,OF,hpp,hrow⟩:=HV.out.fs;have ROW:=hid hrow;have HPfs:=hid (hpp (by intro q;rw[q] at hc;simp at hc));obtain⟨d0,d1,d2,-,-,hs⟩:=(hrow j x hc).next HR.out.1
    have hs':x.name.size≤maxLen:=hs;have hj1:(j:Int) < (c.fs.length:Int):=(by omega);have hj0:(0:Int)≤(j:Int):=(by omega);have FA:=hid ((k6 (f:=jx c.ls c.fs) qN).symm.trans HR.out.2.2);have CA:=hid (vS c.ls c.fs j x hc);have c12:wr.cell? ⟨w.heap.size,12,none⟩=some (.slice (some ⟨BF,OF,none⟩) c.fs.length p.cfs):=(by rw[← HPfs.out];exact(HR.out.2.1).c12);clear hc hpp hrow;go_upto_region 20 with (fail);have B1:Hid (Below w.heap.size w (wr.alloc (.cells #[.string x.name,.int .i64 x.count,.int .i64 x.days] 93))):=HR.out.1.alloc HR.out.1.size _;have X1:Hid (CtBox (wr.alloc (.cells #[.string x.name,.int .i64 x.count,.int .i64 x.days] 93)) w.heap.size c p):=HR.out.2.1.next ((Below.refl _ _).alloc (Nat.le_refl _) _)
    have e0:(wr.alloc (.cells #[.string x.name,.int .i64 x.count,.int .i64 x.days] 93)).cell? ⟨wr.heap.size,0,none⟩=some (.string x.name):=(by simp[go_sem]);have e1:(wr.alloc (.cells #[.string x.name,.int .i64 x.count,.int .i64 x.days] 93)).cell? ⟨wr.heap.size,1,none⟩=some (.int .i64 x.count):=(by simp[go_sem]);have e2:(wr.alloc (.cells #[.string x.name,.int .i64 x.count,.int .i64 x.days] 93)).cell? ⟨wr.heap.size,2,none⟩=some (.int .i64 x.days):=(by simp[go_sem]);generalize wr.alloc (.cells #[.string x.name,.int .i64 x.count,.int .i64 x.days] 93)=w1 at *;clear d0 d1 d2 HR c12;generalize wr.heap.size=g at *;go_wp2_with fail;refine(zI x.name w1 hs).mono ?_;rintro e w2 ⟨he,hb⟩;have B2:=hid (B1.out.trans (hb.mono B1.out.size));have X2:=hid (X1.out.next hb);have k0:=qb e0 hb;have k1:=qb e1 hb;have k2:=qb e2 hb;clear hb e0 e1 e2;cases hD:yJ x.name
    ·rw [hD] at he;subst he;have RQ:Hid (RO=1):=(by unfold Hid;rw[← FA.out,CA.out,hD];rfl);clear hD;go_wp2;go_ret;exact⟨qh (by rw[HWO.out,RQ.out]),B2.out⟩
    rw[hD] at he;subst he;have HD:=hid hD;clear hD;have RH1:Hid (yG ((c.ls.take c.ls.length).map (·.name)) x.name=true→RV=7):=fun hU=>by rw[List.take_length] at hU;rw[HWO.out,← FA.out,CA.out,HD.out,vi,hU];rfl
    have RH2:Hid (yG ((c.fs.take j).map (·.name)) x.name=true→RV=7):=fun hU=>by rw[HWO.out,← FA.out,CA.out,HD.out,vi,hU,Bool.or_true];rfl
    obtain⟨-,BL,OL,hppL,hrowL⟩:=HV.out.ls;have ROWL:=hid hrowL;have HPPL:=hid hppL;clear hppL;clear hrowL;have c11z:=X2.out.c11;go_wp2_with fail;clear c11z
    go_loopw [8] (fun kk wq=>∃i:Nat,i≤c.ls.length∧kk=.int .i64 i∧Hid (Below w2.heap.size w2 wq∧yG ((c.ls.take i).map (·.name)) x.name=false)) (fun kk _=>c.ls.length - (intOf kk).toNat)
    case atStart=>exact⟨0,Nat.zero_le _,rfl,Below.refl _ _,rfl⟩
    case round =>
     obtain⟨i,hi,rfl,HI⟩:=hrel;have c11z:=(X2.out.next HI.out.1).c11
     by_cases hij:i < c.ls.length
     ·obtain ⟨y,hy⟩:∃y,c.ls[i]?=some y:=⟨_,List.getElem?_eq_getElem (by omega)⟩;have HPls:=hid (HPPL.out (by intro q;rw[q] at hy;simp at hy));clear c11z;have hij':(i:Int) < (c.ls.length:Int):=(by omega);have hil:(i:Int) < (c.ls.length:Int):=(by omega);have hi0:(0:Int)≤(i:Int):=(by omega);have q0:=qb (ROWL.out i y hy).1 (B2.out.trans (HI.out.1.mono B2.out.size));have c11:wr.cell? ⟨w.heap.size,11,none⟩=some (.slice (some ⟨BL,OL,none⟩) c.ls.length p.cls):=(by rw[← HPls.out];exact(X2.out.next HI.out.1).c11);have f0:=qb k0 HI.out.1;have f1:=qb k1 HI.out.1;have f2:=qb k2 HI.out.1;have HY:=hid hy;clear hy
      by_cases hq:y.name=x.name
      ·have hb:=toList_eq hq;have RQ:=hid (RH1.out (kJ (·.name) HY.out hij hq));clear hq;go_wp2_with fail
       go_quiet (fail)
       go_wp2;go_ret;exact⟨qh RQ.out.symm,below_drewN (B2.out.trans (HI.out.1.mono B2.out.size)) _⟩
      ·have hb:=js hq;have HQ:=hid hq;clear hq;go_wp2_with fail
       go_quiet (fail)
       go_wp2
       go_roundw
       case rel=>exact⟨i+1,by omega,by go_num,below_drewN HI.out.1 _,jB (·.name) HY.out HI.out.2 HQ.out⟩
       case measure=>simp[intOf];omega
     have hij':¬(i:Int) < (c.ls.length:Int):=(by omega);have NB:=hid HI.out.1;have ND:Hid (yG ((c.ls.take c.ls.length).map (·.name)) x.name=false):=(by unfold Hid;rw[show c.ls.length=i by omega];exact HI.out.2);have ND1:Hid (yG (c.ls.map (·.name)) x.name=false):=(by have:=ND.out;rw[List.take_length] at this;exact this);have B2':=hid (B2.out.trans (NB.out.mono B2.out.size));have X2':=hid (X2.out.next NB.out);have m0:=qb k0 NB.out;have m1:=qb k1 NB.out;have m2:=qb k2 NB.out;clear k0 k1 k2 HI NB ND B2 X2;obtain⟨w2b,hw2b⟩:∃w2b:World,w2b=wr:=⟨_,rfl⟩;subst hw2b;go_wp2_with fail;clear c11z
     go_loopw [9] (fun kk wq=>∃i:Nat,i≤j∧kk=.int .i64 i∧Hid (Below w2b.heap.size w2b wq∧yG ((c.fs.take i).map (·.name)) x.name=false)) (fun kk _=>j - (intOf kk).toNat)
     case atStart=>exact⟨0,Nat.zero_le _,rfl,Below.refl _ _,rfl⟩
     case round =>
      obtain⟨i,hi,rfl,HI⟩:=hrel
      by_cases hij:i < j
      ·obtain ⟨y,hy⟩:∃y,c.fs[i]?=some y:=⟨_,List.getElem?_eq_getElem (by omega)⟩;have hij':(i:Int) < (j:Int):=(by omega);have hil:(i:Int) < (c.fs.length:Int):=(by omega);have hi0:(0:Int)≤(i:Int):=(by omega);have q0:=qb (ROW.out i y hy).1 (B2'.out.trans (HI.out.1.mono B2'.out.size));have c12:wr.cell? ⟨w.heap.size,12,none⟩=some (.slice (some ⟨BF,OF,none⟩) c.fs.length p.cfs):=(by rw[← HPfs.out];exact(X2'.out.next HI.out.1).c12);have f0:=qb m0 HI.out.1;have f1:=qb m1 HI.out.1;have f2:=qb m2 HI.out.1;have HY:=hid hy;clear hy
       by_cases hq:y.name=x.name
       ·have hb:=toList_eq hq;have RQ:=hid (RH2.out (kJ (·.name) HY.out hij hq));clear hq;go_wp2_with fail
        go_quiet (fail)
        go_wp2;go_ret;exact⟨qh RQ.out.symm,below_drewN (B2'.out.trans (HI.out.1.mono B2'.out.size)) _⟩
       ·have hb:=js hq;have HQ:=hid hq;clear hq;go_wp2_with fail
        go_quiet (fail)
        go_wp2
        go_roundw
        case rel=>exact⟨i+1,by omega,by go_num,below_drewN HI.out.1 _,jB (·.name) HY.out HI.out.2 HQ.out⟩
        case measure=>simp[intOf];omega
      have hij':¬(i:Int) < (j:Int):=(by omega);have NB:=hid HI.out.1;have ND:Hid (yG ((c.fs.take j).map (·.name)) x.name=false):=(by unfold Hid;rw[show j=i by omega];exact HI.out.2);have DD:Hid (yG (c.ls.map (·.name)++(c.fs.take j).map (·.name)) x.name=false):=(by unfold Hid;rw[vi,ND1.out,ND.out];rfl);have B3:=hid (B2'.out.trans (NB.out.mono B2'.out.size));have X3:=hid (X2'.out.next NB.out);have n0:=qb m0 NB.out;have n1:=qb m1 NB.out;have n2:=qb m2 NB.out;clear m0 m1 m2 HI NB ND;have CB:Hid (jx c.ls c.fs j=if (zD x.days 1 31 && zD x.count 1 x.days)=true then 0 else 5):=(by unfold Hid;rw[CA.out,HD.out,DD.out];rfl);cases hM:zD x.days 1 31
      ·have HM:=hid hM;have RQ:Hid (RO=5):=(by unfold Hid;rw[← FA.out,CB.out,hM];rfl);clear hM;go_wp2_with (first|(go_at_call 61;refine(qR _ _ _ _).mono ?_;rw[HM.out];rintro e w8 ⟨rfl,rfl⟩));go_ret;exact⟨qh (by rw[HWO.out,RQ.out]),B3.out⟩
      have HM:=hid hM;cases hY:zD x.count 1 x.days
      ·have HY:=hid hY;have RQ:Hid (RO=5):=(by unfold Hid;rw[← FA.out,CB.out,hM,hY];rfl);clear hM hY;go_wp2_with (first|(go_at_call 61;refine(qR _ _ _ _).mono ?_;(first|rw[HM.out]|rw[HY.out]);rintro e w8 ⟨rfl,rfl⟩));go_ret;exact⟨qh (by rw[HWO.out,RQ.out]),B3.out⟩
      have HY:=hid hY;have RQ:Hid (fe (jx c.ls c.fs) (j+1) (c.fs.length - (j+1))=RO):=(by unfold Hid;rw[← FA.out,CB.out,hM,hY];exact(yk _).symm);clear hM hY;go_wp2_with (first|(go_at_call 61;refine(qR _ _ _ _).mono ?_;(first|rw[HM.out]|rw[HY.out]);rintro e w8 ⟨rfl,rfl⟩))
      go_roundw
      case rel=>exact⟨j+1,by omega,by go_num,B3.out,X3.out,RQ.out⟩
      case measure=>simp[intOf];omega
   have hj1:¬(j:Int) < (c.fs.length:Int):=(by omega);have RQ:Hid (RO=0):=(by unfold Hid;rw[← HR.out.2.2,jp (by omega)]);have c12:=HR.out.2.1.c12;go_wp2;go_ret;exact⟨qh (by rw[HWO.out,RQ.out]),HR.out.1⟩
end Go.Proofs.YtcejjdmnlejbaaaGreatDoor
