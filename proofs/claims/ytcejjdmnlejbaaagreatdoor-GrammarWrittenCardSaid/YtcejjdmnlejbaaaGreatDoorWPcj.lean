import Derived.Test.YtcejjdmnlejbaaaGreatDoorWFca
namespace Go.Proofs.YtcejjdmnlejbaaaGreatDoor
open Lib(hid)
set_option linter.unusedVariables false
set_option linter.unusedSimpArgs false
open Go.ChangeShapes Go.WideShapes Go.ChangeAt Go.RowKit
open Go.Deep (BT)
set_option maxHeartbeats 2000000
set_option maxRecDepth 100000
namespace Pg
open Pc
def pN:ByteArray:=⟨#[35,110]⟩
def pT:ByteArray:=⟨#[35,116]⟩
def pC:ByteArray:=⟨#[35,99]⟩
def pD:ByteArray:=⟨#[35,100]⟩
def pm(p:ByteArray)(t:Tk.T3):Bool:=if p=pN then decide (t.kind=1) && yh t.text else if p=pT then decide (t.kind=3) else if p=pC then decide (t.kind=4) else if p=pD then decide (t.kind=2) else decide (t.kind=1) && decide (t.text=p)
def sh:List Tk.T4→List ByteArray→Bool
 | [],[]=>true
 | t :: L,p :: P=>pm p t.t && sh L P
 | _,_=>false
def bg(L:List Tk.T4)(P:List ByteArray):Bool:=decide (P.length≤L.length) && sh (L.take P.length) P
theorem sh_len{L:List Tk.T4}{P:List ByteArray}(h:sh L P=true):L.length=P.length:=by
 induction L generalizing P with
 | nil=>cases P with
   | nil=>rfl
   | cons p P=>simp[sh] at h
 | cons t L ih=>cases P with
   | nil=>simp[sh] at h
   | cons p P =>
     simp only[sh,Bool.and_eq_true] at h;simp[ih h.2]
theorem sh_drop{L:List Tk.T4}{P:List ByteArray}{j:Nat}{t:Tk.T4}{p:ByteArray}(hl:L[j]?=some t)(hp:P[j]?=some p):sh (L.drop j) (P.drop j)=(pm p t.t && sh (L.drop (j+1)) (P.drop (j+1))):=by
 obtain⟨h1,h2⟩:=List.getElem?_eq_some_iff.1 hl;obtain⟨h3,h4⟩:=List.getElem?_eq_some_iff.1 hp;rw[List.drop_eq_getElem_cons h1,List.drop_eq_getElem_cons h3,h2,h4];rfl
theorem sh_end{L:List Tk.T4}{P:List ByteArray}{j:Nat}(hl:L.length≤j)(hp:P.length≤j):sh (L.drop j) (P.drop j)=true:=by
 rw[List.drop_eq_nil_of_le hl,List.drop_eq_nil_of_le hp];rfl
theorem sh_no{L:List Tk.T4}{P:List ByteArray}(h:L.length≠P.length):sh L P=false:=by
 cases q:sh L P with
 | false=>rfl
 | true=>exact absurd (sh_len q) h
def wordP(p:ByteArray):Prop:=p≠pN∧p≠pT∧p≠pC∧p≠pD
theorem pm_word{p:ByteArray}(h:wordP p)(t:Tk.T3):pm p t=(decide (t.kind=1) && decide (t.text=p)):=by
 unfold pm;rw[if_neg h.1,if_neg h.2.1,if_neg h.2.2.1,if_neg h.2.2.2]
theorem wp_const:wordP wConst:=by unfold wordP;decide
theorem wp_is:wordP wIs:=by unfold wordP;decide
theorem wp_duty:wordP wDuty:=by unfold wordP;decide
theorem wp_credit:wordP wCredit:=by unfold wordP;decide
theorem wp_off:wordP wOff:=by unfold wordP;decide
theorem wp_in:wordP wIn:=by unfold wordP;decide
theorem wp_days:wordP wDays:=by unfold wordP;decide
theorem wp_night:wordP wNight:=by unfold wordP;decide
theorem wp_to:wordP wTo:=by unfold wordP;decide
theorem wp_limit:wordP wLimit:=by unfold wordP;decide
theorem wp_cost:wordP wCost:=by unfold wordP;decide
theorem wp_rule:wordP wRule:=by unfold wordP;decide
theorem tok_S(t:Tk.T4)(L:List Tk.T4)(i:Nat):Pc.tok (t :: L) (i+1)=Pc.tok L i:=by unfold Pc.tok;rw[List.getElem?_cons_succ]
theorem kd_cons0(t:Tk.T4)(L:List Tk.T4)(k:Int):kd (t :: L) 0 k=decide (t.t.kind=k):=by simp[kd,Pc.tok]
theorem kd_consS(t:Tk.T4)(L:List Tk.T4)(i:Nat)(k:Int):kd (t :: L) (i+1) k=kd L i k:=by unfold kd;rw[tok_S];simp
theorem kd_nil(i:Nat)(k:Int):kd [] i k=false:=by simp[kd]
theorem isW_cons0(t:Tk.T4)(L:List Tk.T4)(s:ByteArray):isW (t :: L) 0 s=(decide (t.t.kind=1) && decide (t.t.text=s)):=by unfold isW;rw[kd_cons0];rfl
theorem isW_consS(t:Tk.T4)(L:List Tk.T4)(i:Nat)(s:ByteArray):isW (t :: L) (i+1) s=isW L i s:=by unfold isW;rw[kd_consS,tok_S]
theorem isW_nil(i:Nat)(s:ByteArray):isW [] i s=false:=by unfold isW;rw[kd_nil];rfl
theorem nmd_cons0(t:Tk.T4)(L:List Tk.T4):nmd (t :: L) 0=(decide (t.t.kind=1) && yh t.t.text):=by unfold nmd;rw[kd_cons0];rfl
theorem nmd_consS(t:Tk.T4)(L:List Tk.T4)(i:Nat):nmd (t :: L) (i+1)=nmd L i:=by unfold nmd;rw[kd_consS,tok_S]
theorem nmd_nil(i:Nat):nmd [] i=false:=by unfold nmd;rw[kd_nil];rfl
def pI(L:List Tk.T4)(i:Nat)(p:ByteArray):Bool:=if p=pN then nmd L i else if p=pT then kd L i 3 else if p=pC then kd L i 4 else if p=pD then kd L i 2 else isW L i p
theorem pI_cons0(t:Tk.T4)(L:List Tk.T4)(p:ByteArray):pI (t :: L) 0 p=pm p t.t:=by
 unfold pI pm;rw[nmd_cons0,kd_cons0,kd_cons0,kd_cons0,isW_cons0]
theorem pI_consS(t:Tk.T4)(L:List Tk.T4)(i:Nat)(p:ByteArray):pI (t :: L) (i+1) p=pI L i p:=by
 unfold pI;rw[nmd_consS,kd_consS,kd_consS,kd_consS,isW_consS]
theorem pI_nil(i:Nat)(p:ByteArray):pI [] i p=false:=by
 unfold pI;rw[nmd_nil,kd_nil,kd_nil,kd_nil,isW_nil];simp
def allI(L:List Tk.T4):Nat→List ByteArray→Bool
 | _,[]=>true
 | i,p :: P=>pI L i p && allI L (i+1) P
theorem allI_cons(t:Tk.T4)(L:List Tk.T4)(i:Nat)(P:List ByteArray):allI (t :: L) (i+1) P=allI L i P:=by
 induction P generalizing i with
 | nil=>rfl
 | cons p P ih=>simp only[allI];rw[pI_consS,ih]
theorem sh_allI(L:List Tk.T4)(P:List ByteArray):sh L P=(decide (L.length=P.length) && allI L 0 P):=by
 induction P generalizing L with
 | nil=>cases L with
   | nil=>rfl
   | cons t L=>simp[sh]
 | cons p P ih=>cases L with
   | nil=>simp[sh]
   | cons t L =>
     simp only[sh,allI];rw[ih,pI_cons0,allI_cons];have e:decide ((t :: L).length=(p :: P).length)=decide (L.length=P.length):=(by simp);rw[e];cases pm p t.t<;>cases decide (L.length=P.length)<;>rfl
theorem bg_allI(L:List Tk.T4)(P:List ByteArray):bg L P=allI L 0 P:=by
 unfold bg
 induction P generalizing L with
 | nil=>simp[sh,allI]
 | cons p P ih=>cases L with
   | nil=>simp[allI,pI_nil]
   | cons t L =>
     have e:decide ((p :: P).length≤(t :: L).length)=decide (P.length≤L.length):=(by simp);rw[e,List.length_cons,List.take_succ_cons];simp only[sh,allI];rw[allI_cons,← ih,pI_cons0];cases pm p t.t<;>cases decide (P.length≤L.length)<;>rfl
theorem pI_word{p:ByteArray}(h:wordP p)(L:List Tk.T4)(i:Nat):pI L i p=isW L i p:=by
 unfold pI;rw[if_neg h.1,if_neg h.2.1,if_neg h.2.2.1,if_neg h.2.2.2]
theorem pI_n(L:List Tk.T4)(i:Nat):pI L i pN=nmd L i:=rfl
theorem pI_t(L:List Tk.T4)(i:Nat):pI L i pT=kd L i 3:=rfl
theorem pI_c(L:List Tk.T4)(i:Nat):pI L i pC=kd L i 4:=rfl
theorem pI_d(L:List Tk.T4)(i:Nat):pI L i pD=kd L i 2:=rfl
def tgt(s:ByteArray):Nat:=if s=wReport then 0 else if s=wRelease then 1 else if s=wConnect then 2 else if s=wSit then 3 else if s=wLayover then 4 else if s=wGuarantee then 5 else 6
def amt(s:ByteArray):Option ByteArray:=if qW s=2 then some pT else if qW s=1 then some pD else none
def seenT(c:Pc.PC)(i:Nat)(L:List Tk.T4):Pc.PC× Int:=if c.seen i=true then (c,7) else (setField (setSeen c i) i L,0)
def limQ(c:Pc.PC)(L:List Tk.T4):Pc.PC× Int :=
 if L.length≤3 then (c,1) else
 match amt (Pc.tok L 3).text with
 | none=>(c,1)
 | some a=>if sh L [wLimit,pN,wIs,(Pc.tok L 3).text,a,wIn,pD,wDays]=true then ({ c with ls:=c.ls++[⟨(Pc.tok L 1).text,(Pc.tok L 3).text,(Pc.tok L 4).num,(Pc.tok L 6).num⟩] },0) else (c,1)
def scoQ(c:Pc.PC)(L:List Tk.T4):Pc.PC× Int :=
 if scopeT (Pc.tok L 0).text=0 then (c,1) else
 if bg (L.drop 1) [wCost,wIs]=true then ifEx c (L.drop 3) fun x=>{ c with os:=c.os++[(scopeT (Pc.tok L 0).text,x)] } else
 if bg (L.drop 1) [wRule,pN,wIs]=true then ifEx c (L.drop 4) fun x=>{ c with rs:=c.rs++[(scopeT (Pc.tok L 0).text,(Pc.tok L 2).text,x)] } else (c,1)
def declQ(c:Pc.PC)(L:List Tk.T4):Pc.PC× Int :=
 if tgt (Pc.tok L 0).text < 6∧sh (L.drop 1) [pT]=true then seenT c (tgt (Pc.tok L 0).text) L else
 if sh L [wNight,pC,wTo,pC]=true then seenT c 6 L else
 if bg L [wConst,pN,wIs]=true then ifEx c (L.drop 3) fun x=>{ c with cs:=c.cs++[((Pc.tok L 1).text,x)] } else
 if bg L [wDuty,wCredit,wIs]=true then ifEx c (L.drop 3) fun x=>{ c with cr:=c.cr++[x] } else
 if sh L [wOff,pN,wIs,pD,wIn,pD,wDays]=true then ({ c with fs:=c.fs++[⟨(Pc.tok L 1).text,(Pc.tok L 3).num,(Pc.tok L 5).num⟩] },0) else
 if bg L [wLimit]=true then limQ c L else scoQ c L
theorem isW_kd{L:List Tk.T4}{i:Nat}{s:ByteArray}(h:isW L i s=true):kd L i 1=true∧(Pc.tok L i).text=s:=by
 unfold isW at h;rw[Bool.and_eq_true,decide_eq_true_eq] at h;exact h
theorem isW_0{L:List Tk.T4}{s:ByteArray}(h:kd L 0 1=true):isW L 0 s=decide ((Pc.tok L 0).text=s):=by
 unfold isW;rw[h,Bool.true_and]
theorem tgt_find(s:ByteArray):fieldsL.findIdx? (fun x=>decide (x=s))=if tgt s < 6 then some (tgt s) else if s=wNight then some 6 else none:=by
 unfold fieldsL tgt;simp only[List.findIdx?_cons]
 by_cases h0:s=wReport
 ·subst h0;rfl
 by_cases h1:s=wRelease
 ·subst h1;rfl
 by_cases h2:s=wConnect
 ·subst h2;rfl
 by_cases h3:s=wSit
 ·subst h3;rfl
 by_cases h4:s=wLayover
 ·subst h4;rfl
 by_cases h5:s=wGuarantee
 ·subst h5;rfl
 have n:∀ {x:ByteArray},¬s=x→decide (x=s)=false:=fun h=>decide_eq_false fun e=>h e.symm;simp only[n h0,n h1,n h2,n h3,n h4,n h5,if_neg h0,if_neg h1,if_neg h2,if_neg h3,if_neg h4,if_neg h5]
 by_cases h6:s=wNight
 ·subst h6;rfl
 ·simp only[n h6,if_neg h6];rfl
theorem tgt_words:tgt wConst=6∧tgt wDuty=6∧tgt wRest=6∧tgt wPairing=6∧tgt wLimit=6∧tgt wOff=6∧tgt wNight=6:=by decide
theorem tgt_word(s:ByteArray)(h:tgt s < 6):s=wReport∨s=wRelease∨s=wConnect∨s=wSit∨s=wLayover∨s=wGuarantee:=by
 unfold tgt at h
 by_cases h0:s=wReport
 ·exact .inl h0
 by_cases h1:s=wRelease
 ·exact .inr (.inl h1)
 by_cases h2:s=wConnect
 ·exact .inr (.inr (.inl h2))
 by_cases h3:s=wSit
 ·exact .inr (.inr (.inr (.inl h3)))
 by_cases h4:s=wLayover
 ·exact .inr (.inr (.inr (.inr (.inl h4))))
 by_cases h5:s=wGuarantee
 ·exact .inr (.inr (.inr (.inr (.inr h5))))
 rw[if_neg h0,if_neg h1,if_neg h2,if_neg h3,if_neg h4,if_neg h5] at h;omega
theorem word_size{s:ByteArray}(h:tgt s < 6∨scopeT s≠0):3≤s.size:=by
 rcases h with h|h
 ·rcases tgt_word s h with rfl|rfl|rfl|rfl|rfl|rfl<;>decide
 ·unfold scopeT at h
  by_cases h0:s=wDuty
  ·subst h0;decide
  by_cases h1:s=wRest
  ·subst h1;decide
  by_cases h2:s=wPairing
  ·subst h2;decide
  rw[if_neg h0,if_neg h1,if_neg h2] at h;exact absurd rfl h
theorem sgn_le(l:List UInt8):Tk.sgn l≤2:=by
 unfold Tk.sgn
 split
 ·exact Nat.le_refl _
 ·split<;>omega
theorem vt_word{t:Tk.T3}(h:VT t)(hs:3≤t.text.size):t.kind=1:=by
 have e0:(⟨#[]⟩:ByteArray).size=0:=rfl;rcases kQ h with h1|h1|h1|h1|h1
 ·exact h1.1
 ·rw[h1.2.1] at hs;omega
 ·rw[h1.2.1] at hs;omega
 ·rw[h1.2.1] at hs;omega
 ·rcases h with h|h|h|⟨g1,g2,g3,g4⟩
  ·exact h.1
  ·omega
  ·omega
  ·have:=sgn_le t.text.data.toList;omega
theorem scope_words:scopeT wConst=0∧scopeT wLimit=0∧scopeT wOff=0∧scopeT wDuty=1∧scopeT wNight=0:=by decide
theorem allI1(L:List Tk.T4)(a:ByteArray):allI L 0 [a]=pI L 0 a:=by simp[allI]
theorem allI2(L:List Tk.T4)(a b:ByteArray):allI L 0 [a,b]=(pI L 0 a && pI L 1 b):=by simp[allI]
theorem allI3(L:List Tk.T4)(a b c:ByteArray):allI L 0 [a,b,c]=(pI L 0 a && (pI L 1 b && pI L 2 c)):=by simp[allI]
theorem allI4(L:List Tk.T4)(a b c d:ByteArray):allI L 0 [a,b,c,d]=(pI L 0 a && (pI L 1 b && (pI L 2 c && pI L 3 d))):=by simp[allI]
theorem allI7(L:List Tk.T4)(a b c d e f g:ByteArray):allI L 0 [a,b,c,d,e,f,g]=(pI L 0 a && (pI L 1 b && (pI L 2 c && (pI L 3 d && (pI L 4 e && (pI L 5 f && pI L 6 g)))))):=by simp[allI]
theorem allI8(L:List Tk.T4)(a b c d e f g h:ByteArray):allI L 0 [a,b,c,d,e,f,g,h]=(pI L 0 a && (pI L 1 b && (pI L 2 c && (pI L 3 d && (pI L 4 e && (pI L 5 f && (pI L 6 g && pI L 7 h))))))):=by simp[allI]
theorem bg_const(L:List Tk.T4):bg L [wConst,pN,wIs]=(isW L 0 wConst && (nmd L 1 && isW L 2 wIs)):=by rw[bg_allI,allI3,pI_word wp_const,pI_n,pI_word wp_is]
theorem bg_credit(L:List Tk.T4):bg L [wDuty,wCredit,wIs]=(isW L 0 wDuty && (isW L 1 wCredit && isW L 2 wIs)):=by rw[bg_allI,allI3,pI_word wp_duty,pI_word wp_credit,pI_word wp_is]
theorem bg_limit(L:List Tk.T4):bg L [wLimit]=isW L 0 wLimit:=by rw[bg_allI,allI1,pI_word wp_limit]
theorem bg_cost(L:List Tk.T4):bg L [wCost,wIs]=(isW L 0 wCost && isW L 1 wIs):=by rw[bg_allI,allI2,pI_word wp_cost,pI_word wp_is]
theorem bg_rule(L:List Tk.T4):bg L [wRule,pN,wIs]=(isW L 0 wRule && (nmd L 1 && isW L 2 wIs)):=by rw[bg_allI,allI3,pI_word wp_rule,pI_n,pI_word wp_is]
theorem sh_night(L:List Tk.T4):sh L [wNight,pC,wTo,pC]=(decide (L.length=4) && (isW L 0 wNight && (kd L 1 4 && (isW L 2 wTo && kd L 3 4)))):=by
 rw[sh_allI,allI4,pI_word wp_night,pI_c,pI_word wp_to,pI_c];rfl
theorem sh_off(L:List Tk.T4):sh L [wOff,pN,wIs,pD,wIn,pD,wDays]=(decide (L.length=7) && (isW L 0 wOff && (nmd L 1 && (isW L 2 wIs && (kd L 3 2 && (isW L 4 wIn && (kd L 5 2 && isW L 6 wDays))))))):=by
 rw[sh_allI,allI7,pI_word wp_off,pI_n,pI_word wp_is,pI_d,pI_word wp_in,pI_d,pI_word wp_days];rfl
theorem sh_t1(t:Tk.T4)(L:List Tk.T4):sh ((t :: L).drop 1) [pT]=(decide ((t :: L).length=2) && kd (t :: L) 1 3):=by
 rw[sh_allI,allI1,pI_t,List.drop_one,List.tail_cons,kd_consS];simp
theorem meas_word{s:ByteArray}{a:ByteArray}(h:amt s=some a):wordP s:=by
 unfold amt at h
 by_cases h1:qW s=2
 ·refine⟨?_,?_,?_,?_⟩<;>rintro rfl<;>exact absurd h1 (by decide)
 ·rw [if_neg h1] at h
  by_cases h2:qW s=1
  ·refine⟨?_,?_,?_,?_⟩<;>rintro rfl<;>exact absurd h2 (by decide)
  ·rw[if_neg h2] at h;cases h
end Pg
def PtA(w:World)(P:List ByteArray)(g O:Nat):Prop:=∀i s,P[i]?=some s→w.cell? ⟨g,O+i,none⟩=some (.string s)
theorem PtA.next{w w':World}{P:List ByteArray}{g O:Nat}(h:PtA w P g O)(hb:Below w.heap.size w w'):PtA w' P g O:=fun i s hi=>by rw[hb.cell (block_lt_of_cell (h i s hi))];exact h i s hi
theorem Ks(a b:ByteArray):(a.toList==b.toList)=decide (a=b):=by
 rw[Bool.eq_iff_iff];simp[Lib.toList_data,ByteArray.ext_iff,Array.ext_iff]
theorem zA{a b:ByteArray}(h:a=b){l:List UInt8}(hl:b.data.toList=l):(a.toList==l)=true:=by
 rw[h,Lib.toList_data,hl];exact beq_self_eq_true l
theorem yd{a b:ByteArray}(h:¬a=b){l:List UInt8}(hl:b.data.toList=l):(a.toList==l)=false:=by
 rw[beq_eq_false_iff_ne,Lib.toList_data,← hl];exact fun e=>h (ByteArray.ext (Array.toList_inj.1 e))
theorem zo(L:List Tk.T4)(p:Option Addr)(cap:Nat)(P:List ByteArray)(g O cp:Nat)(w:World)(hL:TkAt w L (.slice p L.length cap))(hs:∀t∈ L,t.t.text.size≤9223372036854775807)(hP:PtA w P g O)(hn:P.length≤1000) :
 Calls Tryz.prog 91 #[.slice p L.length cap,.slice (some ⟨g,O,none⟩) P.length cp] w fun e w'=>e=.returned (.bool (Pg.sh L P))∧Below w.heap.size w w':=by
 by_cases hl:L.length=P.length
 case neg =>
  have b0:((L.length:Int) != (P.length:Int))=true:=by simp;omega
  have RQ:Hid (Pg.sh L P=false):=Pg.sh_no hl;clear hL hs hP hl;go_enter Tryz.func91,Tryz.ntmps91;go_wp2;go_ret;exact⟨qh RQ.out.symm,Below.refl _ _⟩
 have b0:((L.length:Int) != (P.length:Int))=false:=by simp;omega
 have HL:=hid hL;have HP:=hid hP;have HS:=hid hs;have LN:=hid hl;have hln:L.length≤1000:=by omega
 clear hL hs hP hl;obtain⟨R,hR⟩:∃R,Pg.sh L P=R:=⟨_,rfl⟩;rw[hR];have HRR:=hid hR;clear hR;go_enter Tryz.func91,Tryz.ntmps91;go_wp2_with fail
 go_loopw [5,6,7,15] (fun _ _ _ i wr=>∃j:Nat,i=.int .i64 j∧j≤L.length∧Hid (Below w.heap.size w wr∧Pg.sh (L.drop j) (P.drop j)=R)) (fun _ _ _ i _=>L.length - (intOf i).toNat)
 case atStart=>exact⟨0,rfl,Nat.zero_le _,Below.refl _ _,HRR.out⟩
 case round =>
  obtain⟨j,rfl,hj,HR⟩:=hrel
  by_cases qD:j < L.length
  case neg =>
   have hj':¬(j:Int) < (L.length:Int):=by omega
   have RQ:Hid (R=true):=by
    have:=HR.out.2;rw[Pg.sh_end (by omega) (by have:=LN.out;omega)] at this;exact this.symm
   have B:=hid HR.out.1;clear HR;go_wp2;go_ret;exact⟨qh RQ.out.symm,B.out⟩
  have hj':(j:Int) < (L.length:Int):=by omega
  have hjP:(j:Int) < (P.length:Int):=by have:=LN.out;omega
  have hj0:(0:Int)≤(j:Int):=by omega
  obtain⟨t,ht⟩:∃t,L[j]?=some t:=⟨_,List.getElem?_eq_getElem qD⟩;obtain⟨s,hsP⟩:∃s,P[j]?=some s:=⟨_,List.getElem?_eq_getElem (by have:=LN.out;omega)⟩;obtain⟨tg,tO,rfl,c0,c1,c2,c3⟩:=(HL.out.next HR.out.1).get ht;have p0:wr.cell? ⟨g,O+j,none⟩=some (.string s):=HP.out.next HR.out.1 j s hsP
  have SD:Hid (R=(Pg.pm s t.t && Pg.sh (L.drop (j+1)) (P.drop (j+1)))):=by unfold Hid;rw[← HR.out.2];exact Pg.sh_drop ht hsP
  have hts:=HS.out t (List.mem_of_getElem? ht);have B1:Hid (Below w.heap.size w (wr.alloc (.cells #[.int .i64 t.t.kind,.string t.t.text,.int .i64 t.t.num,.int .i64 t.at'] 68))):=HR.out.1.alloc HR.out.1.size _;have hgz:g < wr.heap.size:=by have:=block_lt_of_cell p0;simpa using this
  clear HR ht hsP
  by_cases h0:s=Pg.pN
  case pos =>
   have q0:(s.toList==[35,110])=true:=zA h0 rfl;have PQ:Pg.pm s t.t=(decide (t.t.kind=1) && yh t.t.text):=(by rw[h0];rfl);clear h0
   by_cases hk:t.t.kind=1
   ·have bk:(t.t.kind==1)=true:=by simp[hk]
    by_cases hd:yh t.t.text=true
    ·have PM:Pg.pm s t.t=true:=by rw[PQ,decide_eq_true hk,hd];rfl
     have HD:=hid hd;clear PQ hk hd;have R2:Hid (Pg.sh (L.drop (j+1)) (P.drop (j+1))=R):=(by unfold Hid;rw[SD.out,PM];exact(Bool.true_and _).symm);clear SD PM;go_wp2_with (go_at_call 108;refine(qX _ _ hts).mono ?_;rw[HD.out];rintro e w2 ⟨rfl,rfl⟩)
     go_roundw
     case rel=>exact⟨j+1,by go_num,by omega,B1.out,R2.out⟩
     case measure=>simp[intOf];omega
    ·have PM:Pg.pm s t.t=false:=by rw[PQ,decide_eq_true hk];simpa using hd
     have HD:Hid (yh t.t.text=false):=(by unfold Hid;simpa using hd);clear PQ hk hd;have R2:Hid (R=false):=(by unfold Hid;rw[SD.out,PM];exact Bool.false_and _);clear SD PM;go_wp2_with (go_at_call 108;refine(qX _ _ hts).mono ?_;rw[HD.out];rintro e w2 ⟨rfl,rfl⟩);go_ret;exact⟨qh R2.out.symm,B1.out⟩
   ·have bk:(t.t.kind==1)=false:=by simp[hk]
    have PM:Pg.pm s t.t=false:=(by rw[PQ,decide_eq_false hk];rfl);clear PQ hk;have R2:Hid (R=false):=(by unfold Hid;rw[SD.out,PM];exact Bool.false_and _);clear SD PM;go_wp2_with fail;go_ret;exact⟨qh R2.out.symm,B1.out⟩
  by_cases h1:s=Pg.pT
  case pos =>
   have q0:(s.toList==[35,110])=false:=yd h0 rfl;have q1:(s.toList==[35,116])=true:=zA h1 rfl;have PQ:Pg.pm s t.t=decide (t.t.kind=3):=(by rw[h1];rfl);clear h0 h1
   by_cases hk:t.t.kind=3
   ·have bk:(t.t.kind==3)=true:=by simp[hk]
    have PM:Pg.pm s t.t=true:=(by rw[PQ,decide_eq_true hk]);clear PQ hk;have R2:Hid (Pg.sh (L.drop (j+1)) (P.drop (j+1))=R):=(by unfold Hid;rw[SD.out,PM];exact(Bool.true_and _).symm);clear SD PM;go_wp2_with fail
    go_roundw
    case rel=>exact⟨j+1,by go_num,by omega,B1.out,R2.out⟩
    case measure=>simp[intOf];omega
   ·have bk:(t.t.kind==3)=false:=by simp[hk]
    have PM:Pg.pm s t.t=false:=(by rw[PQ,decide_eq_false hk]);clear PQ hk;have R2:Hid (R=false):=(by unfold Hid;rw[SD.out,PM];exact Bool.false_and _);clear SD PM;go_wp2_with fail;go_ret;exact⟨qh R2.out.symm,B1.out⟩
  by_cases h2:s=Pg.pC
  case pos =>
   have q0:(s.toList==[35,110])=false:=yd h0 rfl;have q1:(s.toList==[35,116])=false:=yd h1 rfl;have q2:(s.toList==[35,99])=true:=zA h2 rfl;have PQ:Pg.pm s t.t=decide (t.t.kind=4):=(by rw[h2];rfl);clear h0 h1 h2
   by_cases hk:t.t.kind=4
   ·have bk:(t.t.kind==4)=true:=by simp[hk]
    have PM:Pg.pm s t.t=true:=(by rw[PQ,decide_eq_true hk]);clear PQ hk;have R2:Hid (Pg.sh (L.drop (j+1)) (P.drop (j+1))=R):=(by unfold Hid;rw[SD.out,PM];exact(Bool.true_and _).symm);clear SD PM;go_wp2_with fail
    go_roundw
    case rel=>exact⟨j+1,by go_num,by omega,B1.out,R2.out⟩
    case measure=>simp[intOf];omega
   ·have bk:(t.t.kind==4)=false:=by simp[hk]
    have PM:Pg.pm s t.t=false:=(by rw[PQ,decide_eq_false hk]);clear PQ hk;have R2:Hid (R=false):=(by unfold Hid;rw[SD.out,PM];exact Bool.false_and _);clear SD PM;go_wp2_with fail;go_ret;exact⟨qh R2.out.symm,B1.out⟩
  by_cases h3:s=Pg.pD
  case pos =>
   have q0:(s.toList==[35,110])=false:=yd h0 rfl;have q1:(s.toList==[35,116])=false:=yd h1 rfl;have q2:(s.toList==[35,99])=false:=yd h2 rfl;have q3:(s.toList==[35,100])=true:=zA h3 rfl;have PQ:Pg.pm s t.t=decide (t.t.kind=2):=(by rw[h3];rfl);clear h0 h1 h2 h3
   by_cases hk:t.t.kind=2
   ·have bk:(t.t.kind==2)=true:=by simp[hk]
    have PM:Pg.pm s t.t=true:=(by rw[PQ,decide_eq_true hk]);clear PQ hk;have R2:Hid (Pg.sh (L.drop (j+1)) (P.drop (j+1))=R):=(by unfold Hid;rw[SD.out,PM];exact(Bool.true_and _).symm);clear SD PM;go_wp2_with fail
    go_roundw
    case rel=>exact⟨j+1,by go_num,by omega,B1.out,R2.out⟩
    case measure=>simp[intOf];omega
   ·have bk:(t.t.kind==2)=false:=by simp[hk]
    have PM:Pg.pm s t.t=false:=(by rw[PQ,decide_eq_false hk]);clear PQ hk;have R2:Hid (R=false):=(by unfold Hid;rw[SD.out,PM];exact Bool.false_and _);clear SD PM;go_wp2_with fail;go_ret;exact⟨qh R2.out.symm,B1.out⟩
  have q0:(s.toList==[35,110])=false:=yd h0 rfl;have q1:(s.toList==[35,116])=false:=yd h1 rfl;have q2:(s.toList==[35,99])=false:=yd h2 rfl;have q3:(s.toList==[35,100])=false:=yd h3 rfl;have PQ:Pg.pm s t.t=(decide (t.t.kind=1) && decide (t.t.text=s)):=Pg.pm_word ⟨h0,h1,h2,h3⟩ t.t;clear h0 h1 h2 h3
  by_cases hk:t.t.kind=1
  ·have bk:(t.t.kind==1)=true:=by simp[hk]
   by_cases hd:t.t.text=s
   ·have PM:Pg.pm s t.t=true:=by rw[PQ,decide_eq_true hk,decide_eq_true hd];rfl
    have bd:(t.t.text.toList==s.toList)=true:=(by rw[Ks];exact decide_eq_true hd);clear PQ hk hd;have R2:Hid (Pg.sh (L.drop (j+1)) (P.drop (j+1))=R):=(by unfold Hid;rw[SD.out,PM];exact(Bool.true_and _).symm);clear SD PM;have d0:(wr.alloc (.cells #[.int .i64 t.t.kind,.string t.t.text,.int .i64 t.t.num,.int .i64 t.at'] 68)).cell? ⟨wr.heap.size,0,none⟩=some (.int .i64 t.t.kind):=(by simp[go_sem]);have d1:(wr.alloc (.cells #[.int .i64 t.t.kind,.string t.t.text,.int .i64 t.t.num,.int .i64 t.at'] 68)).cell? ⟨wr.heap.size,1,none⟩=some (.string t.t.text):=(by simp[go_sem]);have p1:(wr.alloc (.cells #[.int .i64 t.t.kind,.string t.t.text,.int .i64 t.t.num,.int .i64 t.at'] 68)).cell? ⟨g,O+j,none⟩=some (.string s):=(by rw[((Below.refl wr.heap.size wr).alloc (Nat.le_refl _) _).cell (p:=⟨g,O+j,none⟩) hgz];exact p0);have D0:=hid d0;have D1:=hid d1;have P1:=hid p1;clear d0 d1 p1;go_upto_region 8 with (fail);generalize wr.alloc (.cells #[.int .i64 t.t.kind,.string t.t.text,.int .i64 t.t.num,.int .i64 t.at'] 68)=w1 at *;have d0:=D0.out;have d1:=D1.out;have p1:=P1.out
    go_quiet (fail)
    go_wp2
    go_roundw
    case rel=>exact⟨j+1,by go_num,by omega,below_drewN B1.out _,R2.out⟩
    case measure=>simp[intOf];omega
   ·have PM:Pg.pm s t.t=false:=by rw[PQ,decide_eq_true hk,decide_eq_false hd];rfl
    have bd:(t.t.text.toList==s.toList)=false:=(by rw[Ks];exact decide_eq_false hd);clear PQ hk hd;have R2:Hid (R=false):=(by unfold Hid;rw[SD.out,PM];exact Bool.false_and _);clear SD PM;have d0:(wr.alloc (.cells #[.int .i64 t.t.kind,.string t.t.text,.int .i64 t.t.num,.int .i64 t.at'] 68)).cell? ⟨wr.heap.size,0,none⟩=some (.int .i64 t.t.kind):=(by simp[go_sem]);have d1:(wr.alloc (.cells #[.int .i64 t.t.kind,.string t.t.text,.int .i64 t.t.num,.int .i64 t.at'] 68)).cell? ⟨wr.heap.size,1,none⟩=some (.string t.t.text):=(by simp[go_sem]);have p1:(wr.alloc (.cells #[.int .i64 t.t.kind,.string t.t.text,.int .i64 t.t.num,.int .i64 t.at'] 68)).cell? ⟨g,O+j,none⟩=some (.string s):=(by rw[((Below.refl wr.heap.size wr).alloc (Nat.le_refl _) _).cell (p:=⟨g,O+j,none⟩) hgz];exact p0);have D0:=hid d0;have D1:=hid d1;have P1:=hid p1;clear d0 d1 p1;go_upto_region 8 with (fail);generalize wr.alloc (.cells #[.int .i64 t.t.kind,.string t.t.text,.int .i64 t.t.num,.int .i64 t.at'] 68)=w1 at *;have d0:=D0.out;have d1:=D1.out;have p1:=P1.out
    go_quiet (fail)
    go_wp2;go_ret;exact⟨qh R2.out.symm,below_drewN B1.out _⟩
  ·have bk:(t.t.kind==1)=false:=by simp[hk]
   have PM:Pg.pm s t.t=false:=(by rw[PQ,decide_eq_false hk];rfl);clear PQ hk;have R2:Hid (R=false):=(by unfold Hid;rw[SD.out,PM];exact Bool.false_and _);clear SD PM;have d0:(wr.alloc (.cells #[.int .i64 t.t.kind,.string t.t.text,.int .i64 t.t.num,.int .i64 t.at'] 68)).cell? ⟨wr.heap.size,0,none⟩=some (.int .i64 t.t.kind):=(by simp[go_sem]);have d1:(wr.alloc (.cells #[.int .i64 t.t.kind,.string t.t.text,.int .i64 t.t.num,.int .i64 t.at'] 68)).cell? ⟨wr.heap.size,1,none⟩=some (.string t.t.text):=(by simp[go_sem]);have p1:(wr.alloc (.cells #[.int .i64 t.t.kind,.string t.t.text,.int .i64 t.t.num,.int .i64 t.at'] 68)).cell? ⟨g,O+j,none⟩=some (.string s):=(by rw[((Below.refl wr.heap.size wr).alloc (Nat.le_refl _) _).cell (p:=⟨g,O+j,none⟩) hgz];exact p0);have D0:=hid d0;have D1:=hid d1;have P1:=hid p1;clear d0 d1 p1;go_upto_region 8 with (fail);generalize wr.alloc (.cells #[.int .i64 t.t.kind,.string t.t.text,.int .i64 t.t.num,.int .i64 t.at'] 68)=w1 at *;have d0:=D0.out;have d1:=D1.out;have p1:=P1.out
   go_quiet (fail)
   go_wp2;go_ret;exact⟨qh R2.out.symm,below_drewN B1.out _⟩
theorem KN{w:World}{L:List Tk.T4}{p:Option Addr}{cap:Nat}(h:TkAt w L (.slice p L.length cap))(n:Nat)(hn:n≤L.length):TkAt w (L.take n) (.slice p (L.take n).length cap):=by
 obtain⟨p',cap',e,h2,h3,h4⟩:=h;injection e with e1 e2 e3
 subst e1 e3;have hl:(L.take n).length=n:=by rw[List.length_take];omega
 refine⟨p,cap,rfl,by omega,by omega,fun q=>?_⟩;obtain⟨g,O,e,hc⟩:=h4 (fun e=>q (by rw[e];simp));refine⟨g,O,e,fun j u hu=>hc j u ?_⟩;have:jF L=jF (L.take n)++jF (L.drop n):=by unfold jF;rw[← List.flatMap_append,List.take_append_drop]
 rw[this,List.getElem?_append_left (List.getElem?_eq_some_iff.1 hu).1];exact hu
theorem kO(L:List Tk.T4)(p:Option Addr)(cap:Nat)(P:List ByteArray)(g O cp:Nat)(w:World)(hL:TkAt w L (.slice p L.length cap))(hs:∀t∈ L,t.t.text.size≤9223372036854775807)(hP:PtA w P g O)(hn:P.length≤1000) :
 Calls Tryz.prog 89 #[.slice p L.length cap,.slice (some ⟨g,O,none⟩) P.length cp] w fun e w'=>e=.returned (.bool (Pg.bg L P))∧Below w.heap.size w w':=by
 have hcap:L.length≤cap:=by obtain⟨p',cap',e,h2,-⟩:=hL;injection e with e1 e2 e3;omega
 by_cases hl:P.length≤L.length
 ·have b0:(P.length:Int)≤(L.length:Int):=by omega
  have b1:(P.length:Int)≤(cap:Int):=(by omega);have b2:(0:Int)≤(P.length:Int):=(by omega);have ht:(L.take P.length).length=P.length:=(by rw[List.length_take];omega);have SH:=hid (zo (L.take P.length) p cap P g O cp w (KN hL _ hl) (fun t ht=>hs t (List.mem_of_mem_take ht)) hP hn);rw[ht] at SH;have RQ:Hid (Pg.bg L P=Pg.sh (L.take P.length) P):=(by unfold Hid Pg.bg;rw[decide_eq_true hl,Bool.true_and]);rw[RQ.out];generalize Pg.sh (L.take P.length) P=R at *;clear hL hs hP hl ht RQ;go_enter Tryz.func89,Tryz.ntmps89;go_wp2_with (go_at_call 91;refine SH.out.mono ?_;rintro e w1 ⟨rfl,hb⟩;have B:=hid hb;clear hb);go_ret;exact⟨rfl,B.out⟩
 ·have b0:¬(P.length:Int)≤(L.length:Int):=by omega
  have RQ:Hid (Pg.bg L P=false):=(by unfold Hid Pg.bg;rw[decide_eq_false hl,Bool.false_and]);rw[RQ.out];clear hL hs hP hl RQ;go_enter Tryz.func89,Tryz.ntmps89;go_wp2_with fail;go_ret;exact⟨rfl,Below.refl _ _⟩
def Ve(L:List Tk.T4)(w:World)(e:Ending)(w':World):Prop:=∃c:Ch,e=.returned (.tuple #[.agg #[.int .i64 c.a.op,.int .i64 c.a.num,.string c.a.name,.slice c.a.ptr (len c.k) c.a.cap],.bool (decide (kz L < 0))])∧(∀x j,Pz.pv L .ex 0=(some x,j)→Pz.nr c=x∧ExAt w' c.b c.o c.a c.k∧∀r,r < w.heap.size→Pz.FNe r c.k c.b)∧Below w.heap.size w w'
theorem xZ{L:List Tk.T4}{w W:World}{e:Ending}(h:Ve L w e W):Ve L w e W.drew:=by
 obtain⟨c,h1,h2,h3⟩:=h;exact⟨c,h1,fun x j hx=>⟨(h2 x j hx).1,⟨(h2 x j hx).2.1.1,(h2 x j hx).2.1.2.next ((Below.refl _ _).drew)⟩,(h2 x j hx).2.2⟩,h3.drew⟩
theorem zs{fn:Func}{p u:Tmp}{ty:TypeId}(h:fn.results=#[.cell p ty,.tmp u])(tmps:Array Value)(P:Program)(w:World) :
 (results fn tmps).run P w=((asAddr (tmps.getD p undef)).run P w).andThen fun a w₁=>((loadVar ty a).run P w₁).andThen fun x w₂=>.ok (.tuple #[x,tmps.getD u undef]) w₂:=by
 simp only[results,h];simp[Sem.run_bind,Result.andThen]
theorem Yw(L:List Tk.T4)(p:Option Addr)(cap:Nat)(w:World)(hV:∀t∈ L,VT t.t)(ht:TkB w L p w.heap.size) :
 Calls Tryz.prog 90 #[.slice p L.length cap] w (Ve L w):=by
 have TB:=hid ht;have HV:=hid hV;have hL4:=ht.1;clear ht hV;go_enter Tryz.func90,Tryz.ntmps90;go_wp2_with fail
 have S1:Hid (PSt ((w.alloc (.cells #[.int .i64 0,.int .i64 0,.string ⟨#[]⟩,.slice none 0 0] 24)).alloc (.cells #[.slice p L.length cap,.int .i64 0] 64)) (w.heap.size+1) L p cap 0):=by
  have h9:=TB.out.below (((Below.refl w.heap.size w).alloc (Nat.le_refl _) (.cells #[.int .i64 0,.int .i64 0,.string ⟨#[]⟩,.slice none 0 0] 24)).alloc (by simp) (.cells #[.slice p L.length cap,.int .i64 0] 64)) (Nat.le_refl _);refine⟨by simp[go_sem],by simp[go_sem],by simp[go_sem],by simp,⟨h9.1,fun q=>?_⟩,Nat.zero_le _⟩;obtain⟨g,O,e,hg,hc⟩:=h9.2 q;exact⟨g,O,e,by omega,hc⟩
 have B1:Hid (Below w.heap.size w ((w.alloc (.cells #[.int .i64 0,.int .i64 0,.string ⟨#[]⟩,.slice none 0 0] 24)).alloc (.cells #[.slice p L.length cap,.int .i64 0] 64))):=ba1.alloc (by simp) _;have R1:Hid (Pz.B4 ((w.alloc (.cells #[.int .i64 0,.int .i64 0,.string ⟨#[]⟩,.slice none 0 0] 24)).alloc (.cells #[.slice p L.length cap,.int .i64 0] 64)) w.heap.size Pz.z0):=(Pz.b4_alloc w Pz.z0 _ rfl _).next ba1
 have hs1:w.heap.size+1 < ((w.alloc (.cells #[.int .i64 0,.int .i64 0,.string ⟨#[]⟩,.slice none 0 0] 24)).alloc (.cells #[.slice p L.length cap,.int .i64 0] 64)).heap.size:=by simp
 generalize (w.alloc (.cells #[.int .i64 0,.int .i64 0,.string ⟨#[]⟩,.slice none 0 0] 24)).alloc (.cells #[.slice p L.length cap,.int .i64 0] 64)=w1 at *;refine(xE L HV.out 0 (Nat.zero_le _) (w.heap.size+1) p cap w1 S1.out).mono ?_;rintro e w2 ⟨c,rfl,hf⟩
 have BT:Hid (kz L=match Pz.pv L .ex 0 with
  | (some _,j)=>if j < L.length then (j:Int) else -1
  | (none,j)=>(j:Int)):=rfl
 obtain⟨r0,hr0⟩:∃r0,Pz.pv L .ex 0=r0:=⟨_,rfl⟩;rw[hr0] at hf BT ⊢;have PV:=hid hr0;clear hr0;obtain⟨o,j⟩:=r0;dsimp only at BT hf ⊢;have F2:=hid hf.1;have S2:=hid hf.2.1;have G2:=hid hf.2.2;have R2:=hid (R1.out.grown hf.2.2 (by simp));have B2:Hid (Below w.heap.size w w2):=B1.out.trans (Pz.below_of_gb G2.out (by omega) hs1);have hjl:j≤L.length:=S2.out.le;clear hf B1 S1 R1;go_upto_region 3 with (fail);have X3:Hid (Pz.B4 (w2.alloc (.cells #[.int .i64 c.a.op,.int .i64 c.a.num,.string c.a.name,.slice c.a.ptr (len c.k) c.a.cap] 24)) w2.heap.size c):=Pz.b4_alloc w2 c _ rfl _;have N3:Hid (Below w2.heap.size w2 (w2.alloc (.cells #[.int .i64 c.a.op,.int .i64 c.a.num,.string c.a.name,.slice c.a.ptr (len c.k) c.a.cap] 24))):=ba1;have hs2:w.heap.size+1 < w2.heap.size:=Nat.lt_of_lt_of_le hs1 G2.out.size;obtain⟨xb,hxb⟩:∃xb,w2.heap.size=xb:=⟨_,rfl⟩;rw[hxb] at X3;rw[hxb];have hxs:w.heap.size+1 < xb:=by omega
 have hxr:xb≠w.heap.size:=by omega
 have hrx:w.heap.size≠xb:=by omega
 have B3:=hid (B2.out.trans (N3.out.mono B2.out.size));have R3:=hid (R2.out.next N3.out)
 have FX:Hid (∀x,o=some x→Pz.nr c=x∧ExAt (w2.alloc (.cells #[.int .i64 c.a.op,.int .i64 c.a.num,.string c.a.name,.slice c.a.ptr (len c.k) c.a.cap] 24)) c.b c.o c.a c.k∧Pz.FNe w.heap.size c.k c.b):=fun x hx=>by
  obtain⟨h1,h2,h3,h4⟩:=F2.out x hx;exact⟨h1,h2.next N3.out,h4 w.heap.size (by omega) (fun d hd=>by cases hd)⟩
 have S3:=hid (S2.out.below N3.out hs2);have FR:Hid (∀x,o=some x→∀r,r < w.heap.size→Pz.FNe r c.k c.b):=fun x hx r hr=>(F2.out x hx).2.2.2 r (by omega) (fun d hd=>by cases hd);generalize w2.alloc (.cells #[.int .i64 c.a.op,.int .i64 c.a.num,.string c.a.name,.slice c.a.ptr (len c.k) c.a.cap] 24)=w3 at *;clear F2 S2 G2 R2 B2 N3 hxb
 have TX:Hid (∀b:Bool,b=decide (kz L < 0)→Ve L w (.returned (.tuple #[.agg #[.int .i64 c.a.op,.int .i64 c.a.num,.string c.a.name,.slice c.a.ptr (len c.k) c.a.cap],.bool b])) ((((w3.setCell ⟨w.heap.size,0,none⟩ (.int .i64 c.a.op)).setCell ⟨w.heap.size,1,none⟩ (.int .i64 c.a.num)).setCell ⟨w.heap.size,2,none⟩ (.string c.a.name)).setCell ⟨w.heap.size,3,none⟩ (.slice c.a.ptr (len c.k) c.a.cap))):=fun b hbq=>by
  subst hbq;refine⟨c,rfl,fun x j9 hx=>?_,B3.out.trans (Pz.below_of_gb (Pz.gb_four w3 w.heap.size _ _ _ _) (Nat.le_refl _) R3.out.lt)⟩;rw[PV.out] at hx;obtain⟨q1,q2,q3⟩:=FX.out x (by injection hx);exact⟨q1,⟨q2.1,Pz.fat_grown q2.2 q3 (Pz.gb_four _ _ _ _ _ _)⟩,FR.out x (by injection hx)⟩
 have c1:=S3.out.c1;obtain⟨x0,x1,x2,x3,-,-,-,-,xl⟩:=X3.out;obtain⟨r0,r1,r2,r3,f0,f1,f2,f3,rl⟩:=R3.out;dsimp only[Pz.z0,len] at r0 r1 r2 r3 f0 f1 f2 f3 rl;have sl:=S3.out.lt;cases o with
 | none =>
   have T:=hid (TX.out false (decide_eq_false (by rw[BT.out];dsimp only;omega)).symm);clear TX BT FX FR S3 X3 R3;dsimp only[Option.isSome]
   go_region
   all_goals
    go_wp2;refine bodyPost_ret (v:=.tuple #[.agg #[.int .i64 c.a.op,.int .i64 c.a.num,.string c.a.name,.slice c.a.ptr (len c.k) c.a.cap],.bool false]) ?_ rfl ?_
    ·rw [zs rfl];go_simp
    ·first|exact T.out|exact xZ T.out
 | some x =>
   by_cases hj:j < L.length
   ·have bj:((j:Int)==(L.length:Int))=false:=by simp;omega
    have T:=hid (TX.out false (decide_eq_false (by rw[BT.out];dsimp only;rw[if_pos hj];omega)).symm);clear TX BT FX FR S3 X3 R3 hj;dsimp only[Option.isSome]
    go_region
    all_goals
     go_wp2;refine bodyPost_ret (v:=.tuple #[.agg #[.int .i64 c.a.op,.int .i64 c.a.num,.string c.a.name,.slice c.a.ptr (len c.k) c.a.cap],.bool false]) ?_ rfl ?_
     ·rw [zs rfl];go_simp
     ·first|exact T.out|exact xZ T.out
   ·have bj:((j:Int)==(L.length:Int))=true:=by simp;omega
    have T:=hid (TX.out true (decide_eq_true (by rw[BT.out];dsimp only;rw[if_neg hj];omega)).symm);clear TX BT FX FR S3 X3 R3 hj;dsimp only[Option.isSome]
    go_region
    all_goals
     go_wp2;refine bodyPost_ret (v:=.tuple #[.agg #[.int .i64 c.a.op,.int .i64 c.a.num,.string c.a.name,.slice c.a.ptr (len c.k) c.a.cap],.bool true]) ?_ rfl ?_
     ·rw [zs rfl];go_simp
     ·first|exact T.out|exact xZ T.out
def uH(rb:Nat)(s:ByteArray):Option Addr:=if Pg.tgt s=6 then none else some ⟨rb,if Pg.tgt s=5 then 13 else Pg.tgt s,none⟩
theorem yL(rb:Nat)(k:Int)(s:ByteArray)(n a:Int)(w:World) :
 Calls Tryz.prog 132 #[.pointer (some ⟨rb,0,none⟩),.agg #[.int .i64 k,.string s,.int .i64 n,.int .i64 a]] w fun e w'=>e=.returned (.pointer (uH rb s))∧Below w.heap.size w w':=by
 by_cases h0:s=Pc.wReport
 case pos =>
  have q0:(s.toList==[114,101,112,111,114,116])=true:=zA h0 rfl;have T:Hid (uH rb s=some ⟨rb,0,none⟩):=by unfold Hid;rw[h0];rfl
  clear h0;go_enter Tryz.func132,Tryz.ntmps132;go_wp2;go_ret;exact⟨by rw[T.out];rfl,ba1⟩
 by_cases h1:s=Pc.wRelease
 case pos =>
  have q0:(s.toList==[114,101,112,111,114,116])=false:=yd h0 rfl;have q1:(s.toList==[114,101,108,101,97,115,101])=true:=zA h1 rfl;have T:Hid (uH rb s=some ⟨rb,1,none⟩):=by unfold Hid;rw[h1];rfl
  clear h0 h1;go_enter Tryz.func132,Tryz.ntmps132;go_wp2;go_ret;exact⟨by rw[T.out];rfl,ba1⟩
 by_cases h2:s=Pc.wConnect
 case pos =>
  have q0:(s.toList==[114,101,112,111,114,116])=false:=yd h0 rfl;have q1:(s.toList==[114,101,108,101,97,115,101])=false:=yd h1 rfl;have q2:(s.toList==[99,111,110,110,101,99,116])=true:=zA h2 rfl;have T:Hid (uH rb s=some ⟨rb,2,none⟩):=by unfold Hid;rw[h2];rfl
  clear h0 h1 h2;go_enter Tryz.func132,Tryz.ntmps132;go_wp2;go_ret;exact⟨by rw[T.out];rfl,ba1⟩
 by_cases h3:s=Pc.wSit
 case pos =>
  have q0:(s.toList==[114,101,112,111,114,116])=false:=yd h0 rfl;have q1:(s.toList==[114,101,108,101,97,115,101])=false:=yd h1 rfl;have q2:(s.toList==[99,111,110,110,101,99,116])=false:=yd h2 rfl;have q3:(s.toList==[115,105,116])=true:=zA h3 rfl;have T:Hid (uH rb s=some ⟨rb,3,none⟩):=by unfold Hid;rw[h3];rfl
  clear h0 h1 h2 h3;go_enter Tryz.func132,Tryz.ntmps132;go_wp2;go_ret;exact⟨by rw[T.out];rfl,ba1⟩
 by_cases h4:s=Pc.wLayover
 case pos =>
  have q0:(s.toList==[114,101,112,111,114,116])=false:=yd h0 rfl;have q1:(s.toList==[114,101,108,101,97,115,101])=false:=yd h1 rfl;have q2:(s.toList==[99,111,110,110,101,99,116])=false:=yd h2 rfl;have q3:(s.toList==[115,105,116])=false:=yd h3 rfl;have q4:(s.toList==[108,97,121,111,118,101,114])=true:=zA h4 rfl;have T:Hid (uH rb s=some ⟨rb,4,none⟩):=by unfold Hid;rw[h4];rfl
  clear h0 h1 h2 h3 h4;go_enter Tryz.func132,Tryz.ntmps132;go_wp2;go_ret;exact⟨by rw[T.out];rfl,ba1⟩
 by_cases h5:s=Pc.wGuarantee
 case pos =>
  have q0:(s.toList==[114,101,112,111,114,116])=false:=yd h0 rfl;have q1:(s.toList==[114,101,108,101,97,115,101])=false:=yd h1 rfl;have q2:(s.toList==[99,111,110,110,101,99,116])=false:=yd h2 rfl;have q3:(s.toList==[115,105,116])=false:=yd h3 rfl;have q4:(s.toList==[108,97,121,111,118,101,114])=false:=yd h4 rfl;have q5:(s.toList==[103,117,97,114,97,110,116,101,101])=true:=zA h5 rfl;have T:Hid (uH rb s=some ⟨rb,13,none⟩):=by unfold Hid;rw[h5];rfl
  clear h0 h1 h2 h3 h4 h5;go_enter Tryz.func132,Tryz.ntmps132;go_wp2;go_ret;exact⟨by rw[T.out];rfl,ba1⟩
 have q0:(s.toList==[114,101,112,111,114,116])=false:=yd h0 rfl;have q1:(s.toList==[114,101,108,101,97,115,101])=false:=yd h1 rfl;have q2:(s.toList==[99,111,110,110,101,99,116])=false:=yd h2 rfl;have q3:(s.toList==[115,105,116])=false:=yd h3 rfl;have q4:(s.toList==[108,97,121,111,118,101,114])=false:=yd h4 rfl;have q5:(s.toList==[103,117,97,114,97,110,116,101,101])=false:=yd h5 rfl;have T:Hid (uH rb s=none):=by unfold Hid uH Pg.tgt;rw[if_neg h0,if_neg h1,if_neg h2,if_neg h3,if_neg h4,if_neg h5];rfl
 clear h0 h1 h2 h3 h4 h5;go_enter Tryz.func132,Tryz.ntmps132;go_wp2;go_ret;exact⟨by rw[T.out];rfl,ba1⟩
structure PgB (w:World) (g mb:Nat) (c:Pc.PC) (vs:Fin 6→Value):Prop where
 c0:w.cell? ⟨g,0,none⟩=some (.int .i64 c.rep)
 c1:w.cell? ⟨g,1,none⟩=some (.int .i64 c.rel)
 c2:w.cell? ⟨g,2,none⟩=some (.int .i64 c.con)
 c3:w.cell? ⟨g,3,none⟩=some (.int .i64 c.sit)
 c4:w.cell? ⟨g,4,none⟩=some (.int .i64 c.lay)
 c5:w.cell? ⟨g,5,none⟩=some (.int .i64 c.nf)
 c6:w.cell? ⟨g,6,none⟩=some (.int .i64 c.nt)
 c7:w.cell? ⟨g,7,none⟩=some (vs 0)
 c8:w.cell? ⟨g,8,none⟩=some (vs 1)
 c9:w.cell? ⟨g,9,none⟩=some (vs 2)
 c10:w.cell? ⟨g,10,none⟩=some (vs 3)
 c11:w.cell? ⟨g,11,none⟩=some (vs 4)
 c12:w.cell? ⟨g,12,none⟩=some (vs 5)
 c13:w.cell? ⟨g,13,none⟩=some (.int .i64 c.gua)
 c14:w.cell? ⟨g,14,none⟩=some (.map (some mb))
 f0:w.frozen? ⟨g,0,none⟩=false
 f1:w.frozen? ⟨g,1,none⟩=false
 f2:w.frozen? ⟨g,2,none⟩=false
 f3:w.frozen? ⟨g,3,none⟩=false
 f4:w.frozen? ⟨g,4,none⟩=false
 f5:w.frozen? ⟨g,5,none⟩=false
 f6:w.frozen? ⟨g,6,none⟩=false
 f7:w.frozen? ⟨g,7,none⟩=false
 f8:w.frozen? ⟨g,8,none⟩=false
 f9:w.frozen? ⟨g,9,none⟩=false
 f10:w.frozen? ⟨g,10,none⟩=false
 f11:w.frozen? ⟨g,11,none⟩=false
 f12:w.frozen? ⟨g,12,none⟩=false
 f13:w.frozen? ⟨g,13,none⟩=false
 n:∀i,15≤i→w.cell? ⟨g,i,none⟩=none
 lt:g < w.heap.size
theorem PgB.of_block{w w':World}{g mb:Nat}{c:Pc.PC}{vs:Fin 6→Value}(h:PgB w g mb c vs)(e:w'.heap[g]?=w.heap[g]?)(hl:w.heap.size≤w'.heap.size):PgB w' g mb c vs:=by
 have q:∀i,w'.cell? ⟨g,i,none⟩=w.cell? ⟨g,i,none⟩:=fun i=>World.cell?_of_block e;have qf:∀i,w'.frozen? ⟨g,i,none⟩=w.frozen? ⟨g,i,none⟩:=fun i=>World.frozen?_of_block e;obtain⟨c0,c1,c2,c3,c4,c5,c6,c7,c8,c9,c10,c11,c12,c13,c14,f0,f1,f2,f3,f4,f5,f6,f7,f8,f9,f10,f11,f12,f13,n,lt⟩:=h;exact⟨by rw[q];exact c0,by rw[q];exact c1,by rw[q];exact c2,by rw[q];exact c3,by rw[q];exact c4,by rw[q];exact c5,by rw[q];exact c6,by rw[q];exact c7,by rw[q];exact c8,by rw[q];exact c9,by rw[q];exact c10,by rw[q];exact c11,by rw[q];exact c12,by rw[q];exact c13,by rw[q];exact c14,by rw[qf];exact f0,by rw[qf];exact f1,by rw[qf];exact f2,by rw[qf];exact f3,by rw[qf];exact f4,by rw[qf];exact f5,by rw[qf];exact f6,by rw[qf];exact f7,by rw[qf];exact f8,by rw[qf];exact f9,by rw[qf];exact f10,by rw[qf];exact f11,by rw[qf];exact f12,by rw[qf];exact f13,fun i hi=>by rw[q];exact n i hi,by omega⟩
theorem PgB.next{w w':World}{g mb:Nat}{c:Pc.PC}{vs:Fin 6→Value}(h:PgB w g mb c vs)(hb:Below w.heap.size w w'):PgB w' g mb c vs:=h.of_block (hb.block g h.lt) hb.size
theorem PgB.grown{w w':World}{g mb:Nat}{c:Pc.PC}{vs:Fin 6→Value}{row:Option Nat}(h:PgB w g mb c vs)(hg:w.grownBy w' row)(hn:some g≠row):PgB w' g mb c vs:=h.of_block (hg.block g h.lt hn) hg.size
theorem PgB.set_rep{w:World}{g mb:Nat}{c:Pc.PC}{vs:Fin 6→Value}(h:PgB w g mb c vs)(x:Int):PgB (w.setCell ⟨g,0,none⟩ (.int .i64 x)) g mb { c with rep:=x } vs:=by
 obtain⟨c0,c1,c2,c3,c4,c5,c6,c7,c8,c9,c10,c11,c12,c13,c14,f0,f1,f2,f3,f4,f5,f6,f7,f8,f9,f10,f11,f12,f13,n,lt⟩:=h;refine⟨?_,?_,?_,?_,?_,?_,?_,?_,?_,?_,?_,?_,?_,?_,?_,?_,?_,?_,?_,?_,?_,?_,?_,?_,?_,?_,?_,?_,?_,fun j hj=>by have h1:=n j hj;have h2:j≠0:=(by omega);simp[go_sem,h1,h2],by simp[World.setCell];exact lt⟩<;>simp[go_sem,c0,c1,c2,c3,c4,c5,c6,c7,c8,c9,c10,c11,c12,c13,c14,f0,f1,f2,f3,f4,f5,f6,f7,f8,f9,f10,f11,f12,f13]
theorem PgB.set_rel{w:World}{g mb:Nat}{c:Pc.PC}{vs:Fin 6→Value}(h:PgB w g mb c vs)(x:Int):PgB (w.setCell ⟨g,1,none⟩ (.int .i64 x)) g mb { c with rel:=x } vs:=by
 obtain⟨c0,c1,c2,c3,c4,c5,c6,c7,c8,c9,c10,c11,c12,c13,c14,f0,f1,f2,f3,f4,f5,f6,f7,f8,f9,f10,f11,f12,f13,n,lt⟩:=h;refine⟨?_,?_,?_,?_,?_,?_,?_,?_,?_,?_,?_,?_,?_,?_,?_,?_,?_,?_,?_,?_,?_,?_,?_,?_,?_,?_,?_,?_,?_,fun j hj=>by have h1:=n j hj;have h2:j≠1:=(by omega);simp[go_sem,h1,h2],by simp[World.setCell];exact lt⟩<;>simp[go_sem,c0,c1,c2,c3,c4,c5,c6,c7,c8,c9,c10,c11,c12,c13,c14,f0,f1,f2,f3,f4,f5,f6,f7,f8,f9,f10,f11,f12,f13]
theorem PgB.set_con{w:World}{g mb:Nat}{c:Pc.PC}{vs:Fin 6→Value}(h:PgB w g mb c vs)(x:Int):PgB (w.setCell ⟨g,2,none⟩ (.int .i64 x)) g mb { c with con:=x } vs:=by
 obtain⟨c0,c1,c2,c3,c4,c5,c6,c7,c8,c9,c10,c11,c12,c13,c14,f0,f1,f2,f3,f4,f5,f6,f7,f8,f9,f10,f11,f12,f13,n,lt⟩:=h;refine⟨?_,?_,?_,?_,?_,?_,?_,?_,?_,?_,?_,?_,?_,?_,?_,?_,?_,?_,?_,?_,?_,?_,?_,?_,?_,?_,?_,?_,?_,fun j hj=>by have h1:=n j hj;have h2:j≠2:=(by omega);simp[go_sem,h1,h2],by simp[World.setCell];exact lt⟩<;>simp[go_sem,c0,c1,c2,c3,c4,c5,c6,c7,c8,c9,c10,c11,c12,c13,c14,f0,f1,f2,f3,f4,f5,f6,f7,f8,f9,f10,f11,f12,f13]
theorem PgB.set_sit{w:World}{g mb:Nat}{c:Pc.PC}{vs:Fin 6→Value}(h:PgB w g mb c vs)(x:Int):PgB (w.setCell ⟨g,3,none⟩ (.int .i64 x)) g mb { c with sit:=x } vs:=by
 obtain⟨c0,c1,c2,c3,c4,c5,c6,c7,c8,c9,c10,c11,c12,c13,c14,f0,f1,f2,f3,f4,f5,f6,f7,f8,f9,f10,f11,f12,f13,n,lt⟩:=h;refine⟨?_,?_,?_,?_,?_,?_,?_,?_,?_,?_,?_,?_,?_,?_,?_,?_,?_,?_,?_,?_,?_,?_,?_,?_,?_,?_,?_,?_,?_,fun j hj=>by have h1:=n j hj;have h2:j≠3:=(by omega);simp[go_sem,h1,h2],by simp[World.setCell];exact lt⟩<;>simp[go_sem,c0,c1,c2,c3,c4,c5,c6,c7,c8,c9,c10,c11,c12,c13,c14,f0,f1,f2,f3,f4,f5,f6,f7,f8,f9,f10,f11,f12,f13]
theorem PgB.set_lay{w:World}{g mb:Nat}{c:Pc.PC}{vs:Fin 6→Value}(h:PgB w g mb c vs)(x:Int):PgB (w.setCell ⟨g,4,none⟩ (.int .i64 x)) g mb { c with lay:=x } vs:=by
 obtain⟨c0,c1,c2,c3,c4,c5,c6,c7,c8,c9,c10,c11,c12,c13,c14,f0,f1,f2,f3,f4,f5,f6,f7,f8,f9,f10,f11,f12,f13,n,lt⟩:=h;refine⟨?_,?_,?_,?_,?_,?_,?_,?_,?_,?_,?_,?_,?_,?_,?_,?_,?_,?_,?_,?_,?_,?_,?_,?_,?_,?_,?_,?_,?_,fun j hj=>by have h1:=n j hj;have h2:j≠4:=(by omega);simp[go_sem,h1,h2],by simp[World.setCell];exact lt⟩<;>simp[go_sem,c0,c1,c2,c3,c4,c5,c6,c7,c8,c9,c10,c11,c12,c13,c14,f0,f1,f2,f3,f4,f5,f6,f7,f8,f9,f10,f11,f12,f13]
theorem PgB.set_nf{w:World}{g mb:Nat}{c:Pc.PC}{vs:Fin 6→Value}(h:PgB w g mb c vs)(x:Int):PgB (w.setCell ⟨g,5,none⟩ (.int .i64 x)) g mb { c with nf:=x } vs:=by
 obtain⟨c0,c1,c2,c3,c4,c5,c6,c7,c8,c9,c10,c11,c12,c13,c14,f0,f1,f2,f3,f4,f5,f6,f7,f8,f9,f10,f11,f12,f13,n,lt⟩:=h;refine⟨?_,?_,?_,?_,?_,?_,?_,?_,?_,?_,?_,?_,?_,?_,?_,?_,?_,?_,?_,?_,?_,?_,?_,?_,?_,?_,?_,?_,?_,fun j hj=>by have h1:=n j hj;have h2:j≠5:=(by omega);simp[go_sem,h1,h2],by simp[World.setCell];exact lt⟩<;>simp[go_sem,c0,c1,c2,c3,c4,c5,c6,c7,c8,c9,c10,c11,c12,c13,c14,f0,f1,f2,f3,f4,f5,f6,f7,f8,f9,f10,f11,f12,f13]
theorem PgB.set_nt{w:World}{g mb:Nat}{c:Pc.PC}{vs:Fin 6→Value}(h:PgB w g mb c vs)(x:Int):PgB (w.setCell ⟨g,6,none⟩ (.int .i64 x)) g mb { c with nt:=x } vs:=by
 obtain⟨c0,c1,c2,c3,c4,c5,c6,c7,c8,c9,c10,c11,c12,c13,c14,f0,f1,f2,f3,f4,f5,f6,f7,f8,f9,f10,f11,f12,f13,n,lt⟩:=h;refine⟨?_,?_,?_,?_,?_,?_,?_,?_,?_,?_,?_,?_,?_,?_,?_,?_,?_,?_,?_,?_,?_,?_,?_,?_,?_,?_,?_,?_,?_,fun j hj=>by have h1:=n j hj;have h2:j≠6:=(by omega);simp[go_sem,h1,h2],by simp[World.setCell];exact lt⟩<;>simp[go_sem,c0,c1,c2,c3,c4,c5,c6,c7,c8,c9,c10,c11,c12,c13,c14,f0,f1,f2,f3,f4,f5,f6,f7,f8,f9,f10,f11,f12,f13]
theorem PgB.set_gua{w:World}{g mb:Nat}{c:Pc.PC}{vs:Fin 6→Value}(h:PgB w g mb c vs)(x:Int):PgB (w.setCell ⟨g,13,none⟩ (.int .i64 x)) g mb { c with gua:=x } vs:=by
 obtain⟨c0,c1,c2,c3,c4,c5,c6,c7,c8,c9,c10,c11,c12,c13,c14,f0,f1,f2,f3,f4,f5,f6,f7,f8,f9,f10,f11,f12,f13,n,lt⟩:=h;refine⟨?_,?_,?_,?_,?_,?_,?_,?_,?_,?_,?_,?_,?_,?_,?_,?_,?_,?_,?_,?_,?_,?_,?_,?_,?_,?_,?_,?_,?_,fun j hj=>by have h1:=n j hj;have h2:j≠13:=(by omega);simp[go_sem,h1,h2],by simp[World.setCell];exact lt⟩<;>simp[go_sem,c0,c1,c2,c3,c4,c5,c6,c7,c8,c9,c10,c11,c12,c13,c14,f0,f1,f2,f3,f4,f5,f6,f7,f8,f9,f10,f11,f12,f13]
theorem PgB.row0{w:World}{g mb:Nat}{c:Pc.PC}{vs:Fin 6→Value}(h:PgB w g mb c vs)(v:Value):PgB (w.setCell ⟨g,7,none⟩ v) g mb c (qU vs 0 v):=by
 obtain⟨c0,c1,c2,c3,c4,c5,c6,c7,c8,c9,c10,c11,c12,c13,c14,f0,f1,f2,f3,f4,f5,f6,f7,f8,f9,f10,f11,f12,f13,n,lt⟩:=h;refine⟨?_,?_,?_,?_,?_,?_,?_,?_,?_,?_,?_,?_,?_,?_,?_,?_,?_,?_,?_,?_,?_,?_,?_,?_,?_,?_,?_,?_,?_,fun j hj=>by have h1:=n j hj;have h2:j≠7:=(by omega);simp[go_sem,h1,h2],by simp[World.setCell];exact lt⟩<;>simp[go_sem,qU,c0,c1,c2,c3,c4,c5,c6,c7,c8,c9,c10,c11,c12,c13,c14,f0,f1,f2,f3,f4,f5,f6,f7,f8,f9,f10,f11,f12,f13]
theorem PgB.row1{w:World}{g mb:Nat}{c:Pc.PC}{vs:Fin 6→Value}(h:PgB w g mb c vs)(v:Value):PgB (w.setCell ⟨g,8,none⟩ v) g mb c (qU vs 1 v):=by
 obtain⟨c0,c1,c2,c3,c4,c5,c6,c7,c8,c9,c10,c11,c12,c13,c14,f0,f1,f2,f3,f4,f5,f6,f7,f8,f9,f10,f11,f12,f13,n,lt⟩:=h;refine⟨?_,?_,?_,?_,?_,?_,?_,?_,?_,?_,?_,?_,?_,?_,?_,?_,?_,?_,?_,?_,?_,?_,?_,?_,?_,?_,?_,?_,?_,fun j hj=>by have h1:=n j hj;have h2:j≠8:=(by omega);simp[go_sem,h1,h2],by simp[World.setCell];exact lt⟩<;>simp[go_sem,qU,c0,c1,c2,c3,c4,c5,c6,c7,c8,c9,c10,c11,c12,c13,c14,f0,f1,f2,f3,f4,f5,f6,f7,f8,f9,f10,f11,f12,f13]
theorem PgB.row2{w:World}{g mb:Nat}{c:Pc.PC}{vs:Fin 6→Value}(h:PgB w g mb c vs)(v:Value):PgB (w.setCell ⟨g,9,none⟩ v) g mb c (qU vs 2 v):=by
 obtain⟨c0,c1,c2,c3,c4,c5,c6,c7,c8,c9,c10,c11,c12,c13,c14,f0,f1,f2,f3,f4,f5,f6,f7,f8,f9,f10,f11,f12,f13,n,lt⟩:=h;refine⟨?_,?_,?_,?_,?_,?_,?_,?_,?_,?_,?_,?_,?_,?_,?_,?_,?_,?_,?_,?_,?_,?_,?_,?_,?_,?_,?_,?_,?_,fun j hj=>by have h1:=n j hj;have h2:j≠9:=(by omega);simp[go_sem,h1,h2],by simp[World.setCell];exact lt⟩<;>simp[go_sem,qU,c0,c1,c2,c3,c4,c5,c6,c7,c8,c9,c10,c11,c12,c13,c14,f0,f1,f2,f3,f4,f5,f6,f7,f8,f9,f10,f11,f12,f13]
theorem PgB.row3{w:World}{g mb:Nat}{c:Pc.PC}{vs:Fin 6→Value}(h:PgB w g mb c vs)(v:Value):PgB (w.setCell ⟨g,10,none⟩ v) g mb c (qU vs 3 v):=by
 obtain⟨c0,c1,c2,c3,c4,c5,c6,c7,c8,c9,c10,c11,c12,c13,c14,f0,f1,f2,f3,f4,f5,f6,f7,f8,f9,f10,f11,f12,f13,n,lt⟩:=h;refine⟨?_,?_,?_,?_,?_,?_,?_,?_,?_,?_,?_,?_,?_,?_,?_,?_,?_,?_,?_,?_,?_,?_,?_,?_,?_,?_,?_,?_,?_,fun j hj=>by have h1:=n j hj;have h2:j≠10:=(by omega);simp[go_sem,h1,h2],by simp[World.setCell];exact lt⟩<;>simp[go_sem,qU,c0,c1,c2,c3,c4,c5,c6,c7,c8,c9,c10,c11,c12,c13,c14,f0,f1,f2,f3,f4,f5,f6,f7,f8,f9,f10,f11,f12,f13]
theorem PgB.row4{w:World}{g mb:Nat}{c:Pc.PC}{vs:Fin 6→Value}(h:PgB w g mb c vs)(v:Value):PgB (w.setCell ⟨g,11,none⟩ v) g mb c (qU vs 4 v):=by
 obtain⟨c0,c1,c2,c3,c4,c5,c6,c7,c8,c9,c10,c11,c12,c13,c14,f0,f1,f2,f3,f4,f5,f6,f7,f8,f9,f10,f11,f12,f13,n,lt⟩:=h;refine⟨?_,?_,?_,?_,?_,?_,?_,?_,?_,?_,?_,?_,?_,?_,?_,?_,?_,?_,?_,?_,?_,?_,?_,?_,?_,?_,?_,?_,?_,fun j hj=>by have h1:=n j hj;have h2:j≠11:=(by omega);simp[go_sem,h1,h2],by simp[World.setCell];exact lt⟩<;>simp[go_sem,qU,c0,c1,c2,c3,c4,c5,c6,c7,c8,c9,c10,c11,c12,c13,c14,f0,f1,f2,f3,f4,f5,f6,f7,f8,f9,f10,f11,f12,f13]
theorem PgB.row5{w:World}{g mb:Nat}{c:Pc.PC}{vs:Fin 6→Value}(h:PgB w g mb c vs)(v:Value):PgB (w.setCell ⟨g,12,none⟩ v) g mb c (qU vs 5 v):=by
 obtain⟨c0,c1,c2,c3,c4,c5,c6,c7,c8,c9,c10,c11,c12,c13,c14,f0,f1,f2,f3,f4,f5,f6,f7,f8,f9,f10,f11,f12,f13,n,lt⟩:=h;refine⟨?_,?_,?_,?_,?_,?_,?_,?_,?_,?_,?_,?_,?_,?_,?_,?_,?_,?_,?_,?_,?_,?_,?_,?_,?_,?_,?_,?_,?_,fun j hj=>by have h1:=n j hj;have h2:j≠12:=(by omega);simp[go_sem,h1,h2],by simp[World.setCell];exact lt⟩<;>simp[go_sem,qU,c0,c1,c2,c3,c4,c5,c6,c7,c8,c9,c10,c11,c12,c13,c14,f0,f1,f2,f3,f4,f5,f6,f7,f8,f9,f10,f11,f12,f13]
def SgS(w:World)(mb n:Nat)(c:Pc.PC):Prop:=∃Ls,SS w mb Ls∧Ls.length≤n∧∀i s,Pc.fieldsL[i]?=some s→yr Ls s=c.seen i
theorem SgS.lt{w:World}{mb n:Nat}{c:Pc.PC}(h:SgS w mb n c):mb < w.heap.size:=by
 obtain⟨Ls,h1,-⟩:=h;exact SetM.lt h1
theorem SgS.grown{w w2:World}{mb n:Nat}{c:Pc.PC}{row:Option Nat}(h:SgS w mb n c)(hg:w.grownBy w2 row)(hn:some mb≠row):SgS w2 mb n c:=by
 obtain⟨Ls,h1,h2⟩:=h;exact⟨Ls,SetM.kept h1 hg hn,h2⟩
theorem SgS.next{w w2:World}{mb n:Nat}{c:Pc.PC}(h:SgS w mb n c)(hb:Below w.heap.size w w2):SgS w2 mb n c:=by
 obtain⟨Ls,h1,h2⟩:=h;exact⟨Ls,SetM.next h1 hb,h2⟩
theorem SgS.same{w:World}{mb n:Nat}{c d:Pc.PC}(h:SgS w mb n c)(e:d.seen=c.seen):SgS w mb n d:=by
 obtain⟨Ls,h1,h2,h3⟩:=h;exact⟨Ls,h1,h2,by rw[e];exact h3⟩
theorem SgS.more{w:World}{mb n m:Nat}{c:Pc.PC}(h:SgS w mb n c)(e:n≤m):SgS w mb m c:=by
 obtain⟨Ls,h1,h2,h3⟩:=h;exact⟨Ls,h1,by omega,h3⟩
theorem SgS.set{w:World}{mb n cb k:Nat}{u:Value}{c:Pc.PC}(h:SgS w mb n c)(hne:cb≠mb):SgS (w.setCell ⟨cb,k,none⟩ u) mb n c :=
 h.grown (row:=some cb) (vh w cb k u) (fun e=>hne (Option.some.inj e).symm)
structure PgV (w:World) (bs cb mb n:Nat) (c:Pc.PC) (vs:Fin 6→Value) (D:Six):Prop where
 box:PgB w cb mb c vs
 sn:SgS w mb n c
 rows:RwF w (xn cb mb) bs (yf vs D)
 ecs:D.cs.map (fun x=>(x.name,Pz.nr (jd x)))=c.cs
 ers:D.rs.map (fun x=>(x.sc,x.name,Pz.nr (j7 x)))=c.rs
 eos:D.os.map (fun x=>(x.sc,Pz.nr (jc x)))=c.os
 ecr:D.cr.map Pz.nr=c.cr
 els:D.ls=c.ls
 efs:D.fs=c.fs
 ok:SixOk D
 ne:cb≠mb
theorem PgV.vs{w:World}{bs cb mb n:Nat}{c:Pc.PC}{vs:Fin 6→Value}{D:Six}(h:PgV w bs cb mb n c vs D):∀i,∃q n z,vs i=.slice q n z:=by
 intro i
 have key:∀j:Fin 6,∃q n z,(yf vs D j).v=.slice q n z:=fun j=>by
  obtain⟨q,z,e⟩:=yt (h.rows.ow j);exact⟨q,_,z,e⟩
 match i with
 | 0=>exact key 0
 | 1=>exact key 1
 | 2=>exact key 2
 | 3=>exact key 3
 | 4=>exact key 4
 | 5=>exact key 5
theorem PgV.next{w w2:World}{bs cb mb n:Nat}{c:Pc.PC}{vs:Fin 6→Value}{D:Six}(h:PgV w bs cb mb n c vs D)(hb:Below w.heap.size w w2):PgV w2 bs cb mb n c vs D :=
 ⟨h.box.next hb,h.sn.next hb,h.rows.next hb,h.ecs,h.ers,h.eos,h.ecr,h.els,h.efs,h.ok,h.ne⟩
theorem PgV.field{w w2:World}{bs cb mb n:Nat}{c d:Pc.PC}{vs:Fin 6→Value}{D:Six}(h:PgV w bs cb mb n c vs D)(h1:PgB w2 cb mb d vs)(h2:SgS w2 mb n d)(hk:KpX (xn cb mb) w w2)
 (e1:d.cs=c.cs) (e2:d.rs=c.rs) (e3:d.os=c.os) (e4:d.cr=c.cr) (e5:d.ls=c.ls) (e6:d.fs=c.fs):PgV w2 bs cb mb n d vs D :=
 ⟨h1,h2,h.rows.kpx hk,h.ecs.trans e1.symm,h.ers.trans e2.symm,h.eos.trans e3.symm,h.ecr.trans e4.symm,h.els.trans e5.symm,h.efs.trans e6.symm,h.ok,h.ne⟩
theorem PgV.av{w:World}{bs cb mb n:Nat}{c:Pc.PC}{vs:Fin 6→Value}{D:Six}(h:PgV w bs cb mb n c vs D){T:Fo}{B:Nat}(hT:FoAv (fun g=>w.heap.size≤g) T B):FoAv (fun g=>¬xn cb mb g∧∀j,(yf vs D j).v.ownBlock≠some g) T B :=
 hT.mono fun g q=>⟨fun x=>by
  have h1:=h.box.lt;have h2:=h.sn.lt;rcases x with rfl|rfl<;>omega,fun j e=>by have:=((h.rows.ow j).lt g e).2;omega⟩
theorem PgB.like{w:World}{g mb:Nat}{c d:Pc.PC}{vs:Fin 6→Value}(h:PgB w g mb c vs)(e0:d.rep=c.rep)(e1:d.rel=c.rel)(e2:d.con=c.con)(e3:d.sit=c.sit)(e4:d.lay=c.lay)(e5:d.nf=c.nf)(e6:d.nt=c.nt)(e7:d.gua=c.gua):PgB w g mb d vs :=
 ⟨by rw[e0];exact h.c0,by rw[e1];exact h.c1,by rw[e2];exact h.c2,by rw[e3];exact h.c3,by rw[e4];exact h.c4,by rw[e5];exact h.c5,by rw[e6];exact h.c6,h.c7,h.c8,h.c9,h.c10,h.c11,h.c12,by rw[e7];exact h.c13,h.c14,h.f0,h.f1,h.f2,h.f3,h.f4,h.f5,h.f6,h.f7,h.f8,h.f9,h.f10,h.f11,h.f12,h.f13,h.n,h.lt⟩
theorem PgV.app0{w w2:World}{bs cb mb n:Nat}{c:Pc.PC}{vs:Fin 6→Value}{D:Six}{v':Value}(h:PgV w bs cb mb n c vs D)(x:Cn)(hx:ExAt w x.b x.o x.a x.k)(ha:FoAv (fun g=>¬xn cb mb g∧∀j,(yf vs D j).v.ownBlock≠some g) x.k x.b)(hok:yN x.a x.k∧x.name.size≤9223372036854775807)
 (ho:w2.ownsRow bs 85 5 v' (D.cs.length+1) (D.cs.flatMap j4++j4 x)) (hg:w.grownBy w2 (vs 0).ownBlock) (hob:v'.ownBlock=(vs 0).ownBlock∨v'.ownBlock=some w.heap.size) :
 PgV (w2.setCell ⟨cb,7,none⟩ v') bs cb mb n { c with cs:=c.cs++[(x.name,Pz.nr (jd x))] } (qU vs 0 v') { D with cs:=D.cs++[x] }:=by
 have own:=h.rows.ow 0;have nc:some cb≠(vs 0).ownBlock:=fun e=>by have:=(own.lt cb e.symm).1;have:=h.rows.lt cb (Or.inl rfl);omega
 have ns:some mb≠(vs 0).ownBlock:=fun e=>by have:=(own.lt mb e.symm).1;have:=h.rows.lt mb (Or.inr rfl);omega
 have R:=(h.rows.app (ts:=[jd x]) 0 (fun y hy=>by rw[List.mem_singleton.1 hy];exact⟨hx,ha⟩) ho hg hob).set (t:=cb) (Or.inl rfl) 7 v'
 have R2:RwF (w2.setCell ⟨cb,7,none⟩ v') (xn cb mb) bs (yf (qU vs 0 v') { D with cs:=D.cs++[x] }):=by
  rw[← UL];exact R
 refine⟨((h.box.grown hg nc).row0 v').like rfl rfl rfl rfl rfl rfl rfl rfl,((h.sn.grown hg ns).set h.ne).same rfl,R2,?_,?_,?_,?_,?_,?_,?_,h.ne⟩
 ·show List.map _ (D.cs++[x])=c.cs++_
  rw[List.map_append,h.ecs];rfl
 ·exact h.ers
 ·exact h.eos
 ·exact h.ecr
 ·exact h.els
 ·exact h.efs
 ·refine ⟨fun y hy=>?_,h.ok.rs,h.ok.os,h.ok.cr,h.ok.ls,h.ok.fs⟩;rcases List.mem_append.1 hy with q|q
  ·exact h.ok.cs y q
  ·rw[List.mem_singleton.1 q];exact hok
theorem PgV.app1{w w2:World}{bs cb mb n:Nat}{c:Pc.PC}{vs:Fin 6→Value}{D:Six}{v':Value}(h:PgV w bs cb mb n c vs D)(x:Ru)(hx:ExAt w x.b x.o x.a x.k)(ha:FoAv (fun g=>¬xn cb mb g∧∀j,(yf vs D j).v.ownBlock≠some g) x.k x.b)(hok:yN x.a x.k∧Bd x.sc∧x.name.size≤9223372036854775807)
 (ho:w2.ownsRow bs 87 6 v' (D.rs.length+1) (D.rs.flatMap zV++zV x)) (hg:w.grownBy w2 (vs 1).ownBlock) (hob:v'.ownBlock=(vs 1).ownBlock∨v'.ownBlock=some w.heap.size) :
 PgV (w2.setCell ⟨cb,8,none⟩ v') bs cb mb n { c with rs:=c.rs++[(x.sc,x.name,Pz.nr (j7 x))] } (qU vs 1 v') { D with rs:=D.rs++[x] }:=by
 have own:=h.rows.ow 1;have nc:some cb≠(vs 1).ownBlock:=fun e=>by have:=(own.lt cb e.symm).1;have:=h.rows.lt cb (Or.inl rfl);omega
 have ns:some mb≠(vs 1).ownBlock:=fun e=>by have:=(own.lt mb e.symm).1;have:=h.rows.lt mb (Or.inr rfl);omega
 have R:=(h.rows.app (ts:=[j7 x]) 1 (fun y hy=>by rw[List.mem_singleton.1 hy];exact⟨hx,ha⟩) ho hg hob).set (t:=cb) (Or.inl rfl) 8 v'
 have R2:RwF (w2.setCell ⟨cb,8,none⟩ v') (xn cb mb) bs (yf (qU vs 1 v') { D with rs:=D.rs++[x] }):=by
  rw[← UK];exact R
 refine⟨((h.box.grown hg nc).row1 v').like rfl rfl rfl rfl rfl rfl rfl rfl,((h.sn.grown hg ns).set h.ne).same rfl,R2,?_,?_,?_,?_,?_,?_,?_,h.ne⟩
 ·exact h.ecs
 ·show List.map _ (D.rs++[x])=c.rs++_
  rw[List.map_append,h.ers];rfl
 ·exact h.eos
 ·exact h.ecr
 ·exact h.els
 ·exact h.efs
 ·refine ⟨h.ok.cs,fun y hy=>?_,h.ok.os,h.ok.cr,h.ok.ls,h.ok.fs⟩;rcases List.mem_append.1 hy with q|q
  ·exact h.ok.rs y q
  ·rw[List.mem_singleton.1 q];exact hok
theorem PgV.app2{w w2:World}{bs cb mb n:Nat}{c:Pc.PC}{vs:Fin 6→Value}{D:Six}{v':Value}(h:PgV w bs cb mb n c vs D)(x:Co)(hx:ExAt w x.b x.o x.a x.k)(ha:FoAv (fun g=>¬xn cb mb g∧∀j,(yf vs D j).v.ownBlock≠some g) x.k x.b)(hok:yN x.a x.k∧Bd x.sc)
 (ho:w2.ownsRow bs 89 5 v' (D.os.length+1) (D.os.flatMap j3++j3 x)) (hg:w.grownBy w2 (vs 2).ownBlock) (hob:v'.ownBlock=(vs 2).ownBlock∨v'.ownBlock=some w.heap.size) :
 PgV (w2.setCell ⟨cb,9,none⟩ v') bs cb mb n { c with os:=c.os++[(x.sc,Pz.nr (jc x))] } (qU vs 2 v') { D with os:=D.os++[x] }:=by
 have own:=h.rows.ow 2;have nc:some cb≠(vs 2).ownBlock:=fun e=>by have:=(own.lt cb e.symm).1;have:=h.rows.lt cb (Or.inl rfl);omega
 have ns:some mb≠(vs 2).ownBlock:=fun e=>by have:=(own.lt mb e.symm).1;have:=h.rows.lt mb (Or.inr rfl);omega
 have R:=(h.rows.app (ts:=[jc x]) 2 (fun y hy=>by rw[List.mem_singleton.1 hy];exact⟨hx,ha⟩) ho hg hob).set (t:=cb) (Or.inl rfl) 9 v'
 have R2:RwF (w2.setCell ⟨cb,9,none⟩ v') (xn cb mb) bs (yf (qU vs 2 v') { D with os:=D.os++[x] }):=by
  rw[← UJ];exact R
 refine⟨((h.box.grown hg nc).row2 v').like rfl rfl rfl rfl rfl rfl rfl rfl,((h.sn.grown hg ns).set h.ne).same rfl,R2,?_,?_,?_,?_,?_,?_,?_,h.ne⟩
 ·exact h.ecs
 ·exact h.ers
 ·show List.map _ (D.os++[x])=c.os++_
  rw[List.map_append,h.eos];rfl
 ·exact h.ecr
 ·exact h.els
 ·exact h.efs
 ·refine ⟨h.ok.cs,h.ok.rs,fun y hy=>?_,h.ok.cr,h.ok.ls,h.ok.fs⟩;rcases List.mem_append.1 hy with q|q
  ·exact h.ok.os y q
  ·rw[List.mem_singleton.1 q];exact hok
theorem PgV.app3{w w2:World}{bs cb mb n:Nat}{c:Pc.PC}{vs:Fin 6→Value}{D:Six}{v':Value}(h:PgV w bs cb mb n c vs D)(x:Ch)(hx:ExAt w x.b x.o x.a x.k)(ha:FoAv (fun g=>¬xn cb mb g∧∀j,(yf vs D j).v.ownBlock≠some g) x.k x.b)(hok:yN x.a x.k)
 (ho:w2.ownsRow bs 24 4 v' (D.cr.length+1) (D.cr.flatMap xp++xp x)) (hg:w.grownBy w2 (vs 3).ownBlock) (hob:v'.ownBlock=(vs 3).ownBlock∨v'.ownBlock=some w.heap.size) :
 PgV (w2.setCell ⟨cb,10,none⟩ v') bs cb mb n { c with cr:=c.cr++[(Pz.nr x)] } (qU vs 3 v') { D with cr:=D.cr++[x] }:=by
 have own:=h.rows.ow 3;have nc:some cb≠(vs 3).ownBlock:=fun e=>by have:=(own.lt cb e.symm).1;have:=h.rows.lt cb (Or.inl rfl);omega
 have ns:some mb≠(vs 3).ownBlock:=fun e=>by have:=(own.lt mb e.symm).1;have:=h.rows.lt mb (Or.inr rfl);omega
 have R:=(h.rows.app (ts:=[x]) 3 (fun y hy=>by rw[List.mem_singleton.1 hy];exact⟨hx,ha⟩) ho hg hob).set (t:=cb) (Or.inl rfl) 10 v'
 have R2:RwF (w2.setCell ⟨cb,10,none⟩ v') (xn cb mb) bs (yf (qU vs 3 v') { D with cr:=D.cr++[x] }):=by
  rw[← UI];exact R
 refine⟨((h.box.grown hg nc).row3 v').like rfl rfl rfl rfl rfl rfl rfl rfl,((h.sn.grown hg ns).set h.ne).same rfl,R2,?_,?_,?_,?_,?_,?_,?_,h.ne⟩
 ·exact h.ecs
 ·exact h.ers
 ·exact h.eos
 ·show List.map _ (D.cr++[x])=c.cr++_
  rw[List.map_append,h.ecr];rfl
 ·exact h.els
 ·exact h.efs
 ·refine ⟨h.ok.cs,h.ok.rs,h.ok.os,fun y hy=>?_,h.ok.ls,h.ok.fs⟩;rcases List.mem_append.1 hy with q|q
  ·exact h.ok.cr y q
  ·rw[List.mem_singleton.1 q];exact hok
theorem PgV.app4{w w2:World}{bs cb mb n:Nat}{c:Pc.PC}{vs:Fin 6→Value}{D:Six}{v':Value}(h:PgV w bs cb mb n c vs D)(x:Li)(hok:Bd x.most∧Bd x.days∧x.name.size≤9223372036854775807∧x.meas.size≤9223372036854775807)
 (ho:w2.ownsRow bs 91 4 v' (D.ls.length+1) (D.ls.flatMap kH++kH x)) (hg:w.grownBy w2 (vs 4).ownBlock) (hob:v'.ownBlock=(vs 4).ownBlock∨v'.ownBlock=some w.heap.size) :
 PgV (w2.setCell ⟨cb,11,none⟩ v') bs cb mb n { c with ls:=c.ls++[x] } (qU vs 4 v') { D with ls:=D.ls++[x] }:=by
 have own:=h.rows.ow 4;have nc:some cb≠(vs 4).ownBlock:=fun e=>by have:=(own.lt cb e.symm).1;have:=h.rows.lt cb (Or.inl rfl);omega
 have ns:some mb≠(vs 4).ownBlock:=fun e=>by have:=(own.lt mb e.symm).1;have:=h.rows.lt mb (Or.inr rfl);omega
 have R:=(h.rows.app (ts:=[]) 4 (fun y hy=>by cases hy) ho hg hob).set (t:=cb) (Or.inl rfl) 11 v'
 have R2:RwF (w2.setCell ⟨cb,11,none⟩ v') (xn cb mb) bs (yf (qU vs 4 v') { D with ls:=D.ls++[x] }):=by
  rw[← UH];exact R
 refine⟨((h.box.grown hg nc).row4 v').like rfl rfl rfl rfl rfl rfl rfl rfl,((h.sn.grown hg ns).set h.ne).same rfl,R2,?_,?_,?_,?_,?_,?_,?_,h.ne⟩
 ·exact h.ecs
 ·exact h.ers
 ·exact h.eos
 ·exact h.ecr
 ·show D.ls++[x]=c.ls++_
  rw[h.els]
 ·exact h.efs
 ·refine ⟨h.ok.cs,h.ok.rs,h.ok.os,h.ok.cr,fun y hy=>?_,h.ok.fs⟩;rcases List.mem_append.1 hy with q|q
  ·exact h.ok.ls y q
  ·rw[List.mem_singleton.1 q];exact hok
theorem PgV.app5{w w2:World}{bs cb mb n:Nat}{c:Pc.PC}{vs:Fin 6→Value}{D:Six}{v':Value}(h:PgV w bs cb mb n c vs D)(x:Of)(hok:Bd x.count∧Bd x.days∧x.name.size≤9223372036854775807)
 (ho:w2.ownsRow bs 93 3 v' (D.fs.length+1) (D.fs.flatMap kF++kF x)) (hg:w.grownBy w2 (vs 5).ownBlock) (hob:v'.ownBlock=(vs 5).ownBlock∨v'.ownBlock=some w.heap.size) :
 PgV (w2.setCell ⟨cb,12,none⟩ v') bs cb mb n { c with fs:=c.fs++[x] } (qU vs 5 v') { D with fs:=D.fs++[x] }:=by
 have own:=h.rows.ow 5;have nc:some cb≠(vs 5).ownBlock:=fun e=>by have:=(own.lt cb e.symm).1;have:=h.rows.lt cb (Or.inl rfl);omega
 have ns:some mb≠(vs 5).ownBlock:=fun e=>by have:=(own.lt mb e.symm).1;have:=h.rows.lt mb (Or.inr rfl);omega
 have R:=(h.rows.app (ts:=[]) 5 (fun y hy=>by cases hy) ho hg hob).set (t:=cb) (Or.inl rfl) 12 v'
 have R2:RwF (w2.setCell ⟨cb,12,none⟩ v') (xn cb mb) bs (yf (qU vs 5 v') { D with fs:=D.fs++[x] }):=by
  rw[← UG];exact R
 refine⟨((h.box.grown hg nc).row5 v').like rfl rfl rfl rfl rfl rfl rfl rfl,((h.sn.grown hg ns).set h.ne).same rfl,R2,?_,?_,?_,?_,?_,?_,?_,h.ne⟩
 ·exact h.ecs
 ·exact h.ers
 ·exact h.eos
 ·exact h.ecr
 ·exact h.els
 ·show D.fs++[x]=c.fs++_
  rw[h.efs]
 ·refine ⟨h.ok.cs,h.ok.rs,h.ok.os,h.ok.cr,h.ok.ls,fun y hy=>?_⟩;rcases List.mem_append.1 hy with q|q
  ·exact h.ok.fs y q
  ·rw[List.mem_singleton.1 q];exact hok
theorem vv(L:List Tk.T4)(n:Nat):jF (L.drop n)=(jF L).drop (n * 4):=by
 induction n generalizing L with
 | zero=>simp
 | succ n ih =>
   cases L with
   | nil=>simp[jF]
   | cons t l =>
     have e:jF (t :: l)=[.int .i64 t.t.kind,.string t.t.text,.int .i64 t.t.num,.int .i64 t.at']++jF l:=(by simp[jF]);rw[List.drop_succ_cons,ih,e,show(n+1) * 4=4+n * 4 by omega,← List.drop_drop];rfl
theorem Jv{w:World}{L:List Tk.T4}{g O cap:Nat}(h:TkAt w L (.slice (some ⟨g,O,none⟩) L.length cap))(n:Nat)(hl:L.length≤400):TkB w (L.drop n) (some ⟨g,O+n * 4,none⟩) w.heap.size:=by
 refine⟨by rw[List.length_drop];omega,fun q=>?_⟩;obtain⟨p,cap',e,h1,h2,h3⟩:=h;obtain⟨g',O',e',hc⟩:=h3 (by rintro rfl;simp at q);injection e with e1 e2 e3
 have e4:=e1.trans e';injection e4 with e4
 injection e4 with e5 e6 e7
 subst e5;subst e6
 have cell:∀j u,(jF (L.drop n))[j]?=some u→w.cell? ⟨g,O+n * 4+j,none⟩=some u:=fun j u hu=>by
  rw[vv,List.getElem?_drop] at hu;rw[Nat.add_assoc];exact hc _ _ hu
 refine⟨g,O+n * 4,rfl,?_,cell⟩;cases hd:L.drop n with
 | nil=>exact absurd hd q
 | cons t l =>
   have:=cell 0 (.int .i64 t.t.kind) (by rw[hd];simp[jF]);exact block_lt_of_cell this
theorem yp{n m:Nat}{w w':World}(h:Below m w w')(hn:n≤m):Below n w w':=⟨h.os,h.tape,h.output,h.size,fun k hk=>h.block k (by omega)⟩
end Go.Proofs.YtcejjdmnlejbaaaGreatDoor
