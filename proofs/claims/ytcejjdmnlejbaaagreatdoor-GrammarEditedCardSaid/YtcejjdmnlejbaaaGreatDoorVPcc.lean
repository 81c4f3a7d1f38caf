import Derived.Test.YtcejjdmnlejbaaaGreatDoorVPca
namespace Go.Proofs.YtcejjdmnlejbaaaGreatDoor
open Lib(hid)
set_option linter.unusedVariables false
set_option linter.unusedSimpArgs false
open Go.ChangeShapes Go.WideShapes Go.ChangeAt Go.RowKit
open Go.Deep (BT)
set_option maxHeartbeats 1000000
namespace Pg
open Pc
def pN:ByteArray:=⟨#[35,110]⟩
def pT:ByteArray:=⟨#[35,116]⟩
def pC:ByteArray:=⟨#[35,99]⟩
def pD:ByteArray:=⟨#[35,100]⟩
def pm(p:ByteArray)(t:Tk.T3):Bool:=if p=pN then decide (t.kind=1) && yJ t.text else if p=pT then decide (t.kind=3) else if p=pC then decide (t.kind=4) else if p=pD then decide (t.kind=2) else decide (t.kind=1) && decide (t.text=p)
def sh:List Tk.T4→List ByteArray→Bool
 | [],[]=>true
 | t :: L,p :: P=>pm p t.t && sh L P
 | _,_=>false
def bg(L:List Tk.T4)(P:List ByteArray):Bool:=decide (P.length≤L.length) && sh (L.take P.length) P
theorem sh_len{L:List Tk.T4}{P:List ByteArray}(h:sh L P=true):L.length=P.length:=by
 induction L generalizing P with
 | nil=>cases P with
   | nil=>rfl
   | cons p P=>simp[sh] at h
 | cons t L ih=>cases P with
   | nil=>simp[sh] at h
   | cons p P =>
     simp only[sh,Bool.and_eq_true] at h;simp[ih h.2]
theorem sh_drop{L:List Tk.T4}{P:List ByteArray}{j:Nat}{t:Tk.T4}{p:ByteArray}(hl:L[j]?=some t)(hp:P[j]?=some p):sh (L.drop j) (P.drop j)=(pm p t.t && sh (L.drop (j+1)) (P.drop (j+1))):=by
 obtain⟨h1,h2⟩:=List.getElem?_eq_some_iff.1 hl;obtain⟨h3,h4⟩:=List.getElem?_eq_some_iff.1 hp;rw[List.drop_eq_getElem_cons h1,List.drop_eq_getElem_cons h3,h2,h4];rfl
theorem sh_end{L:List Tk.T4}{P:List ByteArray}{j:Nat}(hl:L.length≤j)(hp:P.length≤j):sh (L.drop j) (P.drop j)=true:=by
 rw[List.drop_eq_nil_of_le hl,List.drop_eq_nil_of_le hp];rfl
theorem sh_no{L:List Tk.T4}{P:List ByteArray}(h:L.length≠P.length):sh L P=false:=by
 cases q:sh L P with
 | false=>rfl
 | true=>exact absurd (sh_len q) h
def wordP(p:ByteArray):Prop:=p≠pN∧p≠pT∧p≠pC∧p≠pD
theorem pm_word{p:ByteArray}(h:wordP p)(t:Tk.T3):pm p t=(decide (t.kind=1) && decide (t.text=p)):=by
 unfold pm;rw[if_neg h.1,if_neg h.2.1,if_neg h.2.2.1,if_neg h.2.2.2]
theorem wp_const:wordP wConst:=by unfold wordP;decide
theorem wp_is:wordP wIs:=by unfold wordP;decide
theorem wp_duty:wordP wDuty:=by unfold wordP;decide
theorem wp_credit:wordP wCredit:=by unfold wordP;decide
theorem wp_off:wordP wOff:=by unfold wordP;decide
theorem wp_in:wordP wIn:=by unfold wordP;decide
theorem wp_days:wordP wDays:=by unfold wordP;decide
theorem wp_night:wordP wNight:=by unfold wordP;decide
theorem wp_to:wordP wTo:=by unfold wordP;decide
theorem wp_limit:wordP wLimit:=by unfold wordP;decide
theorem wp_cost:wordP wCost:=by unfold wordP;decide
theorem wp_rule:wordP wRule:=by unfold wordP;decide
theorem tok_S(t:Tk.T4)(L:List Tk.T4)(i:Nat):Pc.tok (t :: L) (i+1)=Pc.tok L i:=by unfold Pc.tok;rw[List.getElem?_cons_succ]
theorem kd_cons0(t:Tk.T4)(L:List Tk.T4)(k:Int):kd (t :: L) 0 k=decide (t.t.kind=k):=by simp[kd,Pc.tok]
theorem kd_consS(t:Tk.T4)(L:List Tk.T4)(i:Nat)(k:Int):kd (t :: L) (i+1) k=kd L i k:=by unfold kd;rw[tok_S];simp
theorem kd_nil(i:Nat)(k:Int):kd [] i k=false:=by simp[kd]
theorem isW_cons0(t:Tk.T4)(L:List Tk.T4)(s:ByteArray):isW (t :: L) 0 s=(decide (t.t.kind=1) && decide (t.t.text=s)):=by unfold isW;rw[kd_cons0];rfl
theorem isW_consS(t:Tk.T4)(L:List Tk.T4)(i:Nat)(s:ByteArray):isW (t :: L) (i+1) s=isW L i s:=by unfold isW;rw[kd_consS,tok_S]
theorem isW_nil(i:Nat)(s:ByteArray):isW [] i s=false:=by unfold isW;rw[kd_nil];rfl
theorem nmd_cons0(t:Tk.T4)(L:List Tk.T4):nmd (t :: L) 0=(decide (t.t.kind=1) && yJ t.t.text):=by unfold nmd;rw[kd_cons0];rfl
theorem nmd_consS(t:Tk.T4)(L:List Tk.T4)(i:Nat):nmd (t :: L) (i+1)=nmd L i:=by unfold nmd;rw[kd_consS,tok_S]
theorem nmd_nil(i:Nat):nmd [] i=false:=by unfold nmd;rw[kd_nil];rfl
def pI(L:List Tk.T4)(i:Nat)(p:ByteArray):Bool:=if p=pN then nmd L i else if p=pT then kd L i 3 else if p=pC then kd L i 4 else if p=pD then kd L i 2 else isW L i p
theorem pI_cons0(t:Tk.T4)(L:List Tk.T4)(p:ByteArray):pI (t :: L) 0 p=pm p t.t:=by
 unfold pI pm;rw[nmd_cons0,kd_cons0,kd_cons0,kd_cons0,isW_cons0]
theorem pI_consS(t:Tk.T4)(L:List Tk.T4)(i:Nat)(p:ByteArray):pI (t :: L) (i+1) p=pI L i p:=by
 unfold pI;rw[nmd_consS,kd_consS,kd_consS,kd_consS,isW_consS]
theorem pI_nil(i:Nat)(p:ByteArray):pI [] i p=false:=by
 unfold pI;rw[nmd_nil,kd_nil,kd_nil,kd_nil,isW_nil];simp
def allI(L:List Tk.T4):Nat→List ByteArray→Bool
 | _,[]=>true
 | i,p :: P=>pI L i p && allI L (i+1) P
theorem allI_cons(t:Tk.T4)(L:List Tk.T4)(i:Nat)(P:List ByteArray):allI (t :: L) (i+1) P=allI L i P:=by
 induction P generalizing i with
 | nil=>rfl
 | cons p P ih=>simp only[allI];rw[pI_consS,ih]
theorem sh_allI(L:List Tk.T4)(P:List ByteArray):sh L P=(decide (L.length=P.length) && allI L 0 P):=by
 induction P generalizing L with
 | nil=>cases L with
   | nil=>rfl
   | cons t L=>simp[sh]
 | cons p P ih=>cases L with
   | nil=>simp[sh]
   | cons t L =>
     simp only[sh,allI];rw[ih,pI_cons0,allI_cons];have e:decide ((t :: L).length=(p :: P).length)=decide (L.length=P.length):=(by simp);rw[e];cases pm p t.t<;>cases decide (L.length=P.length)<;>rfl
theorem bg_allI(L:List Tk.T4)(P:List ByteArray):bg L P=allI L 0 P:=by
 unfold bg
 induction P generalizing L with
 | nil=>simp[sh,allI]
 | cons p P ih=>cases L with
   | nil=>simp[allI,pI_nil]
   | cons t L =>
     have e:decide ((p :: P).length≤(t :: L).length)=decide (P.length≤L.length):=(by simp);rw[e,List.length_cons,List.take_succ_cons];simp only[sh,allI];rw[allI_cons,← ih,pI_cons0];cases pm p t.t<;>cases decide (P.length≤L.length)<;>rfl
theorem pI_word{p:ByteArray}(h:wordP p)(L:List Tk.T4)(i:Nat):pI L i p=isW L i p:=by
 unfold pI;rw[if_neg h.1,if_neg h.2.1,if_neg h.2.2.1,if_neg h.2.2.2]
theorem pI_n(L:List Tk.T4)(i:Nat):pI L i pN=nmd L i:=rfl
theorem pI_t(L:List Tk.T4)(i:Nat):pI L i pT=kd L i 3:=rfl
theorem pI_c(L:List Tk.T4)(i:Nat):pI L i pC=kd L i 4:=rfl
theorem pI_d(L:List Tk.T4)(i:Nat):pI L i pD=kd L i 2:=rfl
def tgt(s:ByteArray):Nat:=if s=wReport then 0 else if s=wRelease then 1 else if s=wConnect then 2 else if s=wSit then 3 else if s=wLayover then 4 else if s=wGuarantee then 5 else 6
def amt(s:ByteArray):Option ByteArray:=if yn s=2 then some pT else if yn s=1 then some pD else none
def seenT(c:Pc.PC)(i:Nat)(L:List Tk.T4):Pc.PC× Int:=if c.seen i=true then (c,7) else (setField (setSeen c i) i L,0)
def limQ(c:Pc.PC)(L:List Tk.T4):Pc.PC× Int :=
 if L.length≤3 then (c,1) else
 match amt (Pc.tok L 3).text with
 | none=>(c,1)
 | some a=>if sh L [wLimit,pN,wIs,(Pc.tok L 3).text,a,wIn,pD,wDays]=true then ({ c with ls:=c.ls++[⟨(Pc.tok L 1).text,(Pc.tok L 3).text,(Pc.tok L 4).num,(Pc.tok L 6).num⟩] },0) else (c,1)
def scoQ(c:Pc.PC)(L:List Tk.T4):Pc.PC× Int :=
 if scopeT (Pc.tok L 0).text=0 then (c,1) else
 if bg (L.drop 1) [wCost,wIs]=true then ifEx c (L.drop 3) fun x=>{ c with os:=c.os++[(scopeT (Pc.tok L 0).text,x)] } else
 if bg (L.drop 1) [wRule,pN,wIs]=true then ifEx c (L.drop 4) fun x=>{ c with rs:=c.rs++[(scopeT (Pc.tok L 0).text,(Pc.tok L 2).text,x)] } else (c,1)
def declQ(c:Pc.PC)(L:List Tk.T4):Pc.PC× Int :=
 if tgt (Pc.tok L 0).text < 6∧sh (L.drop 1) [pT]=true then seenT c (tgt (Pc.tok L 0).text) L else
 if sh L [wNight,pC,wTo,pC]=true then seenT c 6 L else
 if bg L [wConst,pN,wIs]=true then ifEx c (L.drop 3) fun x=>{ c with cs:=c.cs++[((Pc.tok L 1).text,x)] } else
 if bg L [wDuty,wCredit,wIs]=true then ifEx c (L.drop 3) fun x=>{ c with cr:=c.cr++[x] } else
 if sh L [wOff,pN,wIs,pD,wIn,pD,wDays]=true then ({ c with fs:=c.fs++[⟨(Pc.tok L 1).text,(Pc.tok L 3).num,(Pc.tok L 5).num⟩] },0) else
 if bg L [wLimit]=true then limQ c L else scoQ c L
theorem isW_kd{L:List Tk.T4}{i:Nat}{s:ByteArray}(h:isW L i s=true):kd L i 1=true∧(Pc.tok L i).text=s:=by
 unfold isW at h;rw[Bool.and_eq_true,decide_eq_true_eq] at h;exact h
theorem isW_0{L:List Tk.T4}{s:ByteArray}(h:kd L 0 1=true):isW L 0 s=decide ((Pc.tok L 0).text=s):=by
 unfold isW;rw[h,Bool.true_and]
theorem tgt_find(s:ByteArray):fieldsL.findIdx? (fun x=>decide (x=s))=if tgt s < 6 then some (tgt s) else if s=wNight then some 6 else none:=by
 unfold fieldsL tgt;simp only[List.findIdx?_cons]
 by_cases h0:s=wReport
 ·subst h0;rfl
 by_cases h1:s=wRelease
 ·subst h1;rfl
 by_cases h2:s=wConnect
 ·subst h2;rfl
 by_cases h3:s=wSit
 ·subst h3;rfl
 by_cases h4:s=wLayover
 ·subst h4;rfl
 by_cases h5:s=wGuarantee
 ·subst h5;rfl
 have n:∀ {x:ByteArray},¬s=x→decide (x=s)=false:=fun h=>decide_eq_false fun e=>h e.symm;simp only[n h0,n h1,n h2,n h3,n h4,n h5,if_neg h0,if_neg h1,if_neg h2,if_neg h3,if_neg h4,if_neg h5]
 by_cases h6:s=wNight
 ·subst h6;rfl
 ·simp only[n h6,if_neg h6];rfl
theorem tgt_words:tgt wConst=6∧tgt wDuty=6∧tgt wRest=6∧tgt wPairing=6∧tgt wLimit=6∧tgt wOff=6∧tgt wNight=6:=by decide
theorem tgt_word(s:ByteArray)(h:tgt s < 6):s=wReport∨s=wRelease∨s=wConnect∨s=wSit∨s=wLayover∨s=wGuarantee:=by
 unfold tgt at h
 by_cases h0:s=wReport
 ·exact .inl h0
 by_cases h1:s=wRelease
 ·exact .inr (.inl h1)
 by_cases h2:s=wConnect
 ·exact .inr (.inr (.inl h2))
 by_cases h3:s=wSit
 ·exact .inr (.inr (.inr (.inl h3)))
 by_cases h4:s=wLayover
 ·exact .inr (.inr (.inr (.inr (.inl h4))))
 by_cases h5:s=wGuarantee
 ·exact .inr (.inr (.inr (.inr (.inr h5))))
 rw[if_neg h0,if_neg h1,if_neg h2,if_neg h3,if_neg h4,if_neg h5] at h;omega
theorem word_size{s:ByteArray}(h:tgt s < 6∨scopeT s≠0):3≤s.size:=by
 rcases h with h|h
 ·rcases tgt_word s h with rfl|rfl|rfl|rfl|rfl|rfl<;>decide
 ·unfold scopeT at h
  by_cases h0:s=wDuty
  ·subst h0;decide
  by_cases h1:s=wRest
  ·subst h1;decide
  by_cases h2:s=wPairing
  ·subst h2;decide
  rw[if_neg h0,if_neg h1,if_neg h2] at h;exact absurd rfl h
theorem sgn_le(l:List UInt8):Tk.sgn l≤2:=by
 unfold Tk.sgn
 split
 ·exact Nat.le_refl _
 ·split<;>omega
theorem vt_word{t:Tk.T3}(h:VT t)(hs:3≤t.text.size):t.kind=1:=by
 have e0:(⟨#[]⟩:ByteArray).size=0:=rfl;rcases kw h with h1|h1|h1|h1|h1
 ·exact h1.1
 ·rw[h1.2.1] at hs;omega
 ·rw[h1.2.1] at hs;omega
 ·rw[h1.2.1] at hs;omega
 ·rcases h with h|h|h|⟨g1,g2,g3,g4⟩
  ·exact h.1
  ·omega
  ·omega
  ·have:=sgn_le t.text.data.toList;omega
theorem scope_words:scopeT wConst=0∧scopeT wLimit=0∧scopeT wOff=0∧scopeT wDuty=1∧scopeT wNight=0:=by decide
theorem allI1(L:List Tk.T4)(a:ByteArray):allI L 0 [a]=pI L 0 a:=by simp[allI]
theorem allI2(L:List Tk.T4)(a b:ByteArray):allI L 0 [a,b]=(pI L 0 a && pI L 1 b):=by simp[allI]
theorem allI3(L:List Tk.T4)(a b c:ByteArray):allI L 0 [a,b,c]=(pI L 0 a && (pI L 1 b && pI L 2 c)):=by simp[allI]
theorem allI4(L:List Tk.T4)(a b c d:ByteArray):allI L 0 [a,b,c,d]=(pI L 0 a && (pI L 1 b && (pI L 2 c && pI L 3 d))):=by simp[allI]
theorem allI7(L:List Tk.T4)(a b c d e f g:ByteArray):allI L 0 [a,b,c,d,e,f,g]=(pI L 0 a && (pI L 1 b && (pI L 2 c && (pI L 3 d && (pI L 4 e && (pI L 5 f && pI L 6 g)))))):=by simp[allI]
theorem allI8(L:List Tk.T4)(a b c d e f g h:ByteArray):allI L 0 [a,b,c,d,e,f,g,h]=(pI L 0 a && (pI L 1 b && (pI L 2 c && (pI L 3 d && (pI L 4 e && (pI L 5 f && (pI L 6 g && pI L 7 h))))))):=by simp[allI]
theorem bg_const(L:List Tk.T4):bg L [wConst,pN,wIs]=(isW L 0 wConst && (nmd L 1 && isW L 2 wIs)):=by rw[bg_allI,allI3,pI_word wp_const,pI_n,pI_word wp_is]
theorem bg_credit(L:List Tk.T4):bg L [wDuty,wCredit,wIs]=(isW L 0 wDuty && (isW L 1 wCredit && isW L 2 wIs)):=by rw[bg_allI,allI3,pI_word wp_duty,pI_word wp_credit,pI_word wp_is]
theorem bg_limit(L:List Tk.T4):bg L [wLimit]=isW L 0 wLimit:=by rw[bg_allI,allI1,pI_word wp_limit]
theorem bg_cost(L:List Tk.T4):bg L [wCost,wIs]=(isW L 0 wCost && isW L 1 wIs):=by rw[bg_allI,allI2,pI_word wp_cost,pI_word wp_is]
theorem bg_rule(L:List Tk.T4):bg L [wRule,pN,wIs]=(isW L 0 wRule && (nmd L 1 && isW L 2 wIs)):=by rw[bg_allI,allI3,pI_word wp_rule,pI_n,pI_word wp_is]
theorem sh_night(L:List Tk.T4):sh L [wNight,pC,wTo,pC]=(decide (L.length=4) && (isW L 0 wNight && (kd L 1 4 && (isW L 2 wTo && kd L 3 4)))):=by
 rw[sh_allI,allI4,pI_word wp_night,pI_c,pI_word wp_to,pI_c];rfl
theorem sh_off(L:List Tk.T4):sh L [wOff,pN,wIs,pD,wIn,pD,wDays]=(decide (L.length=7) && (isW L 0 wOff && (nmd L 1 && (isW L 2 wIs && (kd L 3 2 && (isW L 4 wIn && (kd L 5 2 && isW L 6 wDays))))))):=by
 rw[sh_allI,allI7,pI_word wp_off,pI_n,pI_word wp_is,pI_d,pI_word wp_in,pI_d,pI_word wp_days];rfl
theorem sh_t1(t:Tk.T4)(L:List Tk.T4):sh ((t :: L).drop 1) [pT]=(decide ((t :: L).length=2) && kd (t :: L) 1 3):=by
 rw[sh_allI,allI1,pI_t,List.drop_one,List.tail_cons,kd_consS];simp
theorem meas_word{s:ByteArray}{a:ByteArray}(h:amt s=some a):wordP s:=by
 unfold amt at h
 by_cases h1:yn s=2
 ·refine⟨?_,?_,?_,?_⟩<;>rintro rfl<;>exact absurd h1 (by decide)
 ·rw [if_neg h1] at h
  by_cases h2:yn s=1
  ·refine⟨?_,?_,?_,?_⟩<;>rintro rfl<;>exact absurd h2 (by decide)
  ·rw[if_neg h2] at h;cases h
end Pg
theorem zw{L:List Tk.T4}{i:Nat}{t:Tk.T4}(h:L[i]?=some t):Pc.tok L i=t.t:=by unfold Pc.tok;rw[h]
theorem KN{L:List Tk.T4}{i:Nat}{t:Tk.T4}(h:L[i]?=some t)(k:Int):Pc.kd L i k=decide (t.t.kind=k):=by
 have hi:=(List.getElem?_eq_some_iff.1 h).1;unfold Pc.kd;rw[zw h,decide_eq_true hi,Bool.true_and]
theorem Q3{L:List Tk.T4}{i:Nat}(h:¬i < L.length)(k:Int):Pc.kd L i k=false:=by
 unfold Pc.kd;rw[decide_eq_false h,Bool.false_and]
theorem zA(L:List Tk.T4)(v:Value)(i:Nat)(k:Int)(w:World)(ht:TkAt w L v) :
 Calls Tryz.prog 94 #[v,.int .i64 i,.int .i64 k] w fun e w'=>e=.returned (.bool (Pc.kd L i k))∧w=w':=by
 by_cases hi:i < L.length
 ·obtain ⟨t,hq⟩:∃t,L[i]?=some t:=⟨_,List.getElem?_eq_getElem hi⟩;have KD:=hid (KN hq k);obtain⟨p,cap,rfl,h1,h2,h3⟩:=ht;obtain⟨g,O,rfl,c0,c1,c2,c3⟩:=TkAt.get ⟨p,cap,rfl,h1,h2,h3⟩ hq;have hi1:(i:Int) < (L.length:Int):=(by omega);generalize Pc.kd L i k=R at *;clear h3 hq;go_enter Tryz.func94,Tryz.ntmps94;go_wp2;go_ret;exact⟨qr (by rw[KD.out];rw[Bool.eq_iff_iff];simp),rfl⟩
 ·have KD:=hid (Q3 hi k);obtain⟨p,cap,rfl,h1,h2,h3⟩:=ht;have hi1:¬(i:Int) < (L.length:Int):=(by omega);generalize Pc.kd L i k=R at *;clear h3;go_enter Tryz.func94,Tryz.ntmps94;go_wp2;go_ret;exact⟨qr KD.out.symm,rfl⟩
theorem zL(L:List Tk.T4)(v:Value)(i:Nat)(s:ByteArray)(w:World)(ht:TkAt w L v) :
 Calls Tryz.prog 97 #[v,.int .i64 i,.string s] w fun e w'=>e=.returned (.bool (Pc.isW L i s))∧w=w':=by
 have IW:Hid (Pc.isW L i s=(Pc.kd L i 1 && decide ((Pc.tok L i).text=s))):=rfl
 by_cases hi:i < L.length
 ·obtain ⟨t,hq⟩:∃t,L[i]?=some t:=⟨_,List.getElem?_eq_getElem hi⟩;have KD:=hid (KN hq 1);have TX:=hid (zw hq);obtain⟨p,cap,rfl,h1,h2,h3⟩:=ht;obtain⟨g,O,rfl,c0,c1,c2,c3⟩:=TkAt.get ⟨p,cap,rfl,h1,h2,h3⟩ hq;have hi1:(i:Int) < (L.length:Int):=(by omega);generalize Pc.isW L i s=R at *;clear h3 hq
  by_cases hk:t.t.kind=1
  ·have bk:(t.t.kind==1)=true:=by simp[hk]
   have RQ:Hid (R=(t.t.text.toList==s.toList)):=by
    unfold Hid;rw[IW.out,KD.out,TX.out,decide_eq_true hk,Bool.true_and,Bool.eq_iff_iff];simp[Lib.toList_data,ByteArray.ext_iff,Array.ext_iff]
   clear IW KD TX hk;go_enter Tryz.func97,Tryz.ntmps97;go_wp2;go_ret;exact⟨qr RQ.out.symm,rfl⟩
  ·have bk:(t.t.kind==1)=false:=by simp[hk]
   have RQ:Hid (R=false):=by
    unfold Hid;rw[IW.out,KD.out,decide_eq_false hk,Bool.false_and]
   clear IW KD TX hk;go_enter Tryz.func97,Tryz.ntmps97;go_wp2;go_ret;exact⟨qr RQ.out.symm,rfl⟩
 ·have RQ:Hid (Pc.isW L i s=false):=by unfold Hid;rw[IW.out,Q3 hi 1,Bool.false_and]
  obtain⟨p,cap,rfl,h1,h2,h3⟩:=ht;have hi1:¬(i:Int) < (L.length:Int):=(by omega);generalize Pc.isW L i s=R at *;clear h3 IW;go_enter Tryz.func97,Tryz.ntmps97;go_wp2;go_ret;exact⟨qr RQ.out.symm,rfl⟩
theorem Jo(L:List Tk.T4)(v:Value)(i:Nat)(w:World)(ht:TkAt w L v)(hs:∀t∈ L,t.t.text.size≤9223372036854775807) :
 Calls Tryz.prog 96 #[v,.int .i64 i] w fun e w'=>e=.returned (.bool (Pc.nmd L i))∧Below w.heap.size w w':=by
 have IW:Hid (Pc.nmd L i=(Pc.kd L i 1 && yJ (Pc.tok L i).text)):=rfl;have KA:=hid (zA L v i 1 w ht)
 by_cases hb:Pc.kd L i 1=true
 ·have hi:i < L.length:=by
   apply Classical.byContradiction;intro q;rw[Q3 q 1] at hb;cases hb
  obtain⟨t,hq⟩:∃t,L[i]?=some t:=⟨_,List.getElem?_eq_getElem hi⟩;have TX:=hid (zw hq);have hts:=hs t (List.mem_of_getElem? hq);obtain⟨p,cap,rfl,h1,h2,h3⟩:=ht;obtain⟨g,O,rfl,c0,c1,c2,c3⟩:=TkAt.get ⟨p,cap,rfl,h1,h2,h3⟩ hq;have hi1:(i:Int) < (L.length:Int):=(by omega);have RQ:Hid (Pc.nmd L i=yJ t.t.text):=(by unfold Hid;rw[IW.out,hb,TX.out,Bool.true_and]);generalize Pc.nmd L i=R at *;rw[hb] at KA;clear h3 hq IW hs hb TX;go_enter Tryz.func96,Tryz.ntmps96
  go_wp2_with (first
   | (go_at_call 94;refine KA.out.mono ?_;rintro e w' ⟨rfl,rfl⟩)
   | (go_at_call 62;refine(zI t.t.text _ hts).mono ?_;rintro e w9 ⟨rfl,hb9⟩))
  go_ret;exact⟨qr RQ.out.symm,hb9⟩
 ·have hb0:Pc.kd L i 1=false:=by simpa using hb
  have RQ:Hid (Pc.nmd L i=false):=(by unfold Hid;rw[IW.out,hb0,Bool.false_and]);rw[hb0] at KA;generalize Pc.nmd L i=R at *;clear IW hs hb hb0;go_enter Tryz.func96,Tryz.ntmps96;go_wp2_with (go_at_call 94;refine KA.out.mono ?_;rintro e w' ⟨rfl,rfl⟩);go_ret;exact⟨qr RQ.out.symm,Below.refl _ _⟩
theorem jc(s:ByteArray)(w:World):Calls Tryz.prog 99 #[.string s] w fun e w'=>e=.returned (.int .i64 (Pc.scopeT s))∧w=w':=by
 have IW:Hid (Pc.scopeT s=if s=Pc.wDuty then 1 else if s=Pc.wRest then 2 else if s=Pc.wPairing then 3 else 0):=rfl;generalize Pc.scopeT s=R at *
 by_cases h1:s=Pc.wDuty
 ·subst h1;have RQ:Hid (R=1):=IW.out;clear IW;unfold Pc.wDuty;go_enter Tryz.func99,Tryz.ntmps99;go_wp2;go_ret;exact⟨qh RQ.out.symm,rfl⟩
 by_cases h2:s=Pc.wRest
 ·subst h2;have RQ:Hid (R=2):=IW.out;clear IW h1;unfold Pc.wRest;go_enter Tryz.func99,Tryz.ntmps99;go_wp2;go_ret;exact⟨qh RQ.out.symm,rfl⟩
 by_cases h3:s=Pc.wPairing
 ·subst h3;have RQ:Hid (R=3):=IW.out;clear IW h1 h2;unfold Pc.wPairing;go_enter Tryz.func99,Tryz.ntmps99;go_wp2;go_ret;exact⟨qh RQ.out.symm,rfl⟩
 have RQ:Hid (R=0):=by unfold Hid;rw[IW.out,if_neg h1,if_neg h2,if_neg h3]
 have tl:∀(l:List UInt8),s≠⟨⟨l⟩⟩→(s.toList==l)=false:=by
  intro l q;rw[beq_eq_false_iff_ne];intro e;rw[Lib.toList_data] at e;exact q (ByteArray.ext (Array.toList_inj.1 e))
 have n1:=tl _ h1;have n2:=tl _ h2;have n3:=tl _ h3;clear IW h1 h2 h3 tl;go_enter Tryz.func99,Tryz.ntmps99;go_wp2;go_ret;exact⟨qh RQ.out.symm,rfl⟩
end Go.Proofs.YtcejjdmnlejbaaaGreatDoor
