import Derived.Test.YtcejjdmnlejbaaaGreatDoorBTvF
import Derived.Test.YtcejjdmnlejbaaaGreatDoorBFpd
namespace Go.Proofs.YtcejjdmnlejbaaaGreatDoor
set_option linter.unusedVariables false
set_option linter.unusedSimpArgs false
open Go.ChangeShapes Go.WideShapes Go.ChangeAt Go.RowKit
def WT (s:ByteArray) (t:Tk.T3):Prop:=0 < s.size∧(∀ b ∈ s.data.toList,Tk.inW b=true)∧Tk.word s=some t
theorem wrd_num (n:Int) (h0:0≤n) (h1:n≤1099511627776):WT (itoaB n) ⟨2,⟨#[]⟩,n⟩:=by
 have e:(itoaB n).data.toList=Lib.decDigits n.toNat:=by unfold itoaB Lib.itoa;rw [if_neg (by omega)]
 have hd:=Txt.dec_allD n.toNat
 have hp:=dec_ne n.toNat
 have hz:(itoaB n).size=(Lib.decDigits n.toNat).length:=by rw [← len_atT,e]
 have hw:∀ b ∈ (itoaB n).data.toList,Tk.inW b=true:=by rw [e];exact fun b hb=>(allD_inW hd b hb).1
 refine ⟨by omega,hw,?_⟩
 have hlt:0 < (itoaB n).size:=by omega
 have g0:(itoaB n)[0] ∈ Lib.decDigits n.toNat:=by rw [← e,← getD_atT _ 0 hlt];exact getD_mem (by rw [len_atT];exact hlt)
 have f0:=allD_inW hd _ g0
 have hh:Tk.has (itoaB n).data.toList 58=false:=by
  rw [e];unfold Tk.has;rw [List.any_eq_false];intro b hb;simpa using (allD_inW hd b hb).2.1
 rw [word_num hlt (by omega) f0.2.2.2 hh,e]
 have hl:=Txt.dec_len_le n.toNat 13 (by omega) (by omega)
 have hv:Txt.num (Lib.decDigits n.toNat)=n:=by rw [Txt.dec_num];omega
 rw [numO_yes ⟨hp,hl,hd,?_,by rw [hv];exact h1⟩,hv]
 rintro ⟨q1,q2⟩
 by_cases hn:n.toNat=0
 · rw [hn] at q2
   have:=Txt.dec_len_le 0 1 (by omega) (by omega)
   omega
 · exact dec_head n.toNat (by omega) q1
theorem wrd_time (n:Int) (h0:0≤n) (h1:n≤1099511627776):WT (fuV n) ⟨3,⟨#[]⟩,n⟩:=by
 have hb:fuB n=true:=by unfold fuB;rw [decide_eq_true_eq];omega
 have ev:fuV n=fuS n:=by unfold fuV;rw [if_pos hb]
 rw [ev]
 obtain ⟨d1,d2⟩:=dur_back n hb
 have e:=fuS_list n
 rw [if_neg (by simp;omega),List.nil_append] at e
 have hA:absI n=n:=by unfold absI;rw [if_neg (by omega)]
 rw [hA] at e
 have hd:=Txt.dec_allD (n / 60).toNat
 have hpd:=Txt.pad_allD (n % 60).toNat 2
 have hp:=dec_ne (n / 60).toNat
 have i58:Tk.inW 58=true:=by decide
 have hw:∀ b ∈ (fuS n).data.toList,Tk.inW b=true:=by
  rw [e]
  intro b hb'
  rcases List.mem_append.1 hb' with q|q
  · exact (allD_inW hd b q).1
  · rcases List.mem_append.1 q with q|q
    · rw [List.mem_singleton.1 q];exact i58
    · exact (allD_inW hpd b q).1
 have hz:0 < (fuS n).size:=by rw [← len_atT,e,List.length_append];omega
 refine ⟨hz,hw,?_⟩
 have g0:(fuS n)[0] ∈ Lib.decDigits (n / 60).toNat:=by
  rw [← getD_atT _ 0 hz,e,List.getD_eq_getElem?_getD,List.getElem?_append_left (by omega),← List.getD_eq_getElem?_getD]
  exact getD_mem (by omega)
 have f0:=allD_inW hd _ g0
 have hh:Tk.has (fuS n).data.toList 58=true:=by
  rw [e];unfold Tk.has;rw [List.any_eq_true]
  exact ⟨58,List.mem_append.2 (.inr (List.mem_append.2 (.inl (List.mem_singleton.2 rfl)))),by decide⟩
 rw [word_time hz (by omega) f0.2.2.2 hh,if_pos d1,d2]
theorem wrd_clock (n:Int) (h0:0≤n) (h1:n≤1439):WT (⟨#[64]⟩++fcV n) ⟨4,⟨#[]⟩,n⟩:=by
 have hb:fcBK n=true:=by unfold fcBK;rw [decide_eq_true_eq];omega
 have ev:fcV n=fcS n:=by unfold fcV;rw [if_pos hb]
 rw [ev]
 obtain ⟨d1,d2⟩:=clock_back_all n hb
 have e:(⟨#[64]⟩++fcS n:ByteArray).data.toList=64 :: (fcS n).data.toList:=by rw [app_list];rfl
 have e2:=fcS_list n
 have i58:Tk.inW 58=true:=by decide
 have i64:Tk.inW 64=true:=by decide
 have hw:∀ b ∈ (⟨#[64]⟩++fcS n:ByteArray).data.toList,Tk.inW b=true:=by
  rw [e,e2]
  intro b hb'
  rcases List.mem_cons.1 hb' with rfl|q
  · exact i64
  · rcases List.mem_append.1 q with q|q
    · rcases List.mem_append.1 q with q|q
      · exact (allD_inW (Txt.pad_allD _ 2) b q).1
      · rw [List.mem_singleton.1 q];exact i58
    · exact (allD_inW (Txt.pad_allD _ 2) b q).1
 have hz:0 < (⟨#[64]⟩++fcS n:ByteArray).size:=by rw [← len_atT,e];simp
 refine ⟨hz,hw,?_⟩
 have g0:(⟨#[64]⟩++fcS n:ByteArray)[0].toNat=64:=by
  rw [← getD_atT _ 0 hz,e];rfl
 have ex:(⟨#[64]⟩++fcS n:ByteArray).extract 1 (⟨#[64]⟩++fcS n:ByteArray).size=fcS n:=by
  apply ByteArray.ext
  apply Array.toList_inj.1
  show ((⟨#[64]⟩++fcS n:ByteArray).extract 1 (⟨#[64]⟩++fcS n:ByteArray).size).data.toList=(fcS n).data.toList
  rw [ext_list,List.take_of_length_le (by rw [len_atT];exact Nat.le_refl _),e];rfl
 rw [word_clock hz g0,ex,if_pos d1,d2]
theorem vt_text {t:Tk.T4} (h:VT t.t):WT (tx t) t.t∨(t.t=⟨5,tx t,0⟩∧0 < (tx t).size∧Tk.sgn (tx t).data.toList=(tx t).size):=by
 obtain ⟨⟨k,x,n⟩,a⟩:=t
 unfold tx
 rcases h with ⟨h1,h2,h3,h4⟩|⟨h1,h2,h3,h4⟩|⟨h1,h2,h3,h4⟩|⟨h1,h2,h3,h4⟩
 · dsimp only at h1 h2 h3 h4 ⊢
   subst h1 h4
   have e:txtR 1 x 0=x:=by unfold txtR;rw [if_pos (.inl rfl)]
   rw [e]
   refine .inl ⟨?_,h2,h3⟩
   by_cases hz:x.size=0
   · rw [word_nil hz] at h3;cases h3
   · omega
 · dsimp only at h1 h2 h3 h4 ⊢
   subst h2
   rcases h1 with rfl|rfl
   · have e:txtR 2 ⟨#[]⟩ n=itoaB n:=by unfold txtR;rw [if_neg (by omega),if_pos rfl]
     rw [e];exact .inl (wrd_num n h3 h4)
   · have e:txtR 3 ⟨#[]⟩ n=fuV n:=by unfold txtR;rw [if_neg (by omega),if_neg (by omega),if_pos rfl]
     rw [e];exact .inl (wrd_time n h3 h4)
 · dsimp only at h1 h2 h3 h4 ⊢
   subst h1 h2
   have e:txtR 4 ⟨#[]⟩ n=⟨#[64]⟩++fcV n:=by unfold txtR;rw [if_neg (by omega),if_neg (by omega),if_neg (by omega),if_pos rfl]
   rw [e];exact .inl (wrd_clock n h3 h4)
 · dsimp only at h1 h2 h3 h4 ⊢
   subst h1 h4
   have e:txtR 5 x 0=x:=by unfold txtR;rw [if_pos (.inr rfl)]
   rw [e];exact .inr ⟨rfl,h2,h3⟩
theorem ext_dropT (S s:ByteArray) (i:Nat) (r:List UInt8) (h:S.data.toList.drop i=s.data.toList++r):S.extract i (i+s.size)=s:=by
 apply ByteArray.ext
 apply Array.toList_inj.1
 show (S.extract i (i+s.size)).data.toList=s.data.toList
 rw [ext_list,List.drop_take,show i+s.size - i=s.size by omega,h,List.take_append_of_le_length (by rw [len_atT];exact Nat.le_refl _),List.take_of_length_le (by rw [len_atT];exact Nat.le_refl _)]
theorem lt_of_drop {S:ByteArray} {i:Nat} {c:UInt8} {l:List UInt8} (h:S.data.toList.drop i=c :: l):i < S.size∧S.data.toList.getD i 0=c∧S.data.toList.drop (i+1)=l:=by
 have hl:=congrArg List.length h
 rw [List.length_drop,len_atT] at hl
 simp at hl
 refine ⟨by omega,by rw [← Tk.getD_drop,h];rfl,?_⟩
 rw [← List.drop_drop,h];rfl
theorem scan_blank {S:ByteArray} {i:Nat} {l:List UInt8} (D:List Tk.T4) (h:S.data.toList.drop i=32 :: l):Tk.scan S (S.size - i) i D=Tk.scan S (S.size - (i+1)) (i+1) D:=by
 obtain ⟨h1,h2,-⟩:=lt_of_drop h
 rw [Tk.scan_step S i D h1,h2,if_neg (by decide),if_pos (by decide)]
theorem scan_len (s:ByteArray):∀ (n i:Nat) (D:List Tk.T4),D.length≤400→(Tk.scan s n i D).1.length≤400:=by
 intro n
 induction n with
 | zero=>intro i D h;exact h
 | succ n ih =>
   intro i D h
   rw [Tk.scan]
   by_cases h1:s.size≤i
   · rw [if_pos h1];exact h
   · rw [if_neg h1]
     split
     · exact h
     · split
       · exact ih _ _ h
       · split
         · exact Nat.zero_le _
         · split
           · exact Nat.zero_le _
           · refine ih _ _ ?_
             rw [List.length_append];simp;omega
end Go.Proofs.YtcejjdmnlejbaaaGreatDoor
namespace Go.Proofs.YtcejjdmnlejbaaaGreatDoor
set_option linter.unusedVariables false
set_option linter.unusedSimpArgs false
open Go.Deep (BT)
namespace Fp
open Pz
def tb (t:Tk.T3):List UInt8:=(tx ⟨t,0⟩).data.toList
def pb (p:P):List UInt8:=if p.1=true then 32 :: tb p.2 else tb p.2
def bts (l:List P):List UInt8:=l.flatMap pb
def nb (a b:Tk.T3):Prop:=a=sg wMinus∨a=sg wOpen∨b=sg wOpen∨b=sg wShut∨b=sg wComma
def okL:List P→Prop
 | []=>True
 | [_]=>True
 | p :: q :: l=>(q.1=true∨nb p.2 q.2)∧okL (q :: l)
def Gp (r:List UInt8):Prop:=r=[]∨∃ c l,r=c :: l∧Tk.inW c=false∧c.toNat≠61
theorem wl_app2 (l r:List UInt8) (h:∀ b ∈ l,Tk.inW b=true) (hr:Gp r):Tk.wl (l++r)=l.length:=by
 induction l with
 | nil =>
   rcases hr with rfl|⟨c,l,rfl,h1,h2⟩
   · rfl
   · rw [List.nil_append,Tk.wl_cons,if_neg (by rw [h1];decide)];rfl
 | cons c l ih =>
   rw [List.cons_append,Tk.wl_cons,if_pos (h c (List.mem_cons_self ..)),ih (fun b hb=>h b (List.mem_cons_of_mem _ hb))]
   rfl
theorem sgn_app2 (l r:List UInt8) (h:Tk.sgn l=l.length) (hp:0 < l.length) (hr:Gp r):Tk.sgn (l++r)=l.length:=by
 unfold Tk.sgn at h
 by_cases h2:(l.getD 0 0).toNat=60∧(l.getD 1 0).toNat=61
 · rw [if_pos h2] at h
   match l,h,h2 with
   | [a,b],_,h2 =>
     unfold Tk.sgn
     exact if_pos h2
 · rw [if_neg h2] at h
   by_cases h1:1≤l.length∧Tk.inS (l.getD 0 0)=true
   · rw [if_pos h1] at h
     match l,h,h1 with
     | [a],_,h1 =>
       have hs:Tk.inS a=true:=h1.2
       unfold Tk.sgn
       rcases hr with rfl|⟨c,l,rfl,q1,q2⟩
       · exact (if_neg (fun q=>by have h9:(0:UInt8).toNat=61:=q.2;revert h9;decide)).trans (if_pos ⟨by simp,hs⟩)
       · exact (if_neg (fun q=>q2 q.2)).trans (if_pos ⟨by simp,hs⟩)
   · rw [if_neg h1] at h;omega
theorem sgn_one (a:UInt8) (r:List UInt8) (h1:a.toNat≠60) (h2:Tk.inS a=true):Tk.sgn (a :: r)=1:=by
 unfold Tk.sgn
 exact (if_neg (fun q=>h1 q.1)).trans (if_pos ⟨by simp,h2⟩)
theorem tok_at2 {S:ByteArray} {t:Tk.T3} {i:Nat} {r:List UInt8} (hv:VT t) (h:S.data.toList.drop i=tb t++r) (hr:Gp r∨t=sg wMinus∨t=sg wOpen) :
 Tk.tokAt S i=(some t,(tb t).length)∧(S.data.toList.getD i 0).toNat≠35∧(S.data.toList.getD i 0).toNat≠32∧0 < (tb t).length:=by
 have one:∀ (a:UInt8),t=sg ⟨#[a]⟩→a.toNat≠60→Tk.inS a=true→Tk.inW a=false→a.toNat≠35∧a.toNat≠32 →
  Tk.tokAt S i=(some t,(tb t).length)∧(S.data.toList.getD i 0).toNat≠35∧(S.data.toList.getD i 0).toNat≠32∧0 < (tb t).length:=by
  intro a ha a1 a2 a3 a4
  have e:tx ⟨t,0⟩=⟨#[a]⟩:=by rw [ha];rfl
  have e1:tb t=[a]:=by unfold tb;rw [e]
  rw [e1] at h ⊢
  have g:S.data.toList.getD i 0=a:=by rw [← Tk.getD_drop,h];rfl
  rw [g]
  refine ⟨?_,a4.1,a4.2,by simp⟩
  unfold Tk.tokAt
  have q:=ext_dropT S ⟨#[a]⟩ i r h
  rw [g,if_neg (by rw [a3];decide),h]
  show (if Tk.sgn (a :: r)=0 then none else some (⟨5,S.extract i (i+Tk.sgn (a :: r)),0⟩:Tk.T3),Tk.sgn (a :: r))=_
  rw [sgn_one a r a1 a2,if_neg (by decide),show i+1=i+(⟨#[a]⟩:ByteArray).size from rfl,q,ha]
  rfl
 rcases hr with hr|hr|hr
 · have g:S.data.toList.getD i 0=(tb t++r).getD 0 0:=by rw [← h,Tk.getD_drop]
   have g2:0 < (tb t).length→S.data.toList.getD i 0=(tb t).getD 0 0:=fun hp=>by
    rw [g,List.getD_eq_getElem?_getD,List.getElem?_append_left hp,← List.getD_eq_getElem?_getD]
   have hsz:(tx ⟨t,0⟩).size=(tb t).length:=(len_atT _).symm
   rcases vt_text (t:=⟨t,0⟩) hv with ⟨hp,hw,ho⟩|⟨he,hp,hs⟩
   · rw [hsz] at hp
     have h0:Tk.inW ((tb t).getD 0 0)=true:=hw _ (getD_mem hp)
     rw [g2 hp]
     refine ⟨?_,(inW_ne h0).2,(inW_ne h0).1,hp⟩
     unfold Tk.tokAt
     have wl2:Tk.wl (tb t++r)=(tb t).length:=wl_app2 (tb t) r hw hr
     rw [g2 hp,if_pos h0,h,wl2,← hsz,ext_dropT S (tx ⟨t,0⟩) i r h,ho]
   · rw [hsz] at hp hs
     have hb:=sgn_bytes hs hp
     have h0:Tk.inS ((tb t).getD 0 0)=true:=hb _ (getD_mem hp)
     rw [g2 hp]
     refine ⟨?_,(inS_ne h0).2.1,(inS_ne h0).1,hp⟩
     unfold Tk.tokAt
     have sg2:Tk.sgn (tb t++r)=(tb t).length:=sgn_app2 (tb t) r hs hp hr
     rw [g2 hp,if_neg (by rw [(inS_ne h0).2.2];simp),h,sg2,if_neg (by omega),← hsz,ext_dropT S (tx ⟨t,0⟩) i r h,← he]
 · exact one 45 hr (by decide) (by decide) (by decide) (by decide)
 · exact one 40 hr (by decide) (by decide) (by decide) (by decide)
theorem gp_of {p q:P} {l:List P} (hq:VT q.2) (h:q.1=true∨nb p.2 q.2):Gp (bts (q :: l))∨p.2=sg wMinus∨p.2=sg wOpen:=by
 unfold bts
 rw [List.flatMap_cons]
 unfold pb
 rcases h with h|h|h|h|h|h
 · rw [if_pos h]
   exact .inl (.inr ⟨32,_,rfl,by decide,by decide⟩)
 · exact .inr (.inl h)
 · exact .inr (.inr h)
 all_goals
  left
  right
  by_cases hb:q.1=true
  · rw [if_pos hb];exact ⟨32,_,rfl,by decide,by decide⟩
  · rw [if_neg hb,h];exact ⟨_,_,rfl,by decide,by decide⟩
theorem scan_pcs {S:ByteArray}:∀ (l:List P) (i:Nat) (A:List Tk.T4),(∀ p ∈ l,VT p.2)→okL l→S.data.toList.drop i=bts l →
 (A.length+l.length≤400→∃ E:List Tk.T4,E.map (fun t=>t.t)=l.map (fun p=>p.2)∧Tk.scan S (S.size - i) i A=(A++E,0,0)) ∧
 (A.length≤400→400 < A.length+l.length→∃ j,Tk.scan S (S.size - i) i A=([],j,10)):=by
 intro l
 induction l with
 | nil =>
   intro i A _ _ h
   have hj:=congrArg List.length h
   rw [List.length_drop,len_atT] at hj
   simp [bts] at hj
   refine ⟨fun _=>⟨[],rfl,by rw [List.append_nil];exact Tk.scan_end S i A (by omega)⟩,fun h1 h2=>by simp at h2;omega⟩
 | cons p l ih =>
   intro i A hv hok h
   have hvp:=hv p (List.mem_cons_self ..)
   have hvl:∀ q ∈ l,VT q.2:=fun q hq=>hv q (List.mem_cons_of_mem _ hq)
   have hokl:okL l:=by
    cases l with
    | nil=>trivial
    | cons q l=>exact hok.2
   have hr:Gp (bts l)∨p.2=sg wMinus∨p.2=sg wOpen:=by
    cases l with
    | nil=>exact .inl (.inl rfl)
    | cons q l=>exact gp_of (hvl q (List.mem_cons_self ..)) hok.1
   have e:bts (p :: l)=pb p++bts l:=by unfold bts;rw [List.flatMap_cons]
   rw [e] at h
   obtain ⟨j,hj,hs⟩:∃ j,S.data.toList.drop j=tb p.2++bts l∧∀ A:List Tk.T4,Tk.scan S (S.size - i) i A=Tk.scan S (S.size - j) j A:=by
    unfold pb at h
    by_cases hb:p.1=true
    · rw [if_pos hb,List.cons_append] at h
      exact ⟨i+1,(lt_of_drop h).2.2,fun A=>scan_blank A h⟩
    · rw [if_neg hb] at h
      exact ⟨i,h,fun A=>rfl⟩
   obtain ⟨h1,h2,h3,h4⟩:=tok_at2 hvp hj hr
   have hl:=congrArg List.length hj
   rw [List.length_drop,len_atT,List.length_append] at hl
   have nx:S.data.toList.drop (j+(tb p.2).length)=bts l:=by
    rw [← List.drop_drop,hj,List.drop_append_of_le_length (Nat.le_refl _),List.drop_of_length_le (Nat.le_refl _)]
    rfl
   have st:Tk.scan S (S.size - j) j A=if A.length=400 then ([],(j:Int),10) else Tk.scan S (S.size - (j+(tb p.2).length)) (j+(tb p.2).length) (A++[⟨p.2,(j:Int)⟩]):=by
    rw [Tk.scan_step S j A (by omega),if_neg h2,if_neg h3,h1]
   rw [hs A,st]
   obtain ⟨i1,i2⟩:=ih (j+(tb p.2).length) (A++[⟨p.2,(j:Int)⟩]) hvl hokl nx
   rw [List.length_append,List.length_singleton] at i1 i2
   rw [List.length_cons]
   constructor
   · intro hc
     rw [if_neg (by omega)]
     obtain ⟨E,e1,e2⟩:=i1 (by omega)
     exact ⟨⟨p.2,(j:Int)⟩ :: E,by rw [List.map_cons,List.map_cons,e1],by rw [e2,List.append_assoc];rfl⟩
   · intro hc hc2
     by_cases h0:A.length=400
     · rw [if_pos h0];exact ⟨_,rfl⟩
     · rw [if_neg h0];exact i2 (by omega) (by omega)
theorem scan_text (S:ByteArray) (l:List P) (hv:∀ p ∈ l,VT p.2) (hok:okL l) (h:S.data.toList=bts l) :
 (l.length≤400→∃ E:List Tk.T4,E.map (fun t=>t.t)=l.map (fun p=>p.2)∧Tk.scanT S=(E,0,0))∧(400 < l.length→∃ j,Tk.scanT S=([],j,10)):=by
 obtain ⟨h1,h2⟩:=scan_pcs (S:=S) l 0 [] hv hok (by rw [List.drop_zero];exact h)
 constructor
 · intro hl
   obtain ⟨E,e1,e2⟩:=h1 (by simpa using hl)
   exact ⟨E,e1,by rw [Nat.sub_zero,List.nil_append] at e2;exact e2⟩
 · intro hl
   obtain ⟨j,e⟩:=h2 (by simp) (by simpa using hl)
   exact ⟨j,by rw [Nat.sub_zero] at e;exact e⟩
end Fp
end Go.Proofs.YtcejjdmnlejbaaaGreatDoor
