import Derived.Test.YtcejjdmnlejbaaaGreatDoorBFpb
namespace Go.Proofs.YtcejjdmnlejbaaaGreatDoor
set_option linter.unusedVariables false
set_option linter.unusedSimpArgs false
open Go.Deep (BT)
namespace Fp
open Pz
section
variable {L:List Tk.T4} {i j k m:Nat} {x y z:Ch} {t:Tk.T3}
theorem sm_fc (h:Pr L .fc i x j) (h1:isw L j wStar=false) (h2:isw L j wSlash=false) (h3:isw L j wPlus=false) (h4:isw L j wMinus=false):Pr L .sm i x j:=sm_of (tm_of h h1 h2) h3 h4
theorem ng_fc (h:Pr L .fc i x j) (hn:isw L i wNot=false) (h1:isw L j wStar=false) (h2:isw L j wSlash=false) (h3:isw L j wPlus=false) (h4:isw L j wMinus=false) (h5:isw L j wLess=false) (h6:isw L j wLeq=false) (h7:isw L j wEq=false) (h8:isw L j wIn=false):Pr L .ng i x j:=ng_of (cm_of (sm_fc h h1 h2 h3 h4) h5 h6 h7 h8) hn
theorem ng_stp (h:Pr L .fc i x j) (hn:isw L i wNot=false) (s:Stp L j):Pr L .ng i x j:=ng_fc h hn s.star s.slash s.plus s.minus s.less s.leq s.eq s.in'
theorem bin_ex (op:Int) (hop:op=8∨op=9∨op=10∨op=11∨op=16∨op=17∨op=18∨op=20∨op=21∨op=22) (hx:Pr L .fc i x j) (hn:isw L i wNot=false) (ht:At L j (opW op)) (hy:Pr L .fc (j+1) y k) (hn2:isw L (j+1) wNot=false) (s:Stp L k):Pr L .ex i (tn op [x,y]) k:=by
 have q:∀ w b,isT (opW op) w=b→isw L j w=b:=fun w b e=>by rw [isw_eq ht];exact e
 rcases hop with rfl|rfl|rfl|rfl|rfl|rfl|rfl|rfl|rfl|rfl
 · exact ex_sm (sm_two 8 (tm_of hx (q _ _ (by decide)) (q _ _ (by decide))) (.inl ⟨rfl,q _ _ (by decide)⟩) (tm_of hy s.star s.slash) s) hn s
 · exact ex_sm (sm_two 9 (tm_of hx (q _ _ (by decide)) (q _ _ (by decide))) (.inr ⟨rfl,q _ _ (by decide),q _ _ (by decide)⟩) (tm_of hy s.star s.slash) s) hn s
 · exact ex_tm (tm_two 10 hx (.inl ⟨rfl,q _ _ (by decide)⟩) hy s) hn s
 · exact ex_tm (tm_two 11 hx (.inr ⟨rfl,q _ _ (by decide),q _ _ (by decide)⟩) hy s) hn s
 · exact ex_cm (cm_two 16 (sm_fc hx (q _ _ (by decide)) (q _ _ (by decide)) (q _ _ (by decide)) (q _ _ (by decide))) (.inl ⟨rfl,q _ _ (by decide)⟩) (sm_fc hy s.star s.slash s.plus s.minus)) hn s
 · exact ex_cm (cm_two 17 (sm_fc hx (q _ _ (by decide)) (q _ _ (by decide)) (q _ _ (by decide)) (q _ _ (by decide))) (.inr (.inl ⟨rfl,q _ _ (by decide),q _ _ (by decide)⟩)) (sm_fc hy s.star s.slash s.plus s.minus)) hn s
 · exact ex_cm (cm_two 18 (sm_fc hx (q _ _ (by decide)) (q _ _ (by decide)) (q _ _ (by decide)) (q _ _ (by decide))) (.inr (.inr ⟨rfl,q _ _ (by decide),q _ _ (by decide),q _ _ (by decide)⟩)) (sm_fc hy s.star s.slash s.plus s.minus)) hn s
 · exact ex_of (dj_of (cj_two (ng_fc hx hn (q _ _ (by decide)) (q _ _ (by decide)) (q _ _ (by decide)) (q _ _ (by decide)) (q _ _ (by decide)) (q _ _ (by decide)) (q _ _ (by decide)) (q _ _ (by decide))) (q _ _ (by decide)) (ng_stp hy hn2 s) s) s.or') s.imp
 · exact ex_of (dj_two (cj_of (ng_fc hx hn (q _ _ (by decide)) (q _ _ (by decide)) (q _ _ (by decide)) (q _ _ (by decide)) (q _ _ (by decide)) (q _ _ (by decide)) (q _ _ (by decide)) (q _ _ (by decide))) (q _ _ (by decide))) (q _ _ (by decide)) (cj_of (ng_stp hy hn2 s) s.and') s) s.imp
 · exact ex_two (dj_of (cj_of (ng_fc hx hn (q _ _ (by decide)) (q _ _ (by decide)) (q _ _ (by decide)) (q _ _ (by decide)) (q _ _ (by decide)) (q _ _ (by decide)) (q _ _ (by decide)) (q _ _ (by decide))) (q _ _ (by decide))) (q _ _ (by decide))) (q _ _ (by decide)) (ex_fc hy hn2 s)
end
def GoodC (c:Ch):Prop:=∀ (L:List Tk.T4) (i:Nat),i≤L.length →
 (Seg L i (I c)→Pr L .fc i (nr c) (i+(I c).length)∧isw L i wNot=false) ∧
 (Seg L i (F c)→Stp L (i+(F c).length)→Pr L .ex i (nr c) (i+(F c).length))
theorem nr_tn (c:Ch) (h1:c.a.num=0) (h2:c.a.name.size=0):nr c=tn c.a.op ((kl c.k).map nr):=by
 have e:c.a.name=⟨#[]⟩:=by
  apply ByteArray.ext
  apply Array.eq_empty_of_size_eq_zero
  exact h2
 show (⟨0,0,⟨c.a.op,c.a.num,c.a.name,none,0⟩,nrm c.k⟩:Ch)=⟨0,0,⟨c.a.op,0,⟨#[]⟩,none,0⟩,rowF ((kl c.k).map nr)⟩
 rw [h1,e,nrm_kl]
theorem good_of_ex (c:Ch) (hk:¬ (len c.k=0∨c.a.op=12∨c.a.op=13)) (hB:∀ (L:List Tk.T4) (i:Nat),i≤L.length→Seg L i (F c)→Stp L (i+(F c).length)→Pr L .ex i (nr c) (i+(F c).length)):GoodC c:=by
 intro L i hi
 refine ⟨fun hs=>?_,fun hs s=>hB L i hi hs s⟩
 have e:I c=(false,sg wOpen) :: (F c++[(false,sg wShut)]):=by unfold I tI;rw [if_neg hk]
 rw [e] at hs ⊢
 obtain ⟨h1,h2⟩:=seg_cons hs
 obtain ⟨h3,h4⟩:=seg_app h2
 obtain ⟨h5,-⟩:=seg_cons h4
 have l1:=At.lt h1
 have b:=hB L (i+1) (by omega) h3 (stp_shut h5)
 have r:=fc_paren h1 b h5
 refine ⟨?_,by rw [isw_eq h1];decide⟩
 rw [List.length_cons,List.length_append,List.length_singleton,show i+((F c).length+1+1)=i+1+(F c).length+1 by omega]
 exact r
theorem good_of_fc (c:Ch) (hk:len c.k=0∨c.a.op=12∨c.a.op=13) (hA:∀ (L:List Tk.T4) (i:Nat),i≤L.length→Seg L i (F c)→Pr L .fc i (nr c) (i+(F c).length)∧isw L i wNot=false):GoodC c:=by
 intro L i hi
 have e:I c=F c:=by unfold I tI;rw [if_pos hk]
 rw [e]
 refine ⟨fun hs=>hA L i hi hs,fun hs s=>?_⟩
 obtain ⟨h1,h2⟩:=hA L i hi hs
 exact ex_fc h1 h2 s
theorem tK_one {k:Fo} {x:Ch} (h:kl k=[x]):tK k=[(F x,I x)]:=by rw [tK_kl,h];rfl
theorem tK_two {k:Fo} {x y:Ch} (h:kl k=[x,y]):tK k=[(F x,I x),(F y,I y)]:=by rw [tK_kl,h];rfl
theorem tK_three {k:Fo} {x y z:Ch} (h:kl k=[x,y,z]):tK k=[(F x,I x),(F y,I y),(F z,I z)]:=by rw [tK_kl,h];rfl
theorem len_one {l:List Ch} (h:l.length=1):∃ x,l=[x]:=by
 match l,h with
 | [x],_=>exact ⟨x,rfl⟩
theorem len_two {l:List Ch} (h:l.length=2):∃ x y,l=[x,y]:=by
 match l,h with
 | [x,y],_=>exact ⟨x,y,rfl⟩
theorem len_three {l:List Ch} (h:l.length=3):∃ x y z,l=[x,y,z]:=by
 match l,h with
 | [x,y,z],_=>exact ⟨x,y,z,rfl⟩
theorem good_list (op:Int) {L:List Tk.T4}:∀ (l A:List Ch) (i:Nat),i≤L.length→l≠[]→2≤A.length+l.length→(∀ c ∈ l,GoodC c)→Seg L i (jnC (l.map fun c=>(F c,I c))++[(false,sg wShut)]) →
 Pr L (.liL op A) i (tn op (A++l.map nr)) (i+(jnC (l.map fun c=>(F c,I c))).length+1):=by
 intro l
 induction l with
 | nil=>intro A i _ h;exact absurd rfl h
 | cons c l ih =>
   intro A i hi _ hl hg hs
   cases l with
   | nil =>
     have e:jnC ([c].map fun c=>(F c,I c))=F c:=rfl
     rw [e] at hs ⊢
     obtain ⟨h1,h2⟩:=seg_app hs
     obtain ⟨h3,-⟩:=seg_cons h2
     have b:=(hg c (by simp) L i hi).2 h1 (stp_shut h3)
     have r:=li_last op A (by simp at hl;omega) b h3
     simpa using r
   | cons d l =>
     have e:jnC ((c :: d :: l).map fun c=>(F c,I c))=F c++(false,sg wComma) :: bl (jnC ((d :: l).map fun c=>(F c,I c))):=rfl
     rw [e,List.append_assoc,List.cons_append] at hs
     obtain ⟨h1,h2⟩:=seg_app hs
     obtain ⟨h3,h4⟩:=seg_cons h2
     have b:=(hg c (by simp) L i hi).2 h1 (stp_comma h3)
     have l3:=At.lt h3
     have h5:Seg L (i+(F c).length+1) (jnC ((d :: l).map fun c=>(F c,I c))++[(false,sg wShut)]):=by
      have q:bl (jnC ((d :: l).map fun c=>(F c,I c)))++[(false,sg wShut)]=bl (jnC ((d :: l).map fun c=>(F c,I c))++[(false,sg wShut)])∨jnC ((d :: l).map fun c=>(F c,I c))=[]:=by
       cases jnC ((d :: l).map fun c=>(F c,I c)) with
       | nil=>exact .inr rfl
       | cons p q=>exact .inl rfl
      rcases q with q|q
      · rw [q] at h4;exact seg_bl h4
      · rw [q] at h4 ⊢;exact h4
     have r:=ih (A++[nr c]) (i+(F c).length+1) (by omega) (by simp) (by simp at hl ⊢;omega) (fun x hx=>hg x (by simp only [List.mem_cons] at hx ⊢;exact .inr hx)) h5
     have r2:=li_more op A b h3 r
     rw [e,List.length_append,List.length_cons,bl_len,List.map_cons,show A++(nr c :: (d :: l).map nr)=A++[nr c]++(d :: l).map nr by simp,
      show i+((F c).length+((jnC ((d :: l).map fun c=>(F c,I c))).length+1))+1=i+(F c).length+1+(jnC ((d :: l).map fun c=>(F c,I c))).length+1 by omega]
     exact r2
end Fp
end Go.Proofs.YtcejjdmnlejbaaaGreatDoor
