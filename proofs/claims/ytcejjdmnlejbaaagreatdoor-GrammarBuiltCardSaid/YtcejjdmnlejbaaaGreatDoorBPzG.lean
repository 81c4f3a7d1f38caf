import Derived.Test.YtcejjdmnlejbaaaGreatDoorBPz
import Derived.Test.YtcejjdmnlejbaaaGreatDoorBTvt
namespace Go.Proofs.YtcejjdmnlejbaaaGreatDoor
set_option linter.unusedVariables false
set_option linter.unusedSimpArgs false
open Go.Deep (BT)
theorem vt_kinds {t:Tk.T3} (h:VT t):(t.kind=1∧t.text.size≤33∧t.num=0)∨(t.kind=2∧t.text=⟨#[]⟩∧0≤t.num∧t.num≤1099511627776)∨(t.kind=3∧t.text=⟨#[]⟩∧0≤t.num∧t.num≤1099511627776)∨(t.kind=4∧t.text=⟨#[]⟩∧0≤t.num∧t.num≤1439)∨(t.kind=5∧t.num=0):=by
 rcases h with ⟨h1,h2,h3,h4⟩|⟨h1,h2⟩|h|⟨h1,h2,h3,h4⟩
 · refine .inl ⟨h1,?_,h4⟩
   unfold Tk.word at h3
   split at h3
   · split at h3
     · cases h3
     · rename_i q;omega
   · split at h3
     · split at h3
       · have:=congrArg (fun o=>o.map (fun t:Tk.T3=>t.kind)) h3;simp at this
       · cases h3
     · split at h3
       · split at h3
         · have:=congrArg (fun o=>o.map (fun t:Tk.T3=>t.kind)) h3;simp at this
         · cases h3
       · split at h3
         · have:=congrArg (fun o=>o.map (fun t:Tk.T3=>t.kind)) h3;simp at this
         · cases h3
 · rcases h1 with h1|h1
   · exact .inr (.inl ⟨h1,h2⟩)
   · exact .inr (.inr (.inl ⟨h1,h2⟩))
 · exact .inr (.inr (.inr (.inl h)))
 · exact .inr (.inr (.inr (.inr ⟨h1,h4⟩)))
namespace Pz
theorem len_nrm (T:Fo):len (nrm T)=len T:=by
 induction T with
 | nil=>rfl
 | node b o a k r ihk ihr=>simp only [nrm,len,ihr]
theorem sz_nrm (T:Fo):sz (nrm T)=sz T:=by
 induction T with
 | nil=>rfl
 | node b o a k r ihk ihr=>simp only [nrm,sz,ihr,ihk]
theorem dp_nrm (T:Fo):dp (nrm T)=dp T:=by
 induction T with
 | nil=>rfl
 | node b o a k r ihk ihr=>simp only [nrm,dp,ihr,ihk]
theorem wfT_nrm (T:Fo):wfT (nrm T)=wfT T:=by
 induction T with
 | nil=>rfl
 | node b o a k r ihk ihr=>simp only [nrm,wfT,ihr,ihk,len_nrm];rfl
theorem ok_nrm (T:Fo):FoOk (nrm T)↔FoOk T:=by
 induction T with
 | nil=>exact Iff.rfl
 | node b o a k r ihk ihr=>simp only [nrm,FoOk,ihr,ihk,len_nrm];exact Iff.rfl
structure Gd (c:Ch):Prop where
 ok:ExOk c.a c.k
 wf:(wfB c.a (len c.k) && wfT c.k)=true
theorem val_nr (c:Ch):valE (nr c).a (nr c).k=valE c.a c.k:=by
 unfold valE nr fitB
 dsimp only
 rw [sz_nrm,dp_nrm,wfT_nrm,len_nrm]
 rfl
theorem Gd.of_nr {c x:Ch} (h:Gd x) (e:nr c=x):Gd c:=by
 subst e
 refine ⟨?_,?_⟩
 · have:=h.ok
   unfold nr ExOk NdOk at this
   dsimp only at this
   rw [len_nrm,ok_nrm] at this
   exact this
 · have:=h.wf
   unfold nr at this
   dsimp only at this
   rw [len_nrm,wfT_nrm] at this
   exact this
theorem Gd.val {c:Ch} (h:Gd c):valE c.a c.k=if fitB 0 1 c.k=true then 0 else 10:=by
 unfold valE
 rw [if_pos h.wf]
theorem gd_lf (op num:Int) (s:ByteArray) (h:wfB ⟨op,num,s,none,0⟩ 0=true) (hb:0≤num∧num≤1099511627776) (hop:1≤op∧op≤22) (hs:s.size≤33):Gd (lf op num s):=by
 refine ⟨⟨⟨by dsimp only [lf];omega,by dsimp only [lf];omega,by dsimp only [lf];omega,by simp [lf,len]⟩,trivial⟩,?_⟩
 show (wfB ⟨op,num,s,none,0⟩ 0 && true)=true
 rw [h];rfl
theorem gd_leaf {t:Tk.T3} (ht:VT t) {x:Ch} (h:leafT t=some x):Gd x:=by
 unfold leafT at h
 rcases vt_kinds ht with ⟨h1,h2,h3⟩|⟨h1,h2,h3,h4⟩|⟨h1,h2,h3,h4⟩|⟨h1,h2,h3,h4⟩|⟨h1,h2⟩
 · rw [if_neg (by omega),if_neg (by omega),if_neg (by omega),if_pos h1] at h
   split at h
   · rename_i ha
     obtain rfl:=Option.some.inj h
     refine gd_lf 6 0 _ ?_ (by omega) (by omega) h2
     unfold wfB argB numB namB
     simp [ha]
   · cases h
 · rw [if_pos h1] at h
   obtain rfl:=Option.some.inj h
   refine gd_lf 1 _ _ ?_ (by omega) (by omega) (by show (0:Nat)≤33;omega)
   unfold wfB argB numB namB
   have e:(⟨#[]⟩:ByteArray).size=0:=rfl
   simp [h3,h4,e]
 · rw [if_neg (by omega),if_pos h1] at h
   obtain rfl:=Option.some.inj h
   refine gd_lf 2 _ _ ?_ (by omega) (by omega) (by show (0:Nat)≤33;omega)
   unfold wfB argB numB namB
   have e:(⟨#[]⟩:ByteArray).size=0:=rfl
   simp [h3,h4,e]
 · rw [if_neg (by omega),if_neg (by omega),if_pos h1] at h
   obtain rfl:=Option.some.inj h
   refine gd_lf 3 _ _ ?_ (by omega) (by omega) (by show (0:Nat)≤33;omega)
   unfold wfB argB numB namB
   have e:(⟨#[]⟩:ByteArray).size=0:=rfl
   simp [h3,h4,e]
 · rw [if_neg (by omega),if_neg (by omega),if_neg (by omega),if_neg (by omega)] at h
   cases h
theorem rowF_ok (l:List Ch) (h:∀ c ∈ l,Gd c):FoOk (rowF l)∧wfT (rowF l)=true:=by
 induction l with
 | nil=>exact ⟨trivial,rfl⟩
 | cons c l ih =>
   obtain ⟨h1,h2⟩:=ih fun d hd=>h d (by simp [hd])
   have hc:=h c (by simp)
   exact ⟨⟨hc.ok.1,hc.ok.2,h1⟩,by show ((wfB c.a (len c.k) && wfT c.k) && wfT (rowF l))=true;rw [hc.wf,h2];rfl⟩
theorem gd_node (op:Int) (l:List Ch) (h:∀ c ∈ l,Gd c) (hop:7≤op∧op≤22) (hw:argB op l.length=true) (hl:l.length≤9223372036854775807):Gd (tn op l):=by
 obtain ⟨h1,h2⟩:=rowF_ok l h
 have h6:¬ op=6:=by omega
 refine ⟨⟨⟨by dsimp only [tn];omega,by dsimp only [tn];omega,Nat.zero_le _,by dsimp only [tn];rw [rowF_len];omega⟩,h1⟩,?_⟩
 show (wfB ⟨op,0,⟨#[]⟩,none,0⟩ (len (rowF l)) && wfT (rowF l))=true
 rw [h2,Bool.and_true,rowF_len]
 unfold wfB
 dsimp only
 have q1:numB op 0=true:=by unfold numB;rw [if_neg (by omega),if_neg (by omega)];rfl
 have q2:namB op ⟨#[]⟩=true:=by unfold namB;rw [if_neg h6];rfl
 rw [hw,q1,q2]
 simp;omega
theorem gd1 (op:Int) (x:Ch) (h:Gd x) (hop:7≤op∧op≤22) (hw:argB op 1=true):Gd (tn op [x]):=gd_node op [x] (by intro c hc;simp only [List.mem_cons,List.not_mem_nil,or_false] at hc;rw [hc];exact h) hop hw (by simp)
theorem gd2 (op:Int) (x y:Ch) (h:Gd x) (k:Gd y) (hop:7≤op∧op≤22) (hw:argB op 2=true):Gd (tn op [x,y]):=gd_node op [x,y] (by intro c hc;simp only [List.mem_cons,List.not_mem_nil,or_false] at hc;rcases hc with e|e;rw [e];exact h;rw [e];exact k) hop hw (by simp)
theorem gd3 (op:Int) (x y z:Ch) (h:Gd x) (k:Gd y) (m:Gd z) (hop:7≤op∧op≤22) (hw:argB op 3=true):Gd (tn op [x,y,z]):=gd_node op [x,y,z] (by intro c hc;simp only [List.mem_cons,List.not_mem_nil,or_false] at hc;rcases hc with e|e|e;rw [e];exact h;rw [e];exact k;rw [e];exact m) hop hw (by simp)
def GR (r:R):Prop:=∀ x,r.1=some x→Gd x
theorem gr_none (j:Nat):GR (none,j):=fun x h=>by cases h
theorem gr_some {x:Ch} (j:Nat) (h:Gd x):GR (some x,j):=fun y e=>by cases e;exact h
theorem gr_bnd {L:List Tk.T4} {i p:Nat} {r:R} {g:Ch→Nat→R} (ho:Ok L i r p) (hr:GR r) (hg:∀ x j,Gd x→i+p≤j→j≤L.length→GR (g x j)):GR (bnd r g):=by
 obtain ⟨o,j⟩:=r
 cases o with
 | none=>exact gr_none j
 | some x=>exact hg x j (hr x rfl) (ho.2.2 rfl) ho.2.1
theorem gr_if {c:Prop} [Decidable c] {a b:R} (h:c→GR a) (k:¬ c→GR b):GR (if c then a else b):=by
 by_cases q:c
 · rw [if_pos q];exact h q
 · rw [if_neg q];exact k q
theorem gr_leaf {L:List Tk.T4} (hV:∀ t ∈ L,VT t.t) (i:Nat):GR (leaf L i):=by
 unfold leaf
 split
 · rename_i t ht
   split
   · rename_i x hx
     exact gr_some _ (gd_leaf (hV t (List.mem_of_getElem? ht)) hx)
   · exact gr_none _
 · exact gr_none _
def GN (L:List Tk.T4):NT→Nat→Prop
 | .djL x,_=>Gd x|.cjL x,_=>Gd x|.smL x,_=>Gd x|.tmL x,_=>Gd x|.bd x,_=>Gd x
 | .li op,_=>op=12∨op=13
 | .liL op l,i=>(op=12∨op=13)∧(∀ c ∈ l,Gd c)∧l.length≤i
 | _,_=>True
theorem step_gr {L:List Tk.T4} {f:NT→Nat→R} (hV:∀ t ∈ L,VT t.t) (hL:L.length≤400) (hf:Adv L f) (hg:∀ nt i,i≤L.length→GN L nt i→GR (f nt i)) (nt:NT) (i:Nat) (hi:i≤L.length) (hn:GN L nt i):GR (step L f nt i):=by
 have one:∀ nt i,i≤L.length→ps nt=1→Ok L i (f nt i) 1:=fun nt i h e=>by have:=hf nt i h;rwa [e] at this
 cases nt
 case liL op l =>
  obtain ⟨h1,h2,h3⟩:=hn
  unfold step
  refine gr_bnd (one _ _ hi rfl) (hg _ _ hi trivial) fun x j hx hj hl=>?_
  have hm:∀ c ∈ l++[x],Gd c:=fun c hc=>by
   rcases List.mem_append.1 hc with hc|hc
   · exact h2 c hc
   · simp only [List.mem_cons,List.not_mem_nil,or_false] at hc;rw [hc];exact hx
  refine gr_if (fun hw=>gr_some _ (gd_node op _ hm (by omega) ?_ (by rw [List.length_append];show l.length+1≤_;omega))) fun hw=>gr_if (fun hc=>hg _ _ (isw_lt hc) ⟨h1,hm,by rw [List.length_append];show l.length+1≤_;omega⟩) fun _=>gr_none _
  rw [List.length_append]
  unfold argB
  have h4:1≤l.length:=hw.1
  have e:((l.length+[x].length:Nat):Int)=(l.length:Int)+1:=by simp
  rw [e,if_neg (by omega),if_neg (by omega),if_pos h1,decide_eq_true_eq]
  omega
 all_goals
  unfold step
  dsimp only [GN] at hn
  dsimp only
  repeat' (first
   | exact gr_none _
   | exact gr_leaf hV _
   | (refine gr_if (fun hw=>?_) (fun hw=>?_);(try have hl:=isw_lt hw);clear hw)
   | (refine gr_bnd (p:=1) (one _ _ (by omega) rfl) (hg _ _ (by omega) trivial) fun x j hx h1 h2=>?_)
   | exact gr_some _ (by assumption)
   | exact gr_some _ (gd1 _ _ (by assumption) (by omega) (by decide))
   | exact gr_some _ (gd2 _ _ _ (by assumption) (by assumption) (by omega) (by decide))
   | exact gr_some _ (gd3 _ _ _ _ (by assumption) (by assumption) (by assumption) (by omega) (by decide))
   | exact gr_some _ (gd_lf _ _ _ (by decide) (by omega) (by omega) (by decide))
   | exact hg _ _ (by omega) trivial
   | exact hg _ _ (by omega) (by assumption)
   | exact hg _ _ (by omega) (gd2 _ _ _ (by assumption) (by assumption) (by omega) (by decide))
   | exact hg _ _ (by omega) (.inl rfl)
   | exact hg _ _ (by omega) (.inr rfl)
   | exact hg _ _ (by omega) ⟨hn,(fun c hc=>by cases hc),Nat.zero_le _⟩)
theorem pz_gr {L:List Tk.T4} (hV:∀ t ∈ L,VT t.t) (hL:L.length≤400):∀ n nt i,i≤L.length→GN L nt i→GR (pz L n nt i)
 | 0,_,i,_,_=>gr_none i
 | n+1,nt,i,hi,hn=>step_gr hV hL (pz_adv L n) (pz_gr hV hL n) nt i hi hn
theorem ex_good {L:List Tk.T4} (hV:∀ t ∈ L,VT t.t) (hL:L.length≤400) {x:Ch} {j:Nat} (h:pv L .ex 0=(some x,j)):Gd x:=pz_gr hV hL _ .ex 0 (Nat.zero_le _) trivial x (by show (pv L .ex 0).1=_;rw [h])
end Pz
end Go.Proofs.YtcejjdmnlejbaaaGreatDoor
