import Derived.Test.YtcejjdmnlejbaaaGreatDoorBFpc
namespace Go.Proofs.YtcejjdmnlejbaaaGreatDoor
set_option linter.unusedVariables false
set_option linter.unusedSimpArgs false
open Go.Deep (BT)
namespace Fp
open Pz
theorem lz0 {k:Fo} (h:len k=0):k=.nil:=by
 cases k with
 | nil=>rfl
 | node b o a k r=>simp [len] at h
theorem fst_not {L:List Tk.T4} {i:Nat} {t:Tk.T3} (h:At L i t) (e:isT t wNot=false):isw L i wNot=false:=by rw [isw_eq h];exact e
theorem good_leaf (c:Ch) (t:Tk.T3) (hk:len c.k=0) (hF:F c=[(false,t)]) (hl:leafT t=some (nr c)) (h:∀ w ∈ [wMinus,wTrue,wFalse,wMin,wMax,wIf,wOpen,wNot],isT t w=false):GoodC c:=by
 refine good_of_fc c (.inl hk) fun L i hi hs=>?_
 rw [hF] at hs ⊢
 obtain ⟨h1,-⟩:=seg_cons hs
 exact ⟨fc_leaf h1 (h _ (by simp)) (h _ (by simp)) (h _ (by simp)) (h _ (by simp)) (h _ (by simp)) (h _ (by simp)) (h _ (by simp)) hl,fst_not h1 (h _ (by simp))⟩
theorem nr_leaf (c:Ch) (hk:len c.k=0) (h2:c.a.name.size=0):nr c=lf c.a.op c.a.num ⟨#[]⟩:=by
 have e:c.a.name=⟨#[]⟩:=by
  apply ByteArray.ext
  apply Array.eq_empty_of_size_eq_zero
  exact h2
 have ek:c.k=.nil:=lz0 hk
 show (⟨0,0,⟨c.a.op,c.a.num,c.a.name,none,0⟩,nrm c.k⟩:Ch)=⟨0,0,⟨c.a.op,c.a.num,⟨#[]⟩,none,0⟩,.nil⟩
 rw [e,ek]
 rfl
theorem tF_eq (c:Ch) (n:Int) (h:c.a.op=n):F c=tF ⟨n,c.a.num,c.a.name,c.a.ptr,c.a.cap⟩ (tK c.k):=by
 unfold F
 rw [← h]
theorem good_node (c:Ch) (hw:wfB c.a (len c.k)=true) (hg:∀ x ∈ kl c.k,GoodC x):GoodC c:=by
 unfold wfB at hw
 rw [Bool.and_eq_true,Bool.and_eq_true,Bool.and_eq_true,decide_eq_true_eq] at hw
 obtain ⟨⟨⟨⟨o1,o2⟩,ha⟩,hn⟩,hm⟩:=hw
 have hkl:=kl_len c.k
 unfold argB at ha
 unfold numB at hn
 unfold namB at hm
 have hop:c.a.op=1∨c.a.op=2∨c.a.op=3∨c.a.op=4∨c.a.op=5∨c.a.op=6∨c.a.op=7∨c.a.op=19∨c.a.op=12∨c.a.op=13∨c.a.op=14∨c.a.op=15 ∨
  (c.a.op=8∨c.a.op=9∨c.a.op=10∨c.a.op=11∨c.a.op=16∨c.a.op=17∨c.a.op=18∨c.a.op=20∨c.a.op=21∨c.a.op=22):=by omega
 rcases hop with h|h|h|h|h|h|h|h|h|h|h|h|h
 · rw [h] at ha hn hm
   have k0:len c.k=0:=by have:=of_decide_eq_true ha;omega
   have nm:c.a.name.size=0:=of_decide_eq_true hm
   refine good_leaf c ⟨2,⟨#[]⟩,c.a.num⟩ k0 (by rw [tF_eq c 1 h];rfl) ?_ (fun w _=>rfl)
   rw [nr_leaf c k0 nm,h];rfl
 · rw [h] at ha hn hm
   have k0:len c.k=0:=by have:=of_decide_eq_true ha;omega
   have nm:c.a.name.size=0:=of_decide_eq_true hm
   refine good_leaf c ⟨3,⟨#[]⟩,c.a.num⟩ k0 (by rw [tF_eq c 2 h];rfl) ?_ (fun w _=>rfl)
   rw [nr_leaf c k0 nm,h];rfl
 · rw [h] at ha hn hm
   have k0:len c.k=0:=by have:=of_decide_eq_true ha;omega
   have nm:c.a.name.size=0:=of_decide_eq_true hm
   refine good_leaf c ⟨4,⟨#[]⟩,c.a.num⟩ k0 (by rw [tF_eq c 3 h];rfl) ?_ (fun w _=>rfl)
   rw [nr_leaf c k0 nm,h];rfl
 · rw [h] at ha hn hm
   have k0:len c.k=0:=by have:=of_decide_eq_true ha;omega
   have nm:c.a.name.size=0:=of_decide_eq_true hm
   have n0:c.a.num=0:=of_decide_eq_true hn
   refine good_of_fc c (.inl k0) fun L i hi hs=>?_
   rw [tF_eq c 4 h] at hs ⊢
   obtain ⟨h1,-⟩:=seg_cons (p:=(false,wd wTrue)) (l:=[]) hs
   rw [nr_leaf c k0 nm,h,n0]
   exact ⟨fc_true h1,fst_not h1 (by decide)⟩
 · rw [h] at ha hn hm
   have k0:len c.k=0:=by have:=of_decide_eq_true ha;omega
   have nm:c.a.name.size=0:=of_decide_eq_true hm
   have n0:c.a.num=0:=of_decide_eq_true hn
   refine good_of_fc c (.inl k0) fun L i hi hs=>?_
   rw [tF_eq c 5 h] at hs ⊢
   obtain ⟨h1,-⟩:=seg_cons (p:=(false,wd wFalse)) (l:=[]) hs
   rw [nr_leaf c k0 nm,h,n0]
   exact ⟨fc_false h1,fst_not h1 (by decide)⟩
 · rw [h] at ha hn hm
   have k0:len c.k=0:=by have:=of_decide_eq_true ha;omega
   have hat:attrS c.a.name=true:=hm
   have n0:c.a.num=0:=of_decide_eq_true hn
   refine good_leaf c (wd c.a.name) k0 (by rw [tF_eq c 6 h];rfl) ?_ (fun w hw=>attr_ne hat ?_)
   · show (if attrS c.a.name=true then some (lf 6 0 c.a.name) else none)=_
     rw [if_pos hat]
     have ek:c.k=.nil:=lz0 k0
     show some _=some (⟨0,0,⟨c.a.op,c.a.num,c.a.name,none,0⟩,nrm c.k⟩:Ch)
     rw [h,n0,ek]
     rfl
   · simp only [List.mem_cons,List.not_mem_nil,or_false] at hw
     rcases hw with rfl|rfl|rfl|rfl|rfl|rfl|rfl|rfl
     · exact .inr (by decide)
     · exact .inl (by decide)
     · exact .inl (by decide)
     · exact .inl (by decide)
     · exact .inl (by decide)
     · exact .inl (by decide)
     · exact .inr (by decide)
     · exact .inl (by decide)
 · rw [h] at ha hn hm
   have k1:len c.k=1:=by have:=of_decide_eq_true ha;omega
   have nm:c.a.name.size=0:=of_decide_eq_true hm
   have n0:c.a.num=0:=of_decide_eq_true hn
   obtain ⟨x,hx⟩:=len_one (hkl.trans k1)
   have gx:=hg x (by rw [hx];simp)
   refine good_of_ex c (by omega) fun L i hi hs s=>?_
   have e:F c=(false,sg wMinus) :: I x:=by rw [tF_eq c 7 h,tK_one hx];rfl
   rw [e] at hs s ⊢
   obtain ⟨h1,h2⟩:=seg_cons hs
   have l1:=At.lt h1
   rw [nr_tn c n0 nm,h,hx]
   rw [List.length_cons,show i+((I x).length+1)=i+1+(I x).length by omega] at s ⊢
   exact ex_fc (fc_neg h1 ((gx L (i+1) (by omega)).1 h2).1) (fst_not h1 (by decide)) s
 · rw [h] at ha hn hm
   have k1:len c.k=1:=by have:=of_decide_eq_true ha;omega
   have nm:c.a.name.size=0:=of_decide_eq_true hm
   have n0:c.a.num=0:=of_decide_eq_true hn
   obtain ⟨x,hx⟩:=len_one (hkl.trans k1)
   have gx:=hg x (by rw [hx];simp)
   refine good_of_ex c (by omega) fun L i hi hs s=>?_
   have e:F c=(false,wd wNot) :: bl (I x):=by rw [tF_eq c 19 h,tK_one hx];rfl
   rw [e] at hs s ⊢
   obtain ⟨h1,h2⟩:=seg_cons hs
   have l1:=At.lt h1
   rw [nr_tn c n0 nm,h,hx]
   rw [List.length_cons,bl_len,show i+((I x).length+1)=i+1+(I x).length by omega] at s ⊢
   obtain ⟨q1,q2⟩:=(gx L (i+1) (by omega)).1 (seg_bl h2)
   exact ex_ng (ng_not (by rw [isw_eq h1];decide) (ng_stp q1 q2 s)) s
 · rw [h] at ha hn hm
   have k2:2≤len c.k:=by have:=of_decide_eq_true ha;omega
   have nm:c.a.name.size=0:=of_decide_eq_true hm
   have n0:c.a.num=0:=of_decide_eq_true hn
   refine good_of_fc c (.inr (.inl h)) fun L i hi hs=>?_
   have e:F c=(false,wd wMin) :: (false,sg wOpen) :: (jnC ((kl c.k).map fun c=>(F c,I c))++[(false,sg wShut)]):=by rw [tF_eq c 12 h,tK_kl];rfl
   rw [e] at hs ⊢
   obtain ⟨h1,h2⟩:=seg_cons hs
   obtain ⟨h3,h4⟩:=seg_cons h2
   have l3:=At.lt h3
   have r:=good_list 12 (kl c.k) [] (i+2) (by omega) (by intro q;rw [q] at hkl;simp at hkl;omega) (by simp;omega) hg h4
   refine ⟨?_,fst_not h1 (by decide)⟩
   rw [nr_tn c n0 nm,h]
   have r2:=fc_list 12 wMin (.inl ⟨rfl,rfl⟩) h1 h3 r
   rw [List.nil_append] at r2
   simp only [List.length_cons,List.length_append,List.length_nil] at r2 ⊢
   rw [show ∀ n,i+(n+(0+1)+1+1)=i+2+n+1 from fun n=>by omega]
   exact r2
 · rw [h] at ha hn hm
   have k2:2≤len c.k:=by have:=of_decide_eq_true ha;omega
   have nm:c.a.name.size=0:=of_decide_eq_true hm
   have n0:c.a.num=0:=of_decide_eq_true hn
   refine good_of_fc c (.inr (.inr h)) fun L i hi hs=>?_
   have e:F c=(false,wd wMax) :: (false,sg wOpen) :: (jnC ((kl c.k).map fun c=>(F c,I c))++[(false,sg wShut)]):=by rw [tF_eq c 13 h,tK_kl];rfl
   rw [e] at hs ⊢
   obtain ⟨h1,h2⟩:=seg_cons hs
   obtain ⟨h3,h4⟩:=seg_cons h2
   have l3:=At.lt h3
   have r:=good_list 13 (kl c.k) [] (i+2) (by omega) (by intro q;rw [q] at hkl;simp at hkl;omega) (by simp;omega) hg h4
   refine ⟨?_,fst_not h1 (by decide)⟩
   rw [nr_tn c n0 nm,h]
   have r2:=fc_list 13 wMax (.inr ⟨rfl,rfl⟩) h1 h3 r
   rw [List.nil_append] at r2
   simp only [List.length_cons,List.length_append,List.length_nil] at r2 ⊢
   rw [show ∀ n,i+(n+(0+1)+1+1)=i+2+n+1 from fun n=>by omega]
   exact r2
 · rw [h] at ha hn hm
   have k3:len c.k=3:=by have:=of_decide_eq_true ha;omega
   have nm:c.a.name.size=0:=of_decide_eq_true hm
   have n0:c.a.num=0:=of_decide_eq_true hn
   obtain ⟨x,y,z,hx⟩:=len_three (hkl.trans k3)
   have gx:=hg x (by rw [hx];simp)
   have gy:=hg y (by rw [hx];simp)
   have gz:=hg z (by rw [hx];simp)
   refine good_of_ex c (by omega) fun L i hi hs s=>?_
   have e:F c=(false,wd wIf) :: (bl (F x)++(true,wd wThen) :: (bl (F y)++(true,wd wElse) :: bl (F z))):=by rw [tF_eq c 14 h,tK_three hx];rfl
   rw [e] at hs s ⊢
   obtain ⟨h1,h2⟩:=seg_cons hs
   obtain ⟨h3,h4⟩:=seg_app h2
   rw [bl_len] at h4
   obtain ⟨h5,h6⟩:=seg_cons h4
   obtain ⟨h7,h8⟩:=seg_app h6
   rw [bl_len] at h8
   obtain ⟨h9,h10⟩:=seg_cons h8
   have l1:=At.lt h1
   have l5:=At.lt h5
   have l9:=At.lt h9
   rw [nr_tn c n0 nm,h,hx]
   simp only [List.length_cons,List.length_append,bl_len] at s ⊢
   rw [show i+((F x).length+((F y).length+((F z).length+1)+1)+1)=i+1+(F x).length+1+(F y).length+1+(F z).length by omega] at s ⊢
   exact ex_fc (fc_if h1 ((gx L (i+1) (by omega)).2 (seg_bl h3) (stp_then h5)) h5 ((gy L _ (by omega)).2 (seg_bl h7) (stp_else h9)) h9 ((gz L _ (by omega)).2 (seg_bl h10) s)) (fst_not h1 (by decide)) s
 · rw [h] at ha hn hm
   have k3:len c.k=3:=by have:=of_decide_eq_true ha;omega
   have nm:c.a.name.size=0:=of_decide_eq_true hm
   have n0:c.a.num=0:=of_decide_eq_true hn
   obtain ⟨x,y,z,hx⟩:=len_three (hkl.trans k3)
   have gx:=hg x (by rw [hx];simp)
   have gy:=hg y (by rw [hx];simp)
   have gz:=hg z (by rw [hx];simp)
   refine good_of_ex c (by omega) fun L i hi hs s=>?_
   have e:F c=I x++(true,wd wIn) :: (bl (I y)++(true,wd wTo) :: bl (I z)):=by rw [tF_eq c 15 h,tK_three hx];rfl
   rw [e] at hs s ⊢
   obtain ⟨h3,h4⟩:=seg_app hs
   obtain ⟨h5,h6⟩:=seg_cons h4
   obtain ⟨h7,h8⟩:=seg_app h6
   rw [bl_len] at h8
   obtain ⟨h9,h10⟩:=seg_cons h8
   have l5:=At.lt h5
   have l9:=At.lt h9
   rw [nr_tn c n0 nm,h,hx]
   simp only [List.length_cons,List.length_append,bl_len] at s ⊢
   rw [show i+((I x).length+((I y).length+((I z).length+1)+1))=i+(I x).length+1+(I y).length+1+(I z).length by omega] at s ⊢
   obtain ⟨x1,x2⟩:=(gx L i hi).1 h3
   obtain ⟨y1,y2⟩:=(gy L _ (by omega)).1 (seg_bl h7)
   obtain ⟨z1,z2⟩:=(gz L _ (by omega)).1 (seg_bl h10)
   have q:∀ w b,isT (wd wIn) w=b→isw L (i+(I x).length) w=b:=fun w b e=>by rw [isw_eq h5];exact e
   have r:∀ w b,isT (wd wTo) w=b→isw L (i+(I x).length+1+(I y).length) w=b:=fun w b e=>by rw [isw_eq h9];exact e
   exact ex_cm (cm_in (sm_fc x1 (q _ _ (by decide)) (q _ _ (by decide)) (q _ _ (by decide)) (q _ _ (by decide))) (q _ _ (by decide)) (q _ _ (by decide)) (q _ _ (by decide)) (q _ _ (by decide)) (sm_fc y1 (r _ _ (by decide)) (r _ _ (by decide)) (r _ _ (by decide)) (r _ _ (by decide))) (r _ _ (by decide)) (sm_fc z1 s.star s.slash s.plus s.minus)) x2 s
 · have n1:¬ (1≤c.a.op∧c.a.op≤6):=by omega
   have n2:¬ (c.a.op=7∨c.a.op=19):=by omega
   have n3:¬ (c.a.op=12∨c.a.op=13):=by omega
   have n4:¬ (c.a.op=14∨c.a.op=15):=by omega
   rw [if_neg n1,if_neg n2,if_neg n3,if_neg n4] at ha
   rw [if_neg (by omega),if_neg (by omega)] at hn
   rw [if_neg (by omega)] at hm
   have k2:len c.k=2:=by have:=of_decide_eq_true ha;omega
   have nm:c.a.name.size=0:=of_decide_eq_true hm
   have n0:c.a.num=0:=of_decide_eq_true hn
   obtain ⟨x,y,hx⟩:=len_two (hkl.trans k2)
   have gx:=hg x (by rw [hx];simp)
   have gy:=hg y (by rw [hx];simp)
   refine good_of_ex c (by omega) fun L i hi hs s=>?_
   have e:F c=I x++(true,opW c.a.op) :: bl (I y):=by
    unfold F tF
    rw [tK_two hx]
    rw [if_neg (by omega),if_neg (by omega),if_neg (by omega),if_neg (by omega),if_neg (by omega),if_neg (by omega),if_neg (by omega),if_neg (by omega),if_neg (by omega),if_neg (by omega),if_neg (by omega),if_neg (by omega)]
    rfl
   rw [e] at hs s ⊢
   obtain ⟨h3,h4⟩:=seg_app hs
   obtain ⟨h5,h6⟩:=seg_cons h4
   have l5:=At.lt h5
   rw [nr_tn c n0 nm,hx]
   simp only [List.length_cons,List.length_append,bl_len] at s ⊢
   rw [show i+((I x).length+((I y).length+1))=i+(I x).length+1+(I y).length by omega] at s ⊢
   obtain ⟨x1,x2⟩:=(gx L i hi).1 h3
   obtain ⟨y1,y2⟩:=(gy L _ (by omega)).1 (seg_bl h6)
   exact bin_ex c.a.op h x1 x2 h5 y1 y2 s
theorem good_all (k:Fo):wfT k=true→∀ c ∈ kl k,GoodC c:=by
 induction k with
 | nil=>intro _ c hc;cases hc
 | node b o a k r ihk ihr =>
   intro hw c hc
   unfold wfT at hw
   rw [Bool.and_eq_true,Bool.and_eq_true] at hw
   rcases List.mem_cons.1 hc with rfl|hc
   · exact good_node _ hw.1.1 (ihk hw.1.2)
   · exact ihr hw.2 c hc
theorem read_back (c:Ch) (hw:(wfB c.a (len c.k) && wfT c.k)=true) (L:List Tk.T4) (hL:L.map (fun t=>t.t)=(F c).map fun p=>p.2):pv L .ex 0=(some (nr c),L.length):=by
 rw [Bool.and_eq_true] at hw
 have g:=good_node c hw.1 (good_all c.k hw.2)
 have hl:L.length=(F c).length:=by have:=congrArg List.length hL;simpa using this
 have hs:Seg L 0 (F c):=fun k p hp=>by
  have q:=congrArg (fun l=>l[k]?) hL
  simp only [List.getElem?_map,hp,Option.map_some] at q
  rw [Nat.zero_add]
  cases hu:L[k]? with
  | none=>rw [hu] at q;cases q
  | some u=>rw [hu] at q;exact ⟨u,rfl,Option.some.inj q⟩
 have r:=((g L 0 (Nat.zero_le _)).2 hs (stp_end (by omega))).2.2
 rw [Nat.zero_add,← hl] at r
 exact r
end Fp
end Go.Proofs.YtcejjdmnlejbaaaGreatDoor
