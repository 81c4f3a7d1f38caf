import Derived.Test.YtcejjdmnlejbaaaGreatDoorBFpe
namespace Go.Proofs.YtcejjdmnlejbaaaGreatDoor
set_option linter.unusedVariables false
set_option linter.unusedSimpArgs false
open Go.Deep (BT)
namespace Fp
open Pz
theorem okL_cons {p:P} {l:List P} (h:okL l) (hj:∀ q,l.head?=some q→q.1=true∨nb p.2 q.2):okL (p :: l):=by
 cases l with
 | nil=>trivial
 | cons q l=>exact ⟨hj q rfl,h⟩
theorem okL_app {l m:List P} (h1:okL l) (h2:okL m) (hj:∀ q,m.head?=some q→q.1=true∨q.2=sg wShut∨q.2=sg wComma):okL (l++m):=by
 induction l with
 | nil=>exact h2
 | cons p l ih =>
   cases l with
   | nil =>
     refine okL_cons h2 fun q hq=>?_
     rcases hj q hq with e|e|e
     · exact .inl e
     · exact .inr (.inr (.inr (.inr (.inl e))))
     · exact .inr (.inr (.inr (.inr (.inr e))))
   | cons r l=>exact ⟨h1.1,ih h1.2⟩
theorem okL_bl {l:List P} (h:okL l):okL (bl l):=by
 cases l with
 | nil=>trivial
 | cons p l =>
   cases l with
   | nil=>trivial
   | cons q l=>exact h
theorem okL_cbl {p:P} {l:List P} (h:okL l):okL (p :: bl l):=by
 refine okL_cons (okL_bl h) fun q hq=>?_
 cases l with
 | nil=>cases hq
 | cons r l=>cases hq;exact .inl rfl
def VL (l:List P):Prop:=∀ p ∈ l,VT p.2
theorem vl_nil:VL []:=fun p h=>by cases h
theorem vl_cons {p:P} {l:List P} (h:VT p.2) (h2:VL l):VL (p :: l):=fun q hq=>by
 rcases List.mem_cons.1 hq with rfl|hq
 · exact h
 · exact h2 q hq
theorem vl_app {l m:List P} (h:VL l) (h2:VL m):VL (l++m):=fun q hq=>by
 rcases List.mem_append.1 hq with hq|hq
 · exact h q hq
 · exact h2 q hq
theorem vl_bl {l:List P} (h:VL l):VL (bl l):=by
 cases l with
 | nil=>exact vl_nil
 | cons p l=>exact vl_cons (h p (by simp)) fun q hq=>h q (by simp [hq])
theorem vt_sg {w:ByteArray} (h1:0 < w.size) (h2:Tk.sgn w.data.toList=w.size):VT (sg w):=.inr (.inr (.inr ⟨rfl,h1,h2,rfl⟩))
theorem vt_wd {w:ByteArray} (h1:∀ b ∈ w.data.toList,Tk.inW b=true) (h2:Tk.word w=some ⟨1,w,0⟩):VT (wd w):=.inl ⟨rfl,h1,h2,rfl⟩
theorem word_low {s:ByteArray} (h1:97≤(s.data.toList.getD 0 0).toNat∧(s.data.toList.getD 0 0).toNat≤122) (h2:s.size≤33) (h3:Tk.has s.data.toList 58=false) (h4:Tk.has s.data.toList 64=false):Tk.word s=some ⟨1,s,0⟩:=by
 unfold Tk.word
 rw [if_pos h1,if_neg]
 rintro (q|q|q)
 · omega
 · rw [h3] at q;cases q
 · rw [h4] at q;cases q
theorem attr_bytes {l:List UInt8} (h:Nam.attr l=true):l.length≤33∧∀ b ∈ l,Nam.wordB b=true∨b=46:=by
 have one:∀ m,Nam.isName m=true→m.length≤16∧∀ b ∈ m,Nam.wordB b=true:=fun m q=>by
  unfold Nam.isName at q
  rw [decide_eq_true_eq] at q
  exact ⟨q.2.1,List.all_eq_true.1 q.2.2.2⟩
 unfold Nam.attr at h
 by_cases h1:Lib.indexByte l 46 = -1
 · rw [if_pos h1] at h
   unfold Nam.declName at h
   rw [Bool.and_eq_true] at h
   obtain ⟨q1,q2⟩:=one _ h.1
   exact ⟨by omega,fun b hb=>.inl (q2 b hb)⟩
 · rw [if_neg h1,Bool.and_eq_true] at h
   obtain ⟨a1,a2⟩:=one _ h.1
   obtain ⟨b1,b2⟩:=one _ h.2
   have hge:=Lib.indexByte_ge l 46
   obtain ⟨n,hn⟩:∃ n:Nat,Lib.indexByte l 46=n:=⟨(Lib.indexByte l 46).toNat,by omega⟩
   obtain ⟨s1,-⟩:=Lib.indexByte_some hn
   rw [hn] at a1 a2 b1 b2
   rw [Int.toNat_natCast] at a1 a2 b1 b2
   obtain ⟨hl,hv⟩:=List.getElem?_eq_some_iff.1 s1
   rw [List.length_take] at a1
   rw [List.length_drop] at b1
   refine ⟨by omega,fun b hb=>?_⟩
   have e:l=l.take n++l[n] :: l.drop (n+1):=by rw [← List.drop_eq_getElem_cons hl,List.take_append_drop]
   rw [e] at hb
   rcases List.mem_append.1 hb with hb|hb
   · exact .inl (a2 b hb)
   · rcases List.mem_cons.1 hb with hb|hb
     · exact .inr (hb.trans hv)
     · exact .inl (b2 b hb)
theorem vt_attr {s:ByteArray} (h:attrS s=true):VT (wd s):=by
 have h':Nam.attr s.data.toList=true:=h
 obtain ⟨h1,h2⟩:=attr_bytes h'
 have h3:=attr_first h'
 unfold Nam.lowB at h3
 rw [decide_eq_true_eq] at h3
 have key:∀ b,Nam.wordB b=true∨b=46→Tk.inW b=true∧b.toNat≠58∧b.toNat≠64:=by
  rintro b (q|rfl)
  · unfold Nam.wordB at q
    rw [decide_eq_true_eq] at q
    unfold Tk.inW
    rw [decide_eq_true_eq]
    omega
  · decide
 have hsz:s.size=s.data.toList.length:=(Array.length_toList).symm
 refine vt_wd (fun b hb=>(key b (h2 b hb)).1) (word_low h3 (by omega) ?_ ?_)
 · unfold Tk.has
   rw [List.any_eq_false]
   intro b hb
   have:=(key b (h2 b hb)).2.1
   simpa using this
 · unfold Tk.has
   rw [List.any_eq_false]
   intro b hb
   have:=(key b (h2 b hb)).2.2
   simpa using this
theorem vt_opW (op:Int):VT (opW op):=by
 unfold opW
 repeat' split
 all_goals first
  | exact vt_sg (by decide) (by decide)
  | exact vt_wd (by decide) rfl
def Nice (l:List P):Prop:=VL l∧okL l
theorem nice_I {c:Ch} (h:Nice (F c)):Nice (I c):=by
 unfold I tI
 by_cases q:len c.k=0∨c.a.op=12∨c.a.op=13
 · rw [if_pos q];exact h
 · rw [if_neg q]
   refine ⟨vl_cons (vt_sg (by decide) (by decide)) (vl_app h.1 (vl_cons (vt_sg (by decide) (by decide)) vl_nil)),okL_cons (okL_app h.2 trivial fun q hq=>?_) fun q _=>.inr (.inr (.inl rfl))⟩
   cases hq
   exact .inr (.inl rfl)
theorem nice_list:∀ (l:List Ch),(∀ c ∈ l,Nice (F c))→Nice (jnC (l.map fun c=>(F c,I c))):=by
 intro l
 induction l with
 | nil=>intro _;exact ⟨vl_nil,trivial⟩
 | cons c l ih =>
   intro h
   cases l with
   | nil=>exact h c (by simp)
   | cons d l =>
     have q:=ih fun x hx=>h x (by simp only [List.mem_cons] at hx ⊢;exact .inr hx)
     have hc:=h c (by simp)
     show Nice (F c++(false,sg wComma) :: bl (jnC ((d :: l).map fun c=>(F c,I c))))
     refine ⟨vl_app hc.1 (vl_cons (vt_sg (by decide) (by decide)) (vl_bl q.1)),okL_app hc.2 (okL_cbl q.2) fun r hr=>?_⟩
     cases hr
     exact .inr (.inr rfl)
theorem nice_node (c:Ch) (hw:wfB c.a (len c.k)=true) (hg:∀ x ∈ kl c.k,Nice (F x)):Nice (F c):=by
 unfold wfB at hw
 rw [Bool.and_eq_true,Bool.and_eq_true,Bool.and_eq_true,decide_eq_true_eq] at hw
 obtain ⟨⟨⟨⟨o1,o2⟩,ha⟩,hn⟩,hm⟩:=hw
 have hkl:=kl_len c.k
 unfold argB at ha
 unfold numB at hn
 unfold namB at hm
 have hop:c.a.op=1∨c.a.op=2∨c.a.op=3∨c.a.op=4∨c.a.op=5∨c.a.op=6∨c.a.op=7∨c.a.op=19∨c.a.op=12∨c.a.op=13∨c.a.op=14∨c.a.op=15 ∨
  (c.a.op=8∨c.a.op=9∨c.a.op=10∨c.a.op=11∨c.a.op=16∨c.a.op=17∨c.a.op=18∨c.a.op=20∨c.a.op=21∨c.a.op=22):=by omega
 rcases hop with h|h|h|h|h|h|h|h|h|h|h|h|h
 · rw [h] at hn
   have q:=of_decide_eq_true hn
   rw [tF_eq c 1 h]
   exact ⟨vl_cons (.inr (.inl ⟨.inl rfl,rfl,q.1,q.2⟩)) vl_nil,trivial⟩
 · rw [h] at hn
   have q:=of_decide_eq_true hn
   rw [tF_eq c 2 h]
   exact ⟨vl_cons (.inr (.inl ⟨.inr rfl,rfl,q.1,q.2⟩)) vl_nil,trivial⟩
 · rw [h] at hn
   have q:=of_decide_eq_true hn
   rw [tF_eq c 3 h]
   exact ⟨vl_cons (.inr (.inr (.inl ⟨rfl,rfl,q.1,q.2⟩))) vl_nil,trivial⟩
 · rw [tF_eq c 4 h]
   exact ⟨vl_cons (vt_wd (by decide) rfl) vl_nil,trivial⟩
 · rw [tF_eq c 5 h]
   exact ⟨vl_cons (vt_wd (by decide) rfl) vl_nil,trivial⟩
 · rw [h] at hm
   have hat:attrS c.a.name=true:=hm
   rw [tF_eq c 6 h]
   exact ⟨vl_cons (vt_attr hat) vl_nil,trivial⟩
 · rw [h] at ha
   have k1:len c.k=1:=by have:=of_decide_eq_true ha;omega
   obtain ⟨x,hx⟩:=len_one (hkl.trans k1)
   have gx:=nice_I (hg x (by rw [hx];simp))
   rw [tF_eq c 7 h,tK_one hx]
   exact ⟨vl_cons (vt_sg (by decide) (by decide)) gx.1,okL_cons gx.2 fun q _=>.inr (.inl rfl)⟩
 · rw [h] at ha
   have k1:len c.k=1:=by have:=of_decide_eq_true ha;omega
   obtain ⟨x,hx⟩:=len_one (hkl.trans k1)
   have gx:=nice_I (hg x (by rw [hx];simp))
   rw [tF_eq c 19 h,tK_one hx]
   exact ⟨vl_cons (vt_wd (by decide) rfl) (vl_bl gx.1),okL_cbl gx.2⟩
 · rw [tF_eq c 12 h,tK_kl]
   have q:=nice_list (kl c.k) hg
   refine ⟨vl_cons (vt_wd (by decide) rfl) (vl_cons (vt_sg (by decide) (by decide)) (vl_app q.1 (vl_cons (vt_sg (by decide) (by decide)) vl_nil))),?_⟩
   refine okL_cons (okL_cons (okL_app q.2 trivial fun r hr=>?_) fun r _=>.inr (.inr (.inl rfl))) fun r hr=>?_
   · cases hr;exact .inr (.inl rfl)
   · cases hr;exact .inr (.inr (.inr (.inl rfl)))
 · rw [tF_eq c 13 h,tK_kl]
   have q:=nice_list (kl c.k) hg
   refine ⟨vl_cons (vt_wd (by decide) rfl) (vl_cons (vt_sg (by decide) (by decide)) (vl_app q.1 (vl_cons (vt_sg (by decide) (by decide)) vl_nil))),?_⟩
   refine okL_cons (okL_cons (okL_app q.2 trivial fun r hr=>?_) fun r _=>.inr (.inr (.inl rfl))) fun r hr=>?_
   · cases hr;exact .inr (.inl rfl)
   · cases hr;exact .inr (.inr (.inr (.inl rfl)))
 · rw [h] at ha
   have k3:len c.k=3:=by have:=of_decide_eq_true ha;omega
   obtain ⟨x,y,z,hx⟩:=len_three (hkl.trans k3)
   have gx:=hg x (by rw [hx];simp)
   have gy:=hg y (by rw [hx];simp)
   have gz:=hg z (by rw [hx];simp)
   rw [tF_eq c 14 h,tK_three hx]
   show Nice ((false,wd wIf) :: (bl (F x)++(true,wd wThen) :: (bl (F y)++(true,wd wElse) :: bl (F z))))
   have z2:Nice ((true,wd wElse) :: bl (F z)):=⟨vl_cons (vt_wd (by decide) rfl) (vl_bl gz.1),okL_cbl gz.2⟩
   have y2:Nice ((true,wd wThen) :: (bl (F y)++(true,wd wElse) :: bl (F z))):=by
    refine ⟨vl_cons (vt_wd (by decide) rfl) (vl_app (vl_bl gy.1) z2.1),?_⟩
    have e:okL (bl (F y)++(true,wd wElse) :: bl (F z)):=okL_app (okL_bl gy.2) z2.2 fun q hq=>by cases hq;exact .inl rfl
    refine okL_cons e fun q hq=>?_
    cases hF:F y with
    | nil=>rw [hF] at hq;cases hq;exact .inl rfl
    | cons p l=>rw [hF] at hq;cases hq;exact .inl rfl
   refine ⟨vl_cons (vt_wd (by decide) rfl) (vl_app (vl_bl gx.1) y2.1),?_⟩
   have e:okL (bl (F x)++(true,wd wThen) :: (bl (F y)++(true,wd wElse) :: bl (F z))):=okL_app (okL_bl gx.2) y2.2 fun q hq=>by cases hq;exact .inl rfl
   refine okL_cons e fun q hq=>?_
   cases hF:F x with
   | nil=>rw [hF] at hq;cases hq;exact .inl rfl
   | cons p l=>rw [hF] at hq;cases hq;exact .inl rfl
 · rw [h] at ha
   have k3:len c.k=3:=by have:=of_decide_eq_true ha;omega
   obtain ⟨x,y,z,hx⟩:=len_three (hkl.trans k3)
   have gx:=nice_I (hg x (by rw [hx];simp))
   have gy:=nice_I (hg y (by rw [hx];simp))
   have gz:=nice_I (hg z (by rw [hx];simp))
   rw [tF_eq c 15 h,tK_three hx]
   show Nice (I x++(true,wd wIn) :: (bl (I y)++(true,wd wTo) :: bl (I z)))
   have z2:Nice ((true,wd wTo) :: bl (I z)):=⟨vl_cons (vt_wd (by decide) rfl) (vl_bl gz.1),okL_cbl gz.2⟩
   have y2:Nice ((true,wd wIn) :: (bl (I y)++(true,wd wTo) :: bl (I z))):=by
    refine ⟨vl_cons (vt_wd (by decide) rfl) (vl_app (vl_bl gy.1) z2.1),?_⟩
    have e:okL (bl (I y)++(true,wd wTo) :: bl (I z)):=okL_app (okL_bl gy.2) z2.2 fun q hq=>by cases hq;exact .inl rfl
    refine okL_cons e fun q hq=>?_
    cases hF:I y with
    | nil=>rw [hF] at hq;cases hq;exact .inl rfl
    | cons p l=>rw [hF] at hq;cases hq;exact .inl rfl
   exact ⟨vl_app gx.1 y2.1,okL_app gx.2 y2.2 fun q hq=>by cases hq;exact .inl rfl⟩
 · have n1:¬ (1≤c.a.op∧c.a.op≤6):=by omega
   have n2:¬ (c.a.op=7∨c.a.op=19):=by omega
   have n3:¬ (c.a.op=12∨c.a.op=13):=by omega
   have n4:¬ (c.a.op=14∨c.a.op=15):=by omega
   rw [if_neg n1,if_neg n2,if_neg n3,if_neg n4] at ha
   have k2:len c.k=2:=by have:=of_decide_eq_true ha;omega
   obtain ⟨x,y,hx⟩:=len_two (hkl.trans k2)
   have gx:=nice_I (hg x (by rw [hx];simp))
   have gy:=nice_I (hg y (by rw [hx];simp))
   have e:F c=I x++(true,opW c.a.op) :: bl (I y):=by
    unfold F tF
    rw [tK_two hx]
    rw [if_neg (by omega),if_neg (by omega),if_neg (by omega),if_neg (by omega),if_neg (by omega),if_neg (by omega),if_neg (by omega),if_neg (by omega),if_neg (by omega),if_neg (by omega),if_neg (by omega),if_neg (by omega)]
    rfl
   rw [e]
   exact ⟨vl_app gx.1 (vl_cons (vt_opW _) (vl_bl gy.1)),okL_app gx.2 (okL_cbl gy.2) fun q hq=>by cases hq;exact .inl rfl⟩
theorem nice_all (k:Fo):wfT k=true→∀ c ∈ kl k,Nice (F c):=by
 induction k with
 | nil=>intro _ c hc;cases hc
 | node b o a k r ihk ihr =>
   intro hw c hc
   unfold wfT at hw
   rw [Bool.and_eq_true,Bool.and_eq_true] at hw
   rcases List.mem_cons.1 hc with rfl|hc
   · exact nice_node _ hw.1.1 (ihk hw.1.2)
   · exact ihr hw.2 c hc
theorem nice_of (c:Ch) (hw:(wfB c.a (len c.k) && wfT c.k)=true):Nice (F c):=by
 rw [Bool.and_eq_true] at hw
 exact nice_node c hw.1 (nice_all c.k hw.2)
end Fp
end Go.Proofs.YtcejjdmnlejbaaaGreatDoor
