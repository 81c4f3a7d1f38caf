/-
  The law of regions that draw their order and make memory, where operations behind the last writer may copy what it left. Printed by wip/mkpl2.py.
-/
import Derived.Test.YtinbkhchhlkjgaaPlr
namespace Go.Proofs.Ytinbkhchhlkjgaa
set_option linter.unusedVariables false
set_option linter.unusedSimpArgs false
set_option maxRecDepth 100000
open Go.ChangeShapes Go.WideShapes Go.ChangeAt Go.RowKit

section
variable {P : Program} {ops : Array Oper} {Q : Exit → Act → World → Prop}
/-- An operation behind the last one that turns the world: it leaves the world, and keeps that one's word. -/
def PureOk2 (P : Program) (ops : Array Oper) (Q : Exit → Act → World → Prop) (src : Nat → Option Nat) (G : Nat → Value → World → Prop) (F : (Nat → Value) → World → World → Prop) (s0 : Array Value) (w0 : World) (i : Nat) (o : Oper) : Prop :=
  ∀ (a : Act) (w1 w : World), Ext w0 w1 → a.tmps.size = s0.size → (∀ t, src t = none → a.tmps.getD t undef = s0.getD t undef) →
    (∀ t e, src t = some e → (o.after.toList.any fun x => x.on == e && Region.binds .any x) = true → G e (a.tmps.getD t undef) w1) →
    (∀ t e, src t = some e → ((ops[e]?).any fun p => p.after.toList.any fun x => x.on == i && Region.binds .any x) = true → a.tmps.getD t undef = s0.getD t undef) →
    F (fun t => a.tmps.getD t undef) w1 w →
    Region.wanted o (yielded ops a.tmps) = true ∧ o.wp P a w (fun a' w' => ∃ v, a' = a.put o.dst v ∧ w' = w ∧ (o.dst.isSome = true → G i v w1) ∧ F (fun t => (a.put o.dst v).tmps.getD t undef) w1 w) Q
/-- The last one that turns the world. -/
def LastOk2 (P : Program) (ops : Array Oper) (Q : Exit → Act → World → Prop) (src : Nat → Option Nat) (G : Nat → Value → World → Prop) (F : (Nat → Value) → World → World → Prop) (s0 : Array Value) (w0 : World) (i : Nat) (o : Oper) : Prop :=
  ∀ (a : Act) (w : World), Ext w0 w → a.tmps.size = s0.size → (∀ t, src t = none → a.tmps.getD t undef = s0.getD t undef) →
    (∀ t e, src t = some e → (o.after.toList.any fun x => x.on == e && Region.binds .any x) = true → G e (a.tmps.getD t undef) w) →
    (∀ t e, src t = some e → ((ops[e]?).any fun p => p.after.toList.any fun x => x.on == i && Region.binds .any x) = true → a.tmps.getD t undef = s0.getD t undef) →
    Region.wanted o (yielded ops a.tmps) = true ∧ o.wp P a w (fun a' w' => ∃ v, a' = a.put o.dst v ∧ (o.dst.isSome = true → G i v w) ∧ F (fun t => (a.put o.dst v).tmps.getD t undef) w w') Q
/-- The operations that come before z, by reckoning. -/
def ancB (ops : Array Oper) (A : Nat → Bool) (z : Nat) : Bool := (List.range ops.size).all fun i => !A i || (List.range ops.size).any fun e => decide (i < e) && (e == z || A e) && (match ops[e]? with | some p => p.after.toList.any fun x => x.on == i && Region.binds .any x | none => false)
theorem anc_of {A : Nat → Bool} {z : Nat} (h : ancB ops A z = true) : ∀ i, (A i && decide (i < ops.size)) = true → ∃ e p, i < e ∧ (e = z ∨ (A e && decide (e < ops.size)) = true) ∧ ops[e]? = some p ∧ (p.after.toList.any fun x => x.on == i && Region.binds .any x) = true := by
  intro i hi
  rw [Bool.and_eq_true, decide_eq_true_eq] at hi
  unfold ancB at h
  rw [List.all_eq_true] at h
  have h1 := h i (List.mem_range.2 hi.2)
  rw [hi.1, Bool.not_true, Bool.false_or, List.any_eq_true] at h1
  obtain ⟨e, he, h2⟩ := h1
  rw [Bool.and_eq_true, Bool.and_eq_true, decide_eq_true_eq, Bool.or_eq_true, beq_iff_eq] at h2
  obtain ⟨⟨h3, h4⟩, h5⟩ := h2
  have hes := List.mem_range.1 he
  cases hp : ops[e]? with
  | none => rw [hp] at h5; cases h5
  | some p =>
    rw [hp] at h5
    refine ⟨e, p, h3, ?_, hp, h5⟩
    rcases h4 with h4 | h4
    · exact .inl h4
    · right; rw [h4]; simp [hes]
/-- **Each operation keeps to its word: so does the region, in whatever order.** z: the last operation that turns the world, all others that touch it before it; none, where z is no operation. -/
theorem wp_region_plan2 {id : Nat} {a0 : Act} {w : World} (hm : P.follows .mixedOrders = true) (src : Nat → Option Nat) (G : Nat → Value → World → Prop) (z : Nat) (F : (Nat → Value) → World → World → Prop)
    (hG : ∀ i v w w', G i v w → Ext w w' → G i v w')
    (hsrc : ∀ i o d, ops[i]? = some o → o.dst = some d → src d = some i ∧ d < a0.tmps.size)
    (hlow : ∀ i o, ops[i]? = some o → ∀ x ∈ o.after, Region.binds .any x = true → x.on < i)
    (hall : ∀ t i, src t = some i → ∃ o, ops[i]? = some o ∧ o.dst = some t)
    (A : Nat → Bool) (hA : ∀ i, A i = true → ∃ e p, i < e ∧ (e = z ∨ A e = true) ∧ ops[e]? = some p ∧ (p.after.toList.any fun x => x.on == i && Region.binds .any x) = true)
    (hst : ∀ i o, ops[i]? = some o → i ≠ z → StepOk P ops Q src G a0.tmps w.drew i o)
    (hpu : ∀ i o, ops[i]? = some o → i ≠ z → A i = true ∨ ops.size ≤ z ∨ PureOk2 P ops Q src G F a0.tmps w.drew i o)
    (hla : ∀ o, ops[z]? = some o → LastOk2 P ops Q src G F a0.tmps w.drew z o)
    (hfin : ∀ (x : Nat → Value) (w1 w' : World), Ext w.drew w1 → (∀ t i, src t = some i → G i (x t) w1) → (z < ops.size → F x w1 w') → (ops.size ≤ z → w' = w1) → Q .normal ⟨frameOf a0.tmps src x, a0.defers⟩ w') :
    (Code.region id ops true).wp P Q a0 w := by
  refine wp_region_any hm ?_
  refine wpAny_inv (fun listed a w' => ∃ w1, PInv ops src G a0.tmps a0.defers w.drew listed a w1 ∧ ((listed.getD z false = false ∧ w' = w1) ∨ (listed.getD z false = true ∧ F (fun t => a.tmps.getD t undef) w1 w'))) ?_ ?_ ops.size _ a0 _ ?_ ?_
  · rintro listed a w2 i ⟨w1, hI, hZ⟩ hi
    obtain ⟨o, ho, hl, haf⟩ := ready_spec hi
    have hil : i < listed.size := by
      by_cases q : i < listed.size
      · exact q
      · rw [Array.getD_eq_getD_getElem?, Array.getElem?_eq_none (by omega)] at hl; cases hl
    have hl2 : listed.getD i false = false := by
      rw [Array.getD_eq_getD_getElem?, Array.getElem?_eq_getElem hil] at hl ⊢; simpa using hl
    have hdep : ∀ t e, src t = some e → (o.after.toList.any fun x => x.on == e && Region.binds .any x) = true → G e (a.tmps.getD t undef) w1 := fun t e hs ha => by
      rw [List.any_eq_true] at ha
      obtain ⟨x, hx, hq⟩ := ha
      rw [Bool.and_eq_true] at hq
      have := haf x (by simpa using hx) hq.2
      rw [eq_of_beq hq.1] at this
      exact hI.sl t e hs this
    have hwar : ∀ t e, src t = some e → ((ops[e]?).any fun p => p.after.toList.any fun x => x.on == i && Region.binds .any x) = true → a.tmps.getD t undef = a0.tmps.getD t undef := fun t e hs ha => by
      cases hp : ops[e]? with
      | none => rw [hp] at ha; cases ha
      | some p =>
        rw [hp] at ha
        have ha' : (p.after.toList.any fun x => x.on == i && Region.binds .any x) = true := ha
        rw [List.any_eq_true] at ha'
        obtain ⟨x, hx, hq⟩ := ha'
        rw [Bool.and_eq_true] at hq
        refine hI.un t e hs ?_
        cases hle : listed.getD e false with
        | false => rfl
        | true =>
          have := hI.cl e p hp hle x (by simpa using hx) hq.2
          rw [eq_of_beq hq.1, hl2] at this
          cases this
    -- the slots behind one more operation
    have key : ∀ v w1', Ext w1 w1' → (o.dst.isSome = true → G i v w1') → PInv ops src G a0.tmps a0.defers w.drew (listed.setIfInBounds i true) (a.put o.dst v) w1' := by
      intro v w1' hext hg
      refine ⟨by rw [Array.size_setIfInBounds]; exact hI.ls, ?_, ?_, hI.ex.trans hext, ?_, ?_, ?_, ?_⟩
      · cases o.dst with
        | none => exact hI.sz
        | some d => show (a.tmps.setIfInBounds d v).size = _; rw [Array.size_setIfInBounds]; exact hI.sz
      · cases o.dst with
        | none => exact hI.df
        | some d => exact hI.df
      · intro t j hs hj
        by_cases hji : j = i
        · subst hji
          obtain ⟨o2, ho2, hd2⟩ := hall t j hs
          rw [ho] at ho2
          cases ho2
          rw [hd2, put_getD, if_pos ⟨rfl, by rw [hI.sz]; exact (hsrc j o t ho hd2).2⟩]
          exact hg (by rw [hd2]; rfl)
        · rw [getD_set] at hj
          rcases hj with ⟨e, -⟩ | hj
          · exact absurd e hji
          · have h9 := hI.sl t j hs hj
            have e9 : (a.put o.dst v).tmps.getD t undef = a.tmps.getD t undef := by
              cases hd : o.dst with
              | none => rfl
              | some d =>
                rw [put_getD, if_neg]
                rintro ⟨rfl, -⟩
                rw [(hsrc i o d ho hd).1] at hs
                exact hji (Option.some.inj hs).symm
            rw [e9]
            exact hG j _ _ _ h9 hext
      · intro t j hs hj
        have hji : j ≠ i := by
          rintro rfl
          have : (listed.setIfInBounds j true).getD j false = true := (getD_set _ _ _).2 (.inl ⟨rfl, hil⟩)
          rw [this] at hj; cases hj
        have hj2 : listed.getD j false = false := by
          cases q : listed.getD j false with
          | false => rfl
          | true =>
            have : (listed.setIfInBounds i true).getD j false = true := (getD_set _ _ _).2 (.inr q)
            rw [this] at hj; cases hj
        have e9 : (a.put o.dst v).tmps.getD t undef = a.tmps.getD t undef := by
          cases hd : o.dst with
          | none => rfl
          | some d =>
            rw [put_getD, if_neg]
            rintro ⟨rfl, -⟩
            rw [(hsrc i o d ho hd).1] at hs
            exact hji (Option.some.inj hs).symm
        rw [e9]
        exact hI.un t j hs hj2
      · intro t hs
        have e9 : (a.put o.dst v).tmps.getD t undef = a.tmps.getD t undef := by
          cases hd : o.dst with
          | none => rfl
          | some d =>
            rw [put_getD, if_neg]
            rintro ⟨rfl, -⟩
            rw [(hsrc i o d ho hd).1] at hs
            cases hs
        rw [e9]
        exact hI.ol t hs
      · intro e p hp he x hx hb
        rw [getD_set]
        right
        rw [getD_set] at he
        rcases he with ⟨rfl, -⟩ | he
        · rw [ho] at hp
          cases hp
          exact haf x hx hb
        · exact hI.cl e p hp he x hx hb
    by_cases hiz : i = z
    · subst hiz
      rcases hZ with ⟨-, rfl⟩ | ⟨h, -⟩
      · obtain ⟨h1, h2⟩ := hla o ho a w2 hI.ex hI.sz hI.ol hdep hwar
        unfold wpOp
        rw [ho]
        simp only [h1, if_true]
        refine .inl (Oper.wp_mono ?_ h2)
        rintro a' w' ⟨v, rfl, hg, hf⟩
        exact ⟨w2, key v w2 (Ext.refl _) hg, .inr ⟨(getD_set _ _ _).2 (.inl ⟨rfl, hil⟩), hf⟩⟩
      · rw [h] at hl2; cases hl2
    · have hz' : (listed.setIfInBounds i true).getD z false = listed.getD z false := by
        cases q : listed.getD z false with
        | true => exact (getD_set _ _ _).2 (.inr q)
        | false =>
          cases q2 : (listed.setIfInBounds i true).getD z false with
          | false => rfl
          | true =>
            rcases (getD_set _ _ _).1 q2 with ⟨e, -⟩ | e
            · exact absurd e.symm hiz
            · rw [q] at e; cases e
      rcases hZ with ⟨hz0, rfl⟩ | ⟨hz1, hf⟩
      · obtain ⟨h1, h2⟩ := hst i o ho hiz a w2 hI.ex hI.ol hdep hwar
        unfold wpOp
        rw [ho]
        simp only [h1, if_true]
        refine .inl (Oper.wp_mono ?_ h2)
        rintro a' w' ⟨v, rfl, hext, hg⟩
        exact ⟨w', key v w' hext hg, .inl ⟨by rw [hz']; exact hz0, rfl⟩⟩
      · rcases hpu i o ho hiz with hb | hb | hb
        · exfalso
          have hanc : ∀ n i, ops.size - i ≤ n → A i = true → listed.getD i false = true := by
            intro n
            induction n with
            | zero =>
              intro i hn hAi
              obtain ⟨e, p, hlt, he, hp, ha⟩ := hA i hAi
              have := (Array.getElem?_eq_some_iff.1 hp).1
              omega
            | succ n ih =>
              intro i hn hAi
              obtain ⟨e, p, hlt, he, hp, ha⟩ := hA i hAi
              have hel : listed.getD e false = true := by
                rcases he with rfl | he
                · exact hz1
                · exact ih e (by omega) he
              rw [List.any_eq_true] at ha
              obtain ⟨x, hx, hq⟩ := ha
              rw [Bool.and_eq_true] at hq
              have := hI.cl e p hp hel x (by simpa using hx) hq.2
              rw [eq_of_beq hq.1] at this
              exact this
          rw [hanc _ i (Nat.le_refl _) hb] at hl2
          cases hl2
        · exfalso
          rw [Array.getD_eq_getD_getElem?, Array.getElem?_eq_none (by rw [hI.ls]; exact hb)] at hz1
          cases hz1
        · obtain ⟨h1, h2⟩ := hb a w1 w2 hI.ex hI.sz hI.ol hdep hwar hf
          unfold wpOp
          rw [ho]
          simp only [h1, if_true]
          refine .inl (Oper.wp_mono ?_ h2)
          rintro a' w' ⟨v, rfl, rfl, hg, hf'⟩
          exact ⟨w1, key v w1 (Ext.refl _) hg, .inr ⟨by rw [hz']; exact hz1, hf'⟩⟩
  · rintro listed a w2 ⟨w1, hI, hZ⟩ hr
    have hlist : ∀ i o, ops[i]? = some o → listed.getD i false = true := by
      intro i
      induction i using Nat.strongRecOn with
      | _ i ih =>
        intro o ho
        have hi : i < ops.size := (Array.getElem?_eq_some_iff.1 ho).1
        cases hq : listed.getD i false with
        | true => rfl
        | false =>
          exfalso
          have hl : listed.getD i true = false := by
            rw [Array.getD_eq_getD_getElem?, Array.getElem?_eq_getElem (by rw [hI.ls]; exact hi)] at hq ⊢
            simpa using hq
          have : i ∈ Region.ready .any ops listed := ready_of ho hl (fun x hx hb => by
            have hlt := hlow i o ho x hx hb
            obtain ⟨p, hp⟩ : ∃ p, ops[x.on]? = some p := ⟨_, Array.getElem?_eq_getElem (by omega)⟩
            exact ih x.on hlt p hp)
          rw [hr] at this
          cases this
    have hsl : ∀ t i, src t = some i → G i (a.tmps.getD t undef) w1 := by
      intro t i hs
      obtain ⟨o, ho, -⟩ := hall t i hs
      exact hI.sl t i hs (hlist i o ho)
    have hfr : a.tmps = frameOf a0.tmps src (fun t => a.tmps.getD t undef) := by
      apply Array.ext
      · unfold frameOf; simp; exact hI.sz
      · intro t h1 h2
        unfold frameOf
        simp only [List.getElem_toArray, List.getElem_mapIdx]
        cases hs : src t with
        | some i => simp [Array.getD, h1, hs]
        | none =>
          have h9 := hI.ol t hs
          have h3 : t < a0.tmps.size := by rw [← hI.sz]; exact h1
          rw [Array.getD_eq_getD_getElem?, Array.getD_eq_getD_getElem?, Array.getElem?_eq_getElem h1, Array.getElem?_eq_getElem h3] at h9
          simpa [hs] using h9
    have := hfin (fun t => a.tmps.getD t undef) w1 w2 hI.ex hsl (fun hz => by
      obtain ⟨o, ho⟩ : ∃ o, ops[z]? = some o := ⟨_, Array.getElem?_eq_getElem hz⟩
      rcases hZ with ⟨h, -⟩ | ⟨-, h⟩
      · rw [hlist z o ho] at h; cases h
      · exact h) (fun hz => by
      rcases hZ with ⟨-, h⟩ | ⟨h, -⟩
      · exact h
      · rw [Array.getD_eq_getD_getElem?, Array.getElem?_eq_none (by rw [hI.ls]; exact hz)] at h
        cases h)
    rw [← hfr, ← hI.df] at this
    exact this
  · rw [Array.toList_replicate]
    unfold left
    simp
  · refine ⟨_, ⟨Array.size_replicate, rfl, rfl, Ext.refl _, ?_, fun _ _ _ _ => rfl, fun _ _ => rfl, ?_⟩, .inl ⟨?_, rfl⟩⟩
    · intro t i hs hl
      rw [Array.getD_eq_getD_getElem?, Array.getElem?_replicate] at hl
      split at hl <;> cases hl
    · intro e o ho hl
      rw [Array.getD_eq_getD_getElem?, Array.getElem?_replicate] at hl
      split at hl <;> cases hl
    · rw [Array.getD_eq_getD_getElem?, Array.getElem?_replicate]
      split <;> rfl
end

variable {P : Program} {Q : Exit → Act → World → Prop}
theorem plan_tbl2 {ops : Array Oper} {id : Nat} {a0 : Act} {w : World} (tbl : List (Nat × Nat)) (G : Nat → Value → World → Prop) (z : Nat) (F : (Nat → Value) → World → World → Prop)
    (hm : P.follows .mixedOrders = true) (hchk : planB ops tbl a0.tmps.size = true)
    (hG : ∀ i v w w', G i v w → Ext w w' → G i v w')
    (A : Nat → Bool) (hA : ancB ops A z = true)
    (hst : ∀ i o, ops[i]? = some o → i ≠ z → StepOk P ops Q (srcOf tbl) G a0.tmps w.drew i o)
    (hpu : ∀ i o, ops[i]? = some o → i ≠ z → A i = true ∨ ops.size ≤ z ∨ PureOk2 P ops Q (srcOf tbl) G F a0.tmps w.drew i o)
    (hla : ∀ o, ops[z]? = some o → LastOk2 P ops Q (srcOf tbl) G F a0.tmps w.drew z o)
    (hfin : ∀ (x : Nat → Value) (w1 w' : World), Ext w.drew w1 → (∀ t i, srcOf tbl t = some i → G i (x t) w1) → (z < ops.size → F x w1 w') → (ops.size ≤ z → w' = w1) → Q .normal ⟨frameT tbl x a0.tmps, a0.defers⟩ w') :
    (Code.region id ops true).wp P Q a0 w :=
  wp_region_plan2 hm (srcOf tbl) G z F hG (plan_src hchk) (plan_low hchk) (plan_all hchk) _ (anc_of hA) hst (fun i o ho hz => (hpu i o ho hz).imp (fun q => by rw [q]; simp [(Array.getElem?_eq_some_iff.1 ho).1]) (fun q => q)) hla (fun x w1 w' h1 h2 h3 h4 => by rw [frame_tbl]; exact hfin x w1 w' h1 h2 h3 h4)


end Go.Proofs.Ytinbkhchhlkjgaa
