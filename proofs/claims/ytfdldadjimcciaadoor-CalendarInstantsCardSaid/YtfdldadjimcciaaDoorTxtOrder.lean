/-
  Instants are ordered like their texts: plain facts.
-/
import Derived.Test.YtfdldadjimcciaaDoorTxtBack
namespace Go.Proofs.YtfdldadjimcciaaDoor
open Go

/-- Texts of one length, cut at one place. -/
theorem less_app (a a' b b' : List UInt8) (h : a.length = a'.length) : Op.bytesLess (a ++ b) (a' ++ b') = (Op.bytesLess a a' || (a == a' && Op.bytesLess b b')) := by
  induction a generalizing a' with
  | nil => cases a' with
    | nil => simp [Op.bytesLess]
    | cons x y => simp at h
  | cons x a ih =>
    cases a' with
    | nil => simp at h
    | cons y a' =>
      have := ih a' (by simpa using h)
      simp only [List.cons_append, Op.bytesLess, this]
      by_cases e : x = y
      · subst e; simp
      · have h1 : (x :: a == y :: a') = false := by simp [e]
        have h2 : (x == y) = false := by simp [e]
        rw [h1, h2]; simp
theorem byte_lt (a b : UInt8) : decide (a < b) = decide (a.toNat < b.toNat) := by simp [UInt8.lt_iff_toNat_lt]
/-- Digits of one length: the lesser text is the lesser number; equal numbers have one text. -/
theorem less_num (a a' : List UInt8) (h : a.length = a'.length) (ha : Txt.allD a = true) (ha' : Txt.allD a' = true) : Op.bytesLess a a' = decide (Txt.num a < Txt.num a') ∧ ((a == a') = decide (Txt.num a = Txt.num a')) := by
  induction a generalizing a' with
  | nil => cases a' with
    | nil => simp [Op.bytesLess, Txt.num]
    | cons x y => simp at h
  | cons x a ih =>
    cases a' with
    | nil => simp at h
    | cons y a' =>
      simp only [Txt.allD, List.all_cons, Bool.and_eq_true] at ha ha'
      have hl : a.length = a'.length := by simpa using h
      obtain ⟨i1, i2⟩ := ih a' hl ha.2 ha'.2
      have bx := (Txt.isD_iff x).1 ha.1
      have bY := (Txt.isD_iff y).1 ha'.1
      have b1 := Txt.num_bd a ha.2
      have b2 := Txt.num_bd a' ha'.2
      rw [Txt.num_cons, Txt.num_cons, ← hl] at *
      rw [← hl] at b2
      generalize hk : ((10 ^ a.length : Nat) : Int) = k at *
      have hk0 : 0 < k := by rw [← hk]; exact Int.natCast_pos.2 (Nat.pow_pos (by omega))
      simp only [Op.bytesLess, i1, byte_lt]
      by_cases e : x = y
      · subst e
        constructor
        · simp
        · simp only [List.cons_beq_cons, beq_self_eq_true, Bool.true_and, i2]
          simp
      · have hne : x.toNat ≠ y.toNat := fun q => e (UInt8.toNat_inj.1 q)
        have hxy : (x == y) = false := by simp [e]
        constructor
        · rw [hxy]
          simp only [Bool.false_and, Bool.or_false]
          by_cases q : x.toNat < y.toNat
          · have hm : (Txt.dv x + 1) * k ≤ Txt.dv y * k := Int.mul_le_mul_of_nonneg_right (by unfold Txt.dv; omega) (by omega)
            rw [Int.add_mul] at hm
            simp [q]; omega
          · have hm : (Txt.dv y + 1) * k ≤ Txt.dv x * k := Int.mul_le_mul_of_nonneg_right (by unfold Txt.dv; omega) (by omega)
            rw [Int.add_mul] at hm
            simp [q]; omega
        · rw [List.cons_beq_cons, hxy, Bool.false_and]
          symm
          rw [decide_eq_false_iff_not]
          intro q
          by_cases q' : x.toNat < y.toNat
          · have hm : (Txt.dv x + 1) * k ≤ Txt.dv y * k := Int.mul_le_mul_of_nonneg_right (by unfold Txt.dv; omega) (by omega)
            rw [Int.add_mul] at hm; omega
          · have hm : (Txt.dv y + 1) * k ≤ Txt.dv x * k := Int.mul_le_mul_of_nonneg_right (by unfold Txt.dv; omega) (by omega)
            rw [Int.add_mul] at hm; omega

/-- Of two dates the lesser number has the lesser year, month, day. -/
theorem num_lex (y m d y' m' d' : Int) (h : Cal.vldB y m d = true) (h' : Cal.vldB y' m' d' = true) : Cal.num y m d < Cal.num y' m' d' ↔ (y < y' ∨ (y = y' ∧ (m < m' ∨ (m = m' ∧ d < d')))) := by
  have key : ∀ y m d y' m' d' : Int, Cal.vldB y m d = true → Cal.vldB y' m' d' = true → (y < y' ∨ (y = y' ∧ (m < m' ∨ (m = m' ∧ d < d')))) → Cal.num y m d < Cal.num y' m' d' := by
    intro y m d y' m' d' h h' q
    obtain ⟨a1, a2, a3, a4, a5, a6⟩ := (Cal.vld_iff y m d).1 h
    obtain ⟨b1, b2, b3, b4, b5, b6⟩ := (Cal.vld_iff y' m' d').1 h'
    have hc := Cal.cum_bd y m a3 a4
    have hc' := Cal.cum_bd y' m' b3 b4
    have hs := Cal.cum_succ y m a3 a4
    have he : Cal.cum y (m + 1) ≤ 365 + Cal.lp y := by
      by_cases q : m = 12
      · subst q; rw [show (12 : Int) + 1 = 13 from rfl, Cal.cum_13]; omega
      · have := Cal.cum_bd y (m + 1) (by omega) (by omega); have := Cal.lp_cases y; omega
    rcases q with q | ⟨rfl, q | ⟨rfl, q⟩⟩
    · have ds := Cal.dby_succ y a1 (by omega)
      have : Cal.dby (y + 1) ≤ Cal.dby y' := by unfold Cal.dby; omega
      unfold Cal.num; omega
    · have mono : Cal.cum y (m + 1) ≤ Cal.cum y m' := by
        have hl := Cal.lp_cases y
        rcases Cal.month_cases m a3 a4 with rfl | rfl | rfl | rfl | rfl | rfl | rfl | rfl | rfl | rfl | rfl | rfl <;>
        rcases Cal.month_cases m' b3 b4 with rfl | rfl | rfl | rfl | rfl | rfl | rfl | rfl | rfl | rfl | rfl | rfl <;> first | omega | (simp [Cal.cum]; done) | (simp [Cal.cum]; omega)
      unfold Cal.num; omega
    · unfold Cal.num; omega
  constructor
  · intro q
    by_cases hc : (y < y' ∨ (y = y' ∧ (m < m' ∨ (m = m' ∧ d < d'))))
    · exact hc
    · exfalso
      by_cases he : y = y' ∧ m = m' ∧ d = d'
      · obtain ⟨rfl, rfl, rfl⟩ := he; omega
      · have := key y' m' d' y m d h' h (by omega)
        omega
  · exact key y m d y' m' d' h h'

/-- The text of an instant. -/
def fiS (y m d c : Int) : ByteArray := fdS y m d ++ ⟨#[32]⟩ ++ fcS c
theorem fiS_list (y m d c : Int) : (fiS y m d c).data.toList = Txt.pad y.toNat 4 ++ ([45] ++ (Txt.pad m.toNat 2 ++ ([45] ++ (Txt.pad d.toNat 2 ++ ([32] ++ (Txt.pad (c / 60).toNat 2 ++ ([58] ++ Txt.pad (c % 60).toNat 2))))))) := by
  unfold fiS; rw [app_list, app_list, fdS_list, fcS_list]; simp

theorem less_one (x : UInt8) (b b' : List UInt8) : Op.bytesLess ([x] ++ b) ([x] ++ b') = Op.bytesLess b b' := by simp [Op.bytesLess]

theorem inst_order (y m d c y' m' d' c' : Int) (h : Cal.vldB y m d = true) (h' : Cal.vldB y' m' d' = true) (hc : fcB c = true) (hc' : fcB c' = true) :
    Op.bytesLess (fiS y m d c).data.toList (fiS y' m' d' c').data.toList = decide (1440 * Cal.num y m d + c < 1440 * Cal.num y' m' d' + c') := by
  have hn := num_lex y m d y' m' d' h h'
  have hq : y = y' → m = m' → d = d' → Cal.num y m d = Cal.num y' m' d' := by rintro rfl rfl rfl; rfl
  have hi := fun e => Cal.num_inj y m d y' m' d' h h' e
  obtain ⟨a1, a2, a3, a4, a5, a6⟩ := (Cal.vld_iff y m d).1 h
  obtain ⟨b1, b2, b3, b4, b5, b6⟩ := (Cal.vld_iff y' m' d').1 h'
  have q1 := Cal.dim_bd y m
  have q2 := Cal.dim_bd y' m'
  simp only [fcB, decide_eq_true_eq] at hc hc'
  obtain ⟨l1, e1, n1⟩ := pad_facts y 4 (by omega) (by omega) (by omega)
  obtain ⟨l2, e2, n2⟩ := pad_facts m 2 (by omega) (by omega) (by omega)
  obtain ⟨l3, e3, n3⟩ := pad_facts d 2 (by omega) (by omega) (by omega)
  obtain ⟨l4, e4, n4⟩ := pad_facts (c / 60) 2 (by omega) (by omega) (by omega)
  obtain ⟨l5, e5, n5⟩ := pad_facts (c % 60) 2 (by omega) (by omega) (by omega)
  obtain ⟨l1', e1', n1'⟩ := pad_facts y' 4 (by omega) (by omega) (by omega)
  obtain ⟨l2', e2', n2'⟩ := pad_facts m' 2 (by omega) (by omega) (by omega)
  obtain ⟨l3', e3', n3'⟩ := pad_facts d' 2 (by omega) (by omega) (by omega)
  obtain ⟨l4', e4', n4'⟩ := pad_facts (c' / 60) 2 (by omega) (by omega) (by omega)
  obtain ⟨l5', e5', n5'⟩ := pad_facts (c' % 60) 2 (by omega) (by omega) (by omega)
  obtain ⟨x1, z1⟩ := less_num _ _ (l1.trans l1'.symm) e1 e1'
  obtain ⟨x2, z2⟩ := less_num _ _ (l2.trans l2'.symm) e2 e2'
  obtain ⟨x3, z3⟩ := less_num _ _ (l3.trans l3'.symm) e3 e3'
  obtain ⟨x4, z4⟩ := less_num _ _ (l4.trans l4'.symm) e4 e4'
  obtain ⟨x5, -⟩ := less_num _ _ (l5.trans l5'.symm) e5 e5'
  rw [fiS_list, fiS_list, less_app _ _ _ _ (l1.trans l1'.symm), less_one, less_app _ _ _ _ (l2.trans l2'.symm), less_one, less_app _ _ _ _ (l3.trans l3'.symm), less_one, less_app _ _ _ _ (l4.trans l4'.symm), less_one]
  rw [x1, x2, x3, x4, x5, z1, z2, z3, z4, n1, n2, n3, n4, n5, n1', n2', n3', n4', n5']
  rw [Bool.eq_iff_iff]
  simp only [Bool.or_eq_true, Bool.and_eq_true, decide_eq_true_eq]
  generalize Cal.num y m d = N at *
  generalize Cal.num y' m' d' = N' at *
  by_cases q : N = N'
  · obtain ⟨rfl, rfl, rfl⟩ := hi q
    subst q
    omega
  · omega

end Go.Proofs.YtfdldadjimcciaaDoor
