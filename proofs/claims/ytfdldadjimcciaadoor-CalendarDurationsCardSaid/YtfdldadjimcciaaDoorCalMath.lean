/-
  Plain facts on the civil calendar between 1999 and 2100, with no program in sight.
-/
import Derived.WalkKit
namespace Go.Proofs.YtfdldadjimcciaaDoor.Cal
set_option linter.unusedVariables false
set_option linter.unusedSimpArgs false

/-- 1 in a leap year, otherwise 0 (between 1999 and 2100). -/
def lp (y : Int) : Int := if y % 4 = 0 ∧ (y % 100 ≠ 0 ∨ y % 400 = 0) then 1 else 0
theorem lp_cases (y : Int) : lp y = 0 ∨ lp y = 1 := by unfold lp; split <;> simp
theorem lp_eq (y : Int) (h1 : 1999 ≤ y) (h2 : y ≤ 2100) : lp y = if y % 4 = 0 ∧ y ≠ 2100 then 1 else 0 := by
  unfold lp
  by_cases a : y % 4 = 0 ∧ (y % 100 ≠ 0 ∨ y % 400 = 0)
  · rw [if_pos a, if_pos (by omega)]
  · rw [if_neg a, if_neg (by omega)]
def leapB (y : Int) : Bool := decide (lp y = 1)

/-- the days of a month -/
def dim (y m : Int) : Int := if m = 2 then 28 + lp y else if m = 4 ∨ m = 6 ∨ m = 9 ∨ m = 11 then 30 else 31
/-- the days before a month in its year -/
def cum (y m : Int) : Int :=
  if m = 1 then 0 else if m = 2 then 31 else
  (if m = 3 then 59 else if m = 4 then 90 else if m = 5 then 120 else if m = 6 then 151 else if m = 7 then 181 else if m = 8 then 212 else if m = 9 then 243 else if m = 10 then 273 else if m = 11 then 304 else if m = 12 then 334 else 365) + lp y
/-- the days before a year, from 1999 on -/
def dby (y : Int) : Int := (y - 1999) * 365 + (y - 1997) / 4

theorem dim_bd (y m : Int) : 28 ≤ dim y m ∧ dim y m ≤ 31 := by
  have := lp_cases y
  unfold dim; split
  · omega
  · split <;> omega
theorem month_cases (m : Int) (h1 : 1 ≤ m) (h2 : m ≤ 12) : m = 1 ∨ m = 2 ∨ m = 3 ∨ m = 4 ∨ m = 5 ∨ m = 6 ∨ m = 7 ∨ m = 8 ∨ m = 9 ∨ m = 10 ∨ m = 11 ∨ m = 12 := by omega
theorem cum_succ (y m : Int) (h1 : 1 ≤ m) (h2 : m ≤ 12) : cum y (m + 1) = cum y m + dim y m := by
  rcases month_cases m h1 h2 with rfl | rfl | rfl | rfl | rfl | rfl | rfl | rfl | rfl | rfl | rfl | rfl <;> simp [cum, dim] <;> omega
theorem cum_bd (y m : Int) (h1 : 1 ≤ m) (h2 : m ≤ 12) : 0 ≤ cum y m ∧ cum y m ≤ 335 := by
  have := lp_cases y
  rcases month_cases m h1 h2 with rfl | rfl | rfl | rfl | rfl | rfl | rfl | rfl | rfl | rfl | rfl | rfl <;> simp [cum] <;> omega
theorem cum_13 (y : Int) : cum y 13 = 365 + lp y := by simp [cum]
theorem dby_succ (y : Int) (h1 : 1999 ≤ y) (h2 : y < 2100) : dby (y + 1) = dby y + 365 + lp y := by
  rw [lp_eq y h1 (by omega)]; unfold dby
  by_cases a : y % 4 = 0 ∧ y ≠ 2100
  · rw [if_pos a]; omega
  · rw [if_neg a]; omega
theorem dby_bd (y : Int) (h1 : 1999 ≤ y) (h2 : y ≤ 2100) : 0 ≤ dby y ∧ dby y ≤ 36890 := by unfold dby; omega
theorem dby_first : dby 1999 = 0 := by decide
theorem dby_last : dby 2100 = 36890 := by decide

/-- is it a date? -/
def vldB (y m d : Int) : Bool := decide (1999 ≤ y ∧ y ≤ 2100 ∧ 1 ≤ m ∧ m ≤ 12 ∧ 1 ≤ d ∧ d ≤ dim y m)
theorem vld_iff (y m d : Int) : vldB y m d = true ↔ (1999 ≤ y ∧ y ≤ 2100 ∧ 1 ≤ m ∧ m ≤ 12 ∧ 1 ≤ d ∧ d ≤ dim y m) := by simp [vldB]
theorem vld_no (y m d : Int) : vldB y m d = false ↔ ¬ (1999 ≤ y ∧ y ≤ 2100 ∧ 1 ≤ m ∧ m ≤ 12 ∧ 1 ≤ d ∧ d ≤ dim y m) := by simp [vldB]
/-- the number of a day -/
def num (y m d : Int) : Int := -365 + dby y + cum y m + d - 1

/-- the day of the week, Monday 0 -/
def wday (n : Int) : Int := (n % 7 + 5) % 7

theorem num_bd (y m d : Int) (h : vldB y m d = true) : -365 ≤ num y m d ∧ num y m d ≤ 36889 := by
  rw [vld_iff] at h
  obtain ⟨a, b, c, e, f, g⟩ := h
  have h1 := cum_bd y m c e
  have h2 := cum_succ y m c e
  have h3 := dby_bd y a b
  have h4 : cum y (m + 1) ≤ 365 + lp y := by
    by_cases q : m = 12
    · subst q; rw [show (12 : Int) + 1 = 13 from rfl, cum_13]; omega
    · have := cum_bd y (m + 1) (by omega) (by omega); have := lp_cases y; omega
  have h5 : dby y + 365 + lp y ≤ 37255 := by
    by_cases q : y = 2100
    · subst q; rw [dby_last, show lp 2100 = 0 from by decide]; omega
    · have := dby_succ y a (by omega); have := dby_bd (y + 1) (by omega) (by omega); omega
  unfold num; omega

/-- two dates with one number are one date -/
theorem num_inj (y m d y' m' d' : Int) (h : vldB y m d = true) (h' : vldB y' m' d' = true) (e : num y m d = num y' m' d') : y = y' ∧ m = m' ∧ d = d' := by
  rw [vld_iff] at h h'
  obtain ⟨a, b, c, f, g, i⟩ := h
  obtain ⟨a', b', c', f', g', i'⟩ := h'
  have hs : ∀ y m d : Int, 1999 ≤ y → y ≤ 2100 → 1 ≤ m → m ≤ 12 → 1 ≤ d → d ≤ dim y m → 0 ≤ cum y m + d - 1 ∧ cum y m + d - 1 < 365 + lp y := by
    intro y m d a b c f g i
    have h1 := cum_bd y m c f
    have h2 := cum_succ y m c f
    have h4 : cum y (m + 1) ≤ 365 + lp y := by
      by_cases q : m = 12
      · subst q; rw [show (12 : Int) + 1 = 13 from rfl, cum_13]; omega
      · have := cum_bd y (m + 1) (by omega) (by omega); have := lp_cases y; omega
    omega
  have s := hs y m d a b c f g i
  have s' := hs y' m' d' a' b' c' f' g' i'
  have key : ∀ a b : Int, 1999 ≤ a → a < b → b ≤ 2100 → dby a + 365 + lp a ≤ dby b := by
    intro a b h1 h2 h3
    have := dby_succ a h1 (by omega)
    have : dby (a + 1) ≤ dby b := by unfold dby; omega
    omega
  have ey : y = y' := by
    unfold num at e
    by_cases q : y < y'
    · have := key y y' a q b'; omega
    · by_cases q' : y' < y
      · have := key y' y a' q' b; omega
      · omega
  subst ey
  have mono : ∀ m m' : Int, 1 ≤ m → m < m' → m' ≤ 12 → cum y (m + 1) ≤ cum y m' := by
    intro m m' h1 h2 h3
    have hl := lp_cases y
    rcases month_cases m h1 (by omega) with rfl | rfl | rfl | rfl | rfl | rfl | rfl | rfl | rfl | rfl | rfl | rfl <;>
    rcases month_cases m' (by omega) h3 with rfl | rfl | rfl | rfl | rfl | rfl | rfl | rfl | rfl | rfl | rfl | rfl <;> first | omega | (simp [cum]; done) | (simp [cum]; omega)
  have em : m = m' := by
    unfold num at e
    by_cases q : m < m'
    · have := mono m m' c q f'; have := cum_succ y m c f; omega
    · by_cases q' : m' < m
      · have := mono m' m c' q' f; have := cum_succ y m' c' f'; omega
      · omega
  subst em
  unfold num at e
  exact ⟨rfl, rfl, by omega⟩

end Go.Proofs.YtfdldadjimcciaaDoor.Cal
