/-
  The contract of divDigits of pairingref1.
-/
import Derived.Test.YtifdimpfgglieaaDgI
namespace Go.Proofs.Ytifdimpfgglieaa
set_option linter.unusedVariables false
set_option linter.unusedSimpArgs false
open Go.ChangeShapes Go.WideShapes Go.ChangeAt Go.RowKit

theorem dg_keep {w w' : World} {base : Nat} {e : TypeId} {v : Value} {n : Nat} {xs : List Value} (h : w.ownsRow base e 1 v n xs) (hb : Below w.heap.size w w') : w'.ownsRow base e 1 v n xs :=
  h.kept (gb_of_below hb none) (by cases hv : v.ownBlock <;> simp)
theorem bl_le (x k : Nat) (h : (dgs x).length ≤ k) : blN x ≤ 32 * k := by
  have h1 := Nat.lt_of_lt_of_le (dlt x) (pw_le h)
  rw [pw_two] at h1
  by_cases hx : x = 0
  · subst hx; simp [blN]
  · unfold blN
    rw [if_neg hx]
    have := (Nat.log2_lt hx).2 h1
    omega
theorem bl_iv (A : Option Addr) (c : Nat) (x : Nat) (n : Nat) (w : World) (h : DgA w A c (dgs x)) (hn : (dgs x).length = n) (hs : n ≤ 100) :
    Calls Try.prog 32 #[.slice A n c] w fun e w' => e = .returned (.int .i64 (blN x : Nat)) ∧ w = w' := by
  subst hn
  have := bitlen_any A c (dgs x) w h hs
  rw [val_dgs] at this
  exact this
theorem shift_iv (A : Option Addr) (c : Nat) (x : Nat) (n k : Nat) (w : World) (h : DgA w A c (dgs x)) (hn : (dgs x).length = n) (hs : n ≤ 100) (hk : k ≤ 1000) :
    Calls Try.prog 33 #[.slice A n c, .int .i64 k] w (DgP w (x * 2 ^ k)) := by
  subst hn
  have := shift_any A c (dgs x) k w h hs hk
  rw [val_dgs] at this
  exact this
theorem half_iv (A : Option Addr) (c : Nat) (x : Nat) (w : World) (h : DgA w A c (dgs x)) (hs : (dgs x).length ≤ 100) :
    Calls Try.prog 34 #[.slice A (dgs x).length c] w (DgP w (x / 2)) := by
  have := half_any A c (dgs x) w h hs
  rw [val_dgs] at this
  exact this
theorem len_of_bits (v b k : Nat) (h : v < 2 ^ b) (hb : b ≤ 32 * k) : (dgs v).length ≤ k := by
  apply dgs_len_of
  rw [pw_two]
  exact Nat.lt_of_lt_of_le h (Nat.pow_le_pow_right (by decide) hb)
def DvP (w : World) (q r : Nat) (e : Ending) (w' : World) : Prop := ∃ A c B d, e = .returned (.tuple #[.slice A (dgs q).length c, .slice B (dgs r).length d]) ∧ DgA w' A c (dgs q) ∧ DgA w' B d (dgs r) ∧ Below w.heap.size w w'
theorem DvP.of {w w' : World} {A B : Option Addr} {c d v r : Nat} {l : List Nat} (h : DgA w' A c l) (h2 : DgA w' B d (dgs r)) (hb : Below w.heap.size w w') (hv : val l = v) : DvP w v r (.returned (.tuple #[.slice A (dgs (val l)).length c, .slice B (dgs r).length d])) w' := by
  subst hv; exact ⟨A, c, B, d, rfl, h.trim, h2, hb⟩
/-- What holds at the head of a round of the division. -/
structure DivW (w : World) (qb : Nat) (x y n k : Nat) (q : List Nat) (R dv : Nat) (Ar Ad : Option Addr) (cr cd : Nat) (wr : World) : Prop where
  I : DivI x y n q R k
  own : wr.ownsRow w.heap.size 36 1 (.slice (some ⟨qb, 0, none⟩) (n / 32 + 1) (n / 32 + 1)) (n / 32 + 1) (dgV q)
  r : DgA wr Ar cr (dgs R)
  d : DgA wr Ad cd (dgs dv)
  dvk : 0 < k → dv = y * 2 ^ (k - 1)
  nr : ∀ g, Ar = some ⟨g, 0, none⟩ → dgs R ≠ [] → g ≠ qb
  nd : ∀ g, Ad = some ⟨g, 0, none⟩ → dgs dv ≠ [] → g ≠ qb
  bel : Below w.heap.size w wr
set_option maxHeartbeats 1000000 in
set_option maxRecDepth 100000 in
theorem div_any (A B : Option Addr) (c d x y n m : Nat) (w : World) (ha : DgA w A c (dgs x)) (hb : DgA w B d (dgs y)) (hn : (dgs x).length = n) (hm : (dgs y).length = m) (hs : n ≤ 20) (hs2 : m ≤ 20) (hy : y ≠ 0) :
    Calls Try.prog 15 #[.slice A n c, .slice B m d] w (DvP w (x / y) (x % y)) := by
  obtain ⟨i0, hi, hi0, hi1, hi2⟩ := info_parts Try.infoU32
  subst hn hm
  have KT := Lib.hid (trim_iv A c x _ w ha rfl (by omega))
  have KX := Lib.hid (fun w' hb => bl_iv A c x _ w' (ha.next hb) rfl (by omega))
  have KY := Lib.hid (fun w' hb' => bl_iv B d y _ w' (hb.next hb') rfl (by omega))
  have KS := Lib.hid (fun w' k hb' hk => shift_iv B d y _ k w' (hb.next hb') rfl (by omega) hk)
  have HA := Lib.hid ha
  have HB := Lib.hid hb
  have hX := bl_le x 20 (by omega)
  have hY := bl_le y 20 (by omega)
  have HXL : Hid (∀ v, v < 2 ^ (blN x) → (dgs v).length ≤ 20) := fun v hv => len_of_bits v _ 20 hv hX
  have HXX : Hid (x < 2 ^ blN x) := blN_lt x
  have HYY : Hid (y < 2 ^ blN y) := blN_lt y
  have HS := Lib.hid (div_small x y)
  have ST := Lib.hid (fun k => DivI.start x y hy k)
  obtain ⟨bx, hbx⟩ : ∃ b, blN x = b := ⟨_, rfl⟩
  obtain ⟨by', hby⟩ : ∃ b, blN y = b := ⟨_, rfl⟩
  rw [hbx] at KX hX HS ST HXL HXX
  rw [hby] at KY hY HS ST HYY
  have HDA : Hid (DgA w A c (dgs x)) := ha
  clear ha hb hbx hby
  go_enter Try.func15, Try.ntmps15
  by_cases hlt : bx < by'
  · have QZ : Hid (x / y = 0 ∧ x % y = x) := HS.out hlt
    have h1 : (bx : Int) - (by' : Int) < 0 := by omega
    go_wp2_with (first
      | (go_at_call 24; (with_reducible refine KT.out.mono ?_); rintro e w' ⟨rfl, hw⟩; subst hw)
      | (at_builtin; refine wpList_append_dg rfl _ _ 22 rfl 36 i0 (.int .u32 0) Try.underlying22 hi hi0 hi1 hi2 rfl rfl (A := A) (c := c) (l := dgs x) rfl HDA.out (by omega) ?_; intro A' c' w2 hd2 hb2; have BX := Lib.hid hb2; have DR := Lib.hid hd2; clear hb2 hd2)
      | (go_at_call 32; (with_reducible refine (KX.out _ BX.out).mono ?_); rintro e w' ⟨rfl, hw⟩; subst hw)
      | (go_at_call 32; (with_reducible refine (KY.out _ BX.out).mono ?_); rintro e w' ⟨rfl, hw⟩; subst hw))
    go_ret2
    rw [QZ.out.1, QZ.out.2]
    exact ⟨none, 0, A', c', by rw [dgs_zero]; rfl, ⟨dgs_dg _, by rw [dgs_zero]; exact Nat.le_refl _, fun _ => rfl, fun q => absurd dgs_zero q⟩, DR.out, BX.out⟩
  · obtain ⟨n, hn⟩ : ∃ n : Nat, (bx : Int) - (by' : Int) = (n : Int) := ⟨bx - by', by omega⟩
    have HST : Hid (DivI x y n (List.replicate (n / 32 + 1) 0) x (n + 1)) := ST.out n (by omega)
    have hn640 : n ≤ 640 := by omega
    have HBN : Hid (bx = by' + n) := by unfold Hid; omega
    have HDL : Hid (∀ k, k ≤ n → (dgs (y * 2 ^ k)).length ≤ 20) := by
      intro k hk
      apply HXL.out
      have h1 : y * 2 ^ k ≤ y * 2 ^ n := Nat.mul_le_mul_left _ (Nat.pow_le_pow_right (by decide) hk)
      have h2 : y * 2 ^ n < 2 ^ by' * 2 ^ n := Nat.mul_lt_mul_of_pos_right HYY.out (Nat.pow_pos (by decide))
      rw [← Nat.pow_add, ← HBN.out] at h2
      omega
    obtain ⟨p, hp⟩ : ∃ p, n / 32 = p := ⟨_, rfl⟩
    have hp1 : (n : Int) / 32 = (p : Int) := by omega
    have hpl : p ≤ 20 := by omega
    have HP := Lib.hid hp
    have hbl : (by' : Int) ≤ (bx : Int) := by omega
    clear hp hlt
    go_upto_region 5 with (first
      | (go_at_call 24; (with_reducible refine KT.out.mono ?_); rintro e w' ⟨rfl, hw⟩; subst hw)
      | (at_builtin; refine wpList_append_dg rfl _ _ 22 rfl 36 i0 (.int .u32 0) Try.underlying22 hi hi0 hi1 hi2 rfl rfl (A := A) (c := c) (l := dgs x) rfl HDA.out (by omega) ?_; intro A' c' w2 hd2 hb2; have BX := Lib.hid hb2; have DR := Lib.hid hd2; clear hb2 hd2)
      | (go_at_call 32; (with_reducible refine (KX.out _ BX.out).mono ?_); rintro e w' ⟨rfl, hw⟩; subst hw)
      | (go_at_call 32; (with_reducible refine (KY.out _ BX.out).mono ?_); rintro e w' ⟨rfl, hw⟩; subst hw))
    go_wp2_with (refine wpList_make_full _ rfl _ _ 22 rfl w.heap.size 36 i0 (.int .u32 0) 1 Try.underlying22 hi hi0 hi1 .i64 .i64 _ _ (p + 1) rfl rfl (by first | rfl | omega | simp) (by first | rfl | omega | simp) ?m1 ?m2 ?m3 ?_)
    case m1 => rw [hi2]; omega
    case m2 => unfold maxLen; omega
    case m3 => exact BX.out.size
    intro w3 hown hgrow
    have OW0 : Hid (w3.ownsRow w.heap.size 36 1 (.slice (some ⟨w2.heap.size, 0, none⟩) (p + 1) (p + 1)) (p + 1) (dgV (List.replicate (p + 1) 0))) := by
      rw [made_dg] at hown; exact hown
    have BG : Hid (Below w2.heap.size w2 w3) := (Below.refl _ _).grown hgrow (Nat.le_refl _) (fun k hk => by cases hk)
    have DR0 := DR
    have DR := Lib.hid (DR.out.next BG.out)
    have BX := Lib.hid (BX.out.trans (BG.out.mono BX.out.size))
    clear hown hgrow BG
    have NRX := Lib.hid (DR0.out.lt)
    have NQX : Hid (w2.heap.size < w3.heap.size) := (OW0.out.lt w2.heap.size rfl).2
    generalize w2.heap.size = qb at *
    go_wp2_with (go_at_call 33; (with_reducible refine (KS.out _ n BX.out (by omega)).mono ?_); rintro e w4 ⟨Ad, cd, rfl, hd, hb⟩; have DR := Lib.hid (DR.out.next hb); have DD := Lib.hid hd.toDgA; have NDX := Lib.hid hd.new; have OW0 := Lib.hid (dg_keep OW0.out hb); have BX := Lib.hid (BX.out.trans (hb.mono BX.out.size)); clear hd hb)
    go_loopw [6, 9, 10] (fun r dd i wr => ∃ (k : Nat) (q : List Nat) (R dv : Nat) (Ar Ad : Option Addr) (cr cd : Nat), k ≤ n + 1 ∧ r = .slice Ar (dgs R).length cr ∧ dd = .slice Ad (dgs dv).length cd ∧ i = .int .i64 ((k : Int) - 1) ∧ Hid (DivW w qb x y n k q R dv Ar Ad cr cd wr)) (fun _ _ i _ => (intOf i + 1).toNat)
    case atStart =>
      refine ⟨n + 1, _, x, y * 2 ^ n, A', Ad, c', cd, Nat.le_refl _, rfl, rfl, congrArg (Value.int .i64) (by omega), ⟨HST.out, ?_, DR.out, DD.out, fun _ => rfl, fun g e q => Nat.ne_of_lt (NRX.out g e q), fun g e q => Nat.ne_of_gt (Nat.lt_of_lt_of_le NQX.out (NDX.out g e)), BX.out⟩⟩
      have := OW0.out
      rw [← HP.out] at this
      exact this
    case round =>
      clear OW0 DR DD BX HST
      obtain ⟨k, q, R, dv, Ar, Ad, cr, cd, hk, rfl, rfl, rfl, DW⟩ := hrel
      cases k with
      | zero =>
        have KT0 := trim_any _ _ q wr (DgA.of_own DW.out.own DW.out.I.len DW.out.I.dg) (by rw [DW.out.I.len]; omega)
        rw [DW.out.I.len, HP.out] at KT0
        have KT2 := Lib.hid KT0
        clear KT0
        go_wp2_with (go_at_call 24; (with_reducible refine KT2.out.mono ?_); rintro e w' ⟨rfl, hw⟩; subst hw)
        go_ret2
        have E := DW.out.I.done hy
        rw [← E.2]
        have DQ := DgA.of_own DW.out.own DW.out.I.len DW.out.I.dg
        rw [HP.out] at DQ
        exact DvP.of DQ DW.out.r DW.out.bel E.1
      | succ j =>
        have hdv := DW.out.dvk (by omega)
        rw [Nat.add_sub_cancel] at hdv
        subst hdv
        have hi1 : ((j + 1 : Nat) : Int) - 1 = (j : Int) := by omega
        rw [hi1]
        clear hi1
        have QLT : Hid (qb < wr.heap.size) := (DW.out.own.lt qb rfl).2
        have hRx : Hid (R ≤ x) := by have := DW.out.I.eq; unfold Hid; omega
        have hRl : (dgs R).length ≤ 20 := Nat.le_trans (dgs_len_le _ _ hRx.out) hs
        have hDl : (dgs (y * 2 ^ j)).length ≤ 20 := HDL.out j (by omega)
        have KC := Lib.hid (cmp_iv Ar Ad cr cd R (y * 2 ^ j) _ _ wr DW.out.r DW.out.d rfl rfl (by omega) (by omega))
        have SK := Lib.hid (fun h => DW.out.I.skip (i := j) h)
        have TK := Lib.hid (fun h => DW.out.I.take (i := j) (by omega) h)
        have OE := Lib.hid DW.out.I.or_eq
        obtain ⟨dv, hdv⟩ : ∃ dv, y * 2 ^ j = dv := ⟨_, rfl⟩
        have HV := Lib.hid hdv
        rw [hdv] at KC SK TK
        have DWd : Hid (DgA wr Ad cd (dgs dv)) := by rw [← hdv]; exact DW.out.d
        have ND9 : Hid (∀ g, Ad = some ⟨g, 0, none⟩ → dgs dv ≠ [] → g ≠ qb) := by rw [← hdv]; exact DW.out.nd
        have hh0 : 0 < j → dv / 2 = y * 2 ^ (j - 1) := by
          intro q
          rw [← hdv]
          obtain ⟨i, rfl⟩ : ∃ i, j = i + 1 := ⟨j - 1, by omega⟩
          rw [Nat.add_sub_cancel, Nat.pow_succ, ← Nat.mul_assoc, Nat.mul_div_cancel _ (by decide)]
        have HH := Lib.hid hh0
        rw [hdv] at hDl ⊢
        clear hdv hh0
        obtain ⟨z, hz⟩ : ∃ z, cmpN R dv = z := ⟨_, rfl⟩
        rw [hz] at KC
        have hj0 : (0 : Int) ≤ (j : Int) := by omega
        have hjn : j ≤ n := by omega
        have hww : IntKind.i64.wrap ((j : Int) - 1) = (j : Int) - 1 := IntWalk.i64_in _ (by omega)
        by_cases hlt : R < dv
        · have hz0 : z < 0 := by rw [← hz]; unfold cmpN; rw [if_pos hlt]; decide
          have NX := Lib.hid (SK.out hlt)
          clear hz hlt
          go_wp2_with (first
            | (go_at_call 22; (with_reducible refine KC.out.mono ?_); rintro e w5 ⟨rfl, hb⟩; have B5 := Lib.hid hb; clear hb)
            | (go_at_call 34; (with_reducible refine (half_iv Ad cd dv _ (DWd.out.next B5.out) (by omega)).mono ?_); rintro e w6 ⟨A6, c6, rfl, hd, hb⟩; have B6 := Lib.hid (B5.out.trans (hb.mono B5.out.size)); have D6 := Lib.hid hd.toDgA; have N6 : Hid (∀ g, A6 = some ⟨g, 0, none⟩ → g ≠ qb) := fun g e => Nat.ne_of_gt (Nat.lt_of_lt_of_le (Nat.lt_of_lt_of_le QLT.out B5.out.size) (hd.new g e)); clear hb hd))
          go_roundw
          case rel => exact ⟨j, q, R, dv / 2, Ar, A6, cr, c6, by omega, rfl, rfl, rfl, ⟨NX.out, dg_keep DW.out.own B6.out, DW.out.r.next B6.out, D6.out, HH.out, DW.out.nr, (fun g e _ => N6.out g e), DW.out.bel.trans (B6.out.mono DW.out.bel.size)⟩⟩
          case measure => first | (simp [intOf]; done) | (simp [intOf]; omega)
        · have hz0 : 0 ≤ z := by rw [← hz]; unfold cmpN; (repeat' split) <;> omega
          have hge : dv ≤ R := by omega
          have NX := Lib.hid (TK.out hge)
          have KS2 := Lib.hid (fun w' hb => sub_iv Ar Ad cr cd R dv _ _ w' (DW.out.r.next hb) (DWd.out.next hb) rfl rfl (by omega) hge)
          clear hz hlt
          obtain ⟨pj, hpj⟩ : ∃ pj, j / 32 = pj := ⟨_, rfl⟩
          obtain ⟨rj, hrj⟩ : ∃ rj, j % 32 = rj := ⟨_, rfl⟩
          have e1 : (j : Int) / 32 = (pj : Int) := by omega
          have e2 : (j : Int) % 32 = (rj : Int) := by omega
          have hpjl : pj < p + 1 := by have := HP.out; omega
          have hrl : rj < 32 := by omega
          obtain ⟨T, hT⟩ : ∃ T, 2 ^ rj = T := ⟨_, rfl⟩
          have hTl : T < 4294967296 := by
            rw [← hT]
            have : 2 ^ rj ≤ 2 ^ 31 := Nat.pow_le_pow_right (by decide) (by omega)
            omega
          have e3 : IntKind.u32.wrap ((2 : Int) ^ rj) = (T : Int) := by
            have : ((2 : Int) ^ rj) = (T : Int) := by rw [← hT]; push_cast; rfl
            rw [this]
            simp only [IntKind.wrap, IntKind.bits, IntKind.signed]
            first | omega | (simp; done) | (simp; omega)
          have OE2 := OE.out
          have NX2 := NX.out
          rw [hpj, hrj, hT] at OE2 NX2
          have hq0 : q.getD pj 0 < 4294967296 := getD_lt q DW.out.I.dg pj
          have e4 : bits .or .u32 ((q.getD pj 0 : Nat) : Int) (T : Int) = ((q.getD pj 0 + T : Nat) : Int) := by rw [or_u32 _ _ hq0 hTl, OE2.1]
          have OWN0 : wr.ownsRow w.heap.size 36 1 (.slice (some ⟨qb, 0, none⟩) (p + 1) (p + 1)) (p + 1) (dgV q) := by have := DW.out.own; rw [HP.out] at this; exact this
          have OWN := Lib.hid OWN0
          have HQL : Hid (q.length = p + 1) := by have := DW.out.I.len; rw [HP.out] at this; exact this
          have QC : Hid (∀ w', Below wr.heap.size wr w' → w'.cell? ⟨qb, pj, none⟩ = some (.int .u32 ((q.getD pj 0 : Nat) : Int)) ∧ w'.frozen? ⟨qb, pj, none⟩ = false) := fun w' hb => ⟨dg_cell (dg_keep OWN.out hb) HQL.out pj hpjl, (dg_keep OWN.out hb).frozenAt pj⟩
          have NX2 := Lib.hid NX2
          clear OE2 hT hpj hrj OWN0 NX OE SK TK
          generalize q.getD pj 0 = y0 at *
          have hpj2 : (pj : Int) < ((p + 1 : Nat) : Int) := by omega
          go_wp2_with (first
            | (go_at_call 22; (with_reducible refine KC.out.mono ?_); rintro e w5 ⟨rfl, hb⟩; have B5 := Lib.hid hb; clear hb)
            | (go_at_call 23; (with_reducible refine (KS2.out _ B5.out).mono ?_); rintro e w6 ⟨A6, c6, rfl, hd, hb⟩; have B6 := Lib.hid (B5.out.trans (hb.mono B5.out.size)); have D6 := Lib.hid hd.toDgA; have N6 : Hid (∀ g, A6 = some ⟨g, 0, none⟩ → g ≠ qb) := fun g e => Nat.ne_of_gt (Nat.lt_of_lt_of_le (Nat.lt_of_lt_of_le QLT.out B5.out.size) (hd.new g e)); have q1 := (QC.out _ B6.out).1; have q2 := (QC.out _ B6.out).2; clear hb hd))
          have NDD : Hid (∀ g, Ad = some ⟨g, 0, none⟩ → dgs dv ≠ [] → g ≠ qb) := ND9.out
          obtain ⟨z1, z2⟩ := dg_store (g := qb) (k := pj) (d := y0 + T) (v := (y0 : Int) + (T : Int)) (dg_keep OWN.out B6.out) (DW.out.bel.trans (B6.out.mono DW.out.bel.size)) (by omega)
          have D7 := Lib.hid (D6.out.store (qb := qb) (o := pj) (fun g e _ => N6.out g e) (.int .u32 ((y0 : Int) + (T : Int))))
          have D8 := Lib.hid ((DWd.out.next B6.out).store (qb := qb) (o := pj) NDD.out (.int .u32 ((y0 : Int) + (T : Int))))
          have Q8 : qb < (w6.setCell ⟨qb, pj, none⟩ (.int .u32 ((y0 : Int) + (T : Int)))).heap.size := by have h1 := QLT.out; have h2 := B6.out.size; simp; omega
          have QL8 := Lib.hid Q8
          clear Q8 q1 q2
          generalize w6.setCell ⟨qb, pj, none⟩ (.int .u32 ((y0 : Int) + (T : Int))) = w7 at *
          refine (half_iv Ad cd dv _ D8.out (by omega)).mono ?_
          rintro e w8 ⟨A8, c8, rfl, hd, hb⟩
          have B8 := Lib.hid hb
          have D9 := Lib.hid hd.toDgA
          have N8 : Hid (∀ g, A8 = some ⟨g, 0, none⟩ → g ≠ qb) := fun g e => Nat.ne_of_gt (Nat.lt_of_lt_of_le QL8.out (hd.new g e))
          clear hd hb
          go_wp2
          go_roundw
          case rel =>
            refine ⟨j, _, R - dv, dv / 2, A6, A8, c6, c8, by omega, rfl, rfl, rfl, ⟨NX2.out, ?_, D7.out.next B8.out, D9.out, HH.out, (fun g e _ => N6.out g e), (fun g e _ => N8.out g e), z2.out.trans (B8.out.mono z2.out.size)⟩⟩
            have := dg_keep z1.out B8.out
            rw [HP.out]
            exact this
          case measure => first | (simp [intOf]; done) | (simp [intOf]; omega)

end Go.Proofs.Ytifdimpfgglieaa
