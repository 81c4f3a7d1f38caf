/-
  The contracts of both ParseDurations.
-/
import Derived.Test.YtjdjbjblblmdjaaDoorKtd
import Derived.Test.YtjdjbjblblmdjaaDoorTxtDurM
namespace Go.Proofs.YtjdjbjblblmdjaaDoor
set_option linter.unusedVariables false
set_option linter.unusedSimpArgs false
open Go.ChangeShapes Go.WideShapes Go.ChangeAt Go.RowKit

theorem ext_mkT (l : List UInt8) (a b : Nat) : (⟨l.toArray⟩ : ByteArray).extract a b = ⟨((l.take b).drop a).toArray⟩ := by
  apply ByteArray.ext; simp [List.drop_take]
set_option maxHeartbeats 1000000 in
theorem plain_any (l : List UInt8) (w : World) (h : 1 ≤ l.length) (hl : l.length ≤ 11) :
    Calls Tryd.prog 35 #[.string ⟨l.toArray⟩] w fun e w' => e = .returned (.bool (Txt.plainL l)) ∧ w = w' := by
  have hpl := Txt.plain_iff l h
  have hg0 : (⟨l.toArray⟩ : ByteArray)[0]'h = l.getD 0 0 := by
    rw [List.getD_eq_getElem?_getD, List.getElem?_eq_getElem h]; rfl
  obtain ⟨c, hc⟩ : ∃ c, c = l.getD 0 0 := ⟨_, rfl⟩
  rw [← hc] at hg0 hpl
  clear hc
  have i0 : (0 : Int) < (l.length : Int) := by omega
  by_cases h1 : l.length = 1
  · have b1 : ((l.length : Int) == 1) = true := by simp; omega
    have HP : Hid (Txt.plainL l = true) := hpl.2 (by omega)
    clear hpl h1
    go_enter Tryd.func35, Tryd.ntmps35
    go_wp2
    go_ret
    exact ⟨ret_boolT HP.out.symm, rfl⟩
  · have b1 : ((l.length : Int) == 1) = false := by simp; omega
    have b2 : (1 : Int) < (l.length : Int) := by omega
    by_cases h2 : c.toNat = 48
    · have b3 : ((c.toNat : Int) != 48) = false := by simp; omega
      have HP : Hid (Txt.plainL l = false) := by unfold Hid; rw [Bool.eq_false_iff]; intro q; exact hpl.1 q ⟨h2, by omega⟩
      clear hpl h1 h2
      go_enter Tryd.func35, Tryd.ntmps35
      go_wp2
      go_ret
      exact ⟨ret_boolT HP.out.symm, rfl⟩
    · have b3 : ((c.toNat : Int) != 48) = true := by simp; omega
      have HP : Hid (Txt.plainL l = true) := hpl.2 (fun q => h2 q.1)
      clear hpl h1 h2
      go_enter Tryd.func35, Tryd.ntmps35
      go_wp2
      go_ret
      exact ⟨ret_boolT HP.out.symm, rfl⟩
theorem and4 (a b c x : Bool) (h : true = (a && b && c && !x)) : a = true ∧ b = true := by
  cases a <;> cases b <;> simp at h ⊢
theorem duB_no (l : List UInt8) (h : Txt.duB l = false) : Txt.duV l = 0 ∧ Txt.duE l = 1 := by
  unfold Txt.duV Txt.duE; rw [h]; simp
set_option maxHeartbeats 4000000 in
set_option maxRecDepth 100000 in
theorem pdur_ref_any (l : List UInt8) (w : World) (hs : l.length ≤ 9223372036854775807) :
    Calls Tryd.prog 24 #[.string ⟨l.toArray⟩] w fun e w' => e = .returned (.tuple #[.int .i64 (Txt.duV l), .int .i64 (Txt.duE l)]) ∧ w = w' := by
  have start : l = [] ∨ (∃ h : 1 ≤ l.length, ∃ c : UInt8, (⟨l.toArray⟩ : ByteArray)[0]'h = c ∧ ((c.toNat : Int) == 45) = false ∧ Txt.duR l = l ∧ Txt.duNeg l = false) ∨
      (∃ h : 1 ≤ l.length, ∃ c : UInt8, (⟨l.toArray⟩ : ByteArray)[0]'h = c ∧ ((c.toNat : Int) == 45) = true ∧ (⟨l.toArray⟩ : ByteArray).extract 1 l.length = ⟨(Txt.duR l).toArray⟩ ∧ Txt.duNeg l = true) := by
    cases l with
    | nil => exact .inl rfl
    | cons c t =>
      right
      by_cases hc : c = 45
      · subst hc
        refine .inr ⟨by simp, 45, rfl, rfl, ?_, (Txt.dash_iff _).2 ⟨t, rfl⟩⟩
        rw [Txt.duR_neg, ext_mkT, List.take_length]; rfl
      · have hn : Txt.duNeg (c :: t) = false := by
          rw [Bool.eq_false_iff]; intro q
          obtain ⟨t', h'⟩ := (Txt.dash_iff _).1 q
          exact hc (List.cons.inj h').1
        have hb : ((c.toNat : Int) == 45) = false := by
          have : c.toNat ≠ 45 := fun q => hc (UInt8.toNat_inj.1 q)
          simp; omega
        exact .inl ⟨by simp, c, rfl, hb, Txt.duR_pos _ hn, hn⟩
  have S := Lib.hid start
  clear start
  go_enter Tryd.func24, Tryd.ntmps24
  go_upto_region 1 with (fail)
  go_cut [4] (fun v4 wx => v4 = .bool (Txt.duNeg l) ∧ wx = w)
  case first =>
    rcases S.out with rfl | ⟨h1, c, hg0, hc, hr, hn⟩ | ⟨h1, c, hg0, hc, hr, hn⟩
    · go_wp2
      go_meet
      exact ⟨rfl, rfl⟩
    · have i0 : (0 : Int) < (l.length : Int) := by omega
      have N := Lib.hid hn
      clear hn hr
      go_wp2
      go_meet
      exact ⟨by rw [N.out], rfl⟩
    · have i0 : (0 : Int) < (l.length : Int) := by omega
      have N := Lib.hid hn
      clear hn hr
      go_wp2
      go_meet
      exact ⟨by rw [N.out], rfl⟩
  case rest =>
    obtain ⟨rfl, rfl⟩ := hcut
    go_upto_if 19 with (fail)
    go_cut [0, 4] (fun v0 v4 wx => v0 = .string ⟨(Txt.duR l).toArray⟩ ∧ v4 = .bool (Txt.duNeg l) ∧ wx = wc)
    case first =>
      rcases S.out with rfl | ⟨h1, c, hg0, hc, hr, hn⟩ | ⟨h1, c, hg0, hc, hr, hn⟩
      · rw [show Txt.duNeg [] = false from rfl]
        go_wp2
        go_meet
        exact ⟨rfl, rfl, rfl⟩
      · rw [hn]
        have HR := Lib.hid hr
        have HN := Lib.hid hn
        clear hr hn hc hg0
        go_wp2
        go_meet
        exact ⟨by rw [HR.out], by rw [HN.out], rfl⟩
      · rw [hn]
        have HR := Lib.hid hr
        have HN := Lib.hid hn
        have i1 : (1 : Int) ≤ (l.length : Int) := by omega
        clear hr hn hc hg0
        go_wp2
        go_meet
        exact ⟨by rw [HR.out], by rw [HN.out], rfl⟩
    case rest =>
      obtain ⟨rfl, rfl, rfl⟩ := hcut
      have hB : Hid (Txt.duB l = decide (4 ≤ (Txt.duR l).length ∧ (Txt.duR l).length ≤ 14 ∧ (Txt.duR l).getD ((Txt.duR l).length - 3) 0 = 58 ∧ Txt.allD ((Txt.duR l).take ((Txt.duR l).length - 3)) = true ∧ Txt.allD ((Txt.duR l).drop ((Txt.duR l).length - 3 + 1)) = true ∧ Txt.plainL ((Txt.duR l).take ((Txt.duR l).length - 3)) = true ∧ ¬ (Txt.duNeg l = true ∧ Txt.num ((Txt.duR l).take ((Txt.duR l).length - 3)) = 0 ∧ Txt.num ((Txt.duR l).drop ((Txt.duR l).length - 3 + 1)) = 0))) := rfl
      have hN : Hid (Txt.duN l = 60 * Txt.num ((Txt.duR l).take ((Txt.duR l).length - 3)) + Txt.num ((Txt.duR l).drop ((Txt.duR l).length - 3 + 1))) := rfl
      have hE : Hid (Txt.duE l = if Txt.duB l = true then (if Txt.num ((Txt.duR l).drop ((Txt.duR l).length - 3 + 1)) ≤ 59 ∧ Txt.duN l ≤ 1099511627776 then 0 else 5) else 1) := rfl
      have hV : Hid (Txt.duV l = if Txt.duE l = 0 then (if Txt.duNeg l = true then - Txt.duN l else Txt.duN l) else 0) := rfl
      have hrl : (Txt.duR l).length ≤ 9223372036854775807 := Nat.le_trans (Txt.duR_len l) hs
      generalize Txt.duR l = r at *
      generalize Txt.duNeg l = neg at *
      by_cases h4 : 4 ≤ r.length
      · have hg : (⟨r.toArray⟩ : ByteArray)[r.length - 3]'(by show r.length - 3 < r.length; omega) = r.getD (r.length - 3) 0 := by
          rw [List.getD_eq_getElem?_getD, List.getElem?_eq_getElem (by omega)]; rfl
        obtain ⟨hh, hhh⟩ : ∃ hh, hh = r.take (r.length - 3) := ⟨_, rfl⟩
        obtain ⟨mm, hmm⟩ : ∃ mm, mm = r.drop (r.length - 3 + 1) := ⟨_, rfl⟩
        obtain ⟨c, hcc⟩ : ∃ c, c = r.getD (r.length - 3) 0 := ⟨_, rfl⟩
        have x1 : (⟨r.toArray⟩ : ByteArray).extract 0 (r.length - 3) = ⟨hh.toArray⟩ := by rw [ext_mkT, hhh]; rfl
        have x2 : (⟨r.toArray⟩ : ByteArray).extract (r.length - 3 + 1) r.length = ⟨mm.toArray⟩ := by rw [ext_mkT, hmm, List.take_length]
        have l1 : hh.length = r.length - 3 := by rw [hhh]; simp
        have l2 : mm.length = 2 := by rw [hmm]; simp; omega
        have hB2 : Hid (Txt.duB l = decide (r.length ≤ 14 ∧ c = 58 ∧ Txt.allD hh = true ∧ Txt.allD mm = true ∧ Txt.plainL hh = true ∧ ¬ (neg = true ∧ Txt.num hh = 0 ∧ Txt.num mm = 0))) := by
          unfold Hid; rw [hB.out, ← hhh, ← hmm, ← hcc]; simp [h4]
        have hN2 : Hid (Txt.duN l = 60 * Txt.num hh + Txt.num mm) := by unfold Hid; rw [hN.out, ← hhh, ← hmm]
        have hE2 : Hid (Txt.duE l = if Txt.duB l = true then (if Txt.num mm ≤ 59 ∧ Txt.duN l ≤ 1099511627776 then 0 else 5) else 1) := by unfold Hid; rw [hE.out, ← hmm]
        rw [← hcc] at hg
        clear hhh hmm hcc hB hN hE S
        have i1 : ¬ (r.length : Int) - 3 < 1 := by omega
        have i2 : (r.length : Int) - 3 < (r.length : Int) := by omega
        have i3 : (0 : Int) ≤ (r.length : Int) - 3 := by omega
        have i4 : (0 : Int) ≤ (r.length : Int) - 3 + 1 := by omega
        have i5 : (r.length : Int) - 3 + 1 ≤ (r.length : Int) := by omega
        have i6 : (r.length : Int) - 3 ≤ (r.length : Int) := by omega
        have nn : Hid (((r.length : Int) - 3).toNat = r.length - 3 ∧ ((r.length : Int) - 3 + 1).toNat = r.length - 3 + 1) := ⟨by omega, by omega⟩
        by_cases h58 : c = 58
        · have b58 : ((c.toNat : Int) != 58) = false := by rw [h58]; rfl
          have D1 := fun w => digits_any ⟨hh.toArray⟩ 1 11 w (by show hh.length ≤ _; omega) (by omega)
          have D2 := fun w => digits_any ⟨mm.toArray⟩ 2 2 w (by show mm.length ≤ _; omega) (by omega)
          rw [show (⟨hh.toArray⟩ : ByteArray).data.toList = hh from rfl] at D1
          rw [show (⟨mm.toArray⟩ : ByteArray).data.toList = mm from rfl] at D2
          have e1 : digB hh 1 11 = (decide (r.length ≤ 14) && Txt.allD hh) := by
            unfold digB; rw [l1, Bool.eq_iff_iff, Bool.and_eq_true, decide_eq_true_eq, decide_eq_true_eq]
            exact ⟨fun ⟨a1, a2, a3⟩ => ⟨by omega, a3⟩, fun ⟨a1, a3⟩ => ⟨by omega, by omega, a3⟩⟩
          have e2 : digB mm 2 2 = Txt.allD mm := by
            unfold digB; rw [l2]
            cases Txt.allD mm <;> simp
          have v1 : r.length ≤ 14 → Txt.allD hh = true → digV hh 1 11 = Txt.num hh := by
            intro q1 q2; unfold digV; rw [if_pos ⟨by rw [l1]; omega, by rw [l1]; omega, q2⟩]
          have v2 : Txt.allD mm = true → digV mm 2 2 = Txt.num mm := by
            intro q2; unfold digV; rw [if_pos ⟨by rw [l2]; omega, by rw [l2]; omega, q2⟩]
          rw [e1] at D1
          rw [e2] at D2
          obtain ⟨d1, hd1⟩ : ∃ d1, d1 = (decide (r.length ≤ 14) && Txt.allD hh) := ⟨_, rfl⟩
          obtain ⟨d2, hd2⟩ : ∃ d2, d2 = Txt.allD mm := ⟨_, rfl⟩
          obtain ⟨d3, hd3⟩ : ∃ d3, d3 = Txt.plainL hh := ⟨_, rfl⟩
          obtain ⟨z1, hz1⟩ : ∃ z1, z1 = digV hh 1 11 := ⟨_, rfl⟩
          obtain ⟨z2, hz2⟩ : ∃ z2, z2 = digV mm 2 2 := ⟨_, rfl⟩
          rw [← hd1, ← hz1] at D1
          rw [← hd2, ← hz2] at D2
          have K1 : Hid (d1 = true → r.length ≤ 14 ∧ Txt.allD hh = true ∧ z1 = Txt.num hh ∧ 0 ≤ z1 ∧ z1 ≤ 100000000000) := by
            intro q
            rw [hd1, Bool.and_eq_true, decide_eq_true_eq] at q
            have w1 := v1 q.1 q.2
            have w2 := Txt.num_bd hh q.2
            have w3 : 10 ^ hh.length ≤ 10 ^ 11 := Nat.pow_le_pow_right (by omega) (by omega)
            exact ⟨q.1, q.2, hz1.trans w1, by rw [hz1, w1]; exact w2.1, by rw [hz1, w1]; omega⟩
          have K2 : Hid (d2 = true → z2 = Txt.num mm ∧ 0 ≤ z2 ∧ z2 ≤ 100) := by
            intro q
            have w1 := v2 (hd2.symm.trans q)
            have w2 := Txt.num_bd mm (hd2.symm.trans q)
            rw [l2] at w2
            exact ⟨hz2.trans w1, by rw [hz2, w1]; exact w2.1, by rw [hz2, w1]; omega⟩
          have KB : Hid (Txt.duB l = (d1 && d2 && d3 && !(neg && (z1 == 0) && (z2 == 0)))) := by
            unfold Hid
            rw [hB2.out, hd1, hd2, hd3]
            by_cases a1 : r.length ≤ 14
            · cases a2 : Txt.allD hh
              · simp [a1]
              · cases a3 : Txt.allD mm
                · simp
                · have w1 := v1 a1 a2
                  have w2 := v2 a3
                  rw [hz1, hz2, w1, w2]
                  cases a4 : Txt.plainL hh
                  · simp
                  · cases neg
                    · simp [a1, h58]
                    · simp only [a1, h58, Bool.true_and, decide_true, Bool.and_true, true_and]
                      rw [Bool.eq_iff_iff]
                      simp
            · simp [a1]
          clear hd1 hd2 hz1 hz2
          have P1 := fun w (q : r.length ≤ 14) => plain_any hh w (by omega) (by omega)
          rw [← hd3] at P1
          clear hd3
          have C1 := Lib.hid D1
          have C2 := Lib.hid D2
          have CP := Lib.hid P1
          have L1 := Lib.hid l1
          have L2 := Lib.hid l2
          have H58 := Lib.hid h58
          clear D1 D2 e1 e2 v1 v2 l1 l2 h58 P1
          obtain ⟨n1, n2⟩ := nn.out
          go_wp2_with fail
          refine (C1.out _).mono ?_
          rintro e w1 ⟨rfl, rfl⟩
          go_wp2_with fail
          refine (C2.out _).mono ?_
          rintro e w1 ⟨rfl, rfl⟩
          go_upto_region 9 with (fail)
          go_cut [71] (fun v wx => v = .bool (!Txt.duB l) ∧ wx = wc)
          case first =>
            cases d1
            · go_wp2
              go_meet
              exact ⟨by rw [KB.out]; rfl, rfl⟩
            · cases d2
              · go_wp2
                go_meet
                exact ⟨by rw [KB.out]; rfl, rfl⟩
              · obtain ⟨a1, a2, a3, a4, a5⟩ := K1.out rfl
                have A1 := Lib.hid a1
                clear a2 a3 a1
                cases d3
                · go_wp2_with (go_at_call 35; refine (CP.out _ A1.out).mono ?_; rintro e w2 ⟨rfl, rfl⟩)
                  go_meet
                  exact ⟨by rw [KB.out]; rfl, rfl⟩
                · cases neg
                  · go_wp2_with (go_at_call 35; refine (CP.out _ A1.out).mono ?_; rintro e w2 ⟨rfl, rfl⟩)
                    go_meet
                    exact ⟨by rw [KB.out]; rfl, rfl⟩
                  · cases y1 : (z1 == 0)
                    · have Y1 := Lib.hid y1
                      go_wp2_with (go_at_call 35; refine (CP.out _ A1.out).mono ?_; rintro e w2 ⟨rfl, rfl⟩)
                      go_meet
                      exact ⟨by rw [KB.out, Y1.out]; rfl, rfl⟩
                    · cases y2 : (z2 == 0)
                      all_goals
                        have Y1 := Lib.hid y1
                        have Y2 := Lib.hid y2
                        go_wp2_with (go_at_call 35; refine (CP.out _ A1.out).mono ?_; rintro e w2 ⟨rfl, rfl⟩)
                        go_meet
                        exact ⟨by rw [KB.out, Y1.out, Y2.out]; rfl, rfl⟩
          case rest =>
            obtain ⟨rfl, rfl⟩ := hcut
            cases bb : Txt.duB l
            · have e := duB_no l bb
              have E := Lib.hid e
              clear e bb
              go_wp2
              go_ret2
              exact ⟨by rw [E.out.1, E.out.2]; rfl, rfl⟩
            · have kb := KB.out
              rw [bb] at kb
              obtain ⟨g1, g2⟩ := and4 _ _ _ _ kb
              obtain ⟨a1, a2, a3, a4, a5⟩ := K1.out g1
              obtain ⟨b1, b2, b3⟩ := K2.out g2
              have hE3 : Hid (Txt.duE l = if z2 ≤ 59 ∧ Txt.duN l ≤ 1099511627776 then 0 else 5) := by unfold Hid; rw [hE2.out, if_pos bb, ← b1]
              have hN3 : Hid (Txt.duN l = 60 * z1 + z2) := by unfold Hid; rw [hN2.out, ← a3, ← b1]
              clear kb g1 g2 a1 a2 a3 b1 KB K1 K2 bb
              by_cases t1 : z2 ≤ 59
              · by_cases t2 : 60 * z1 + z2 ≤ 1099511627776
                · have W : Hid (Txt.duE l = 0) := by unfold Hid; rw [hE3.out, hN3.out, if_pos ⟨t1, t2⟩]
                  cases neg
                  · have W2 : Hid (Txt.duV l = 60 * z1 + z2) := by unfold Hid; rw [hV.out, if_pos W.out, hN3.out]; rfl
                    go_wp2
                    go_ret2
                    exact ⟨by rw [W.out, W2.out]; rfl, rfl⟩
                  · have W2 : Hid (Txt.duV l = - (60 * z1 + z2)) := by unfold Hid; rw [hV.out, if_pos W.out, hN3.out]; rfl
                    go_wp2
                    go_ret2
                    exact ⟨by rw [W.out, W2.out]; rfl, rfl⟩
                · have W : Hid (Txt.duE l = 5) := by unfold Hid; rw [hE3.out, hN3.out, if_neg (by omega)]
                  have W2 : Hid (Txt.duV l = 0) := by unfold Hid; rw [hV.out, W.out]; rfl
                  go_wp2
                  go_ret2
                  exact ⟨by rw [W.out, W2.out]; rfl, rfl⟩
              · have W : Hid (Txt.duE l = 5) := by unfold Hid; rw [hE3.out, if_neg (by omega)]
                have W2 : Hid (Txt.duV l = 0) := by unfold Hid; rw [hV.out, W.out]; rfl
                go_wp2
                go_ret2
                exact ⟨by rw [W.out, W2.out]; rfl, rfl⟩
        · have b58 : ((c.toNat : Int) != 58) = true := by
            have : c.toNat ≠ 58 := fun q => h58 (UInt8.toNat_inj.1 q)
            simp; omega
          have e := duB_no l (by rw [hB2.out]; simp [h58])
          have E := Lib.hid e
          clear e h58
          obtain ⟨n1, n2⟩ := nn.out
          go_wp2
          go_ret2
          exact ⟨by rw [E.out.1, E.out.2]; rfl, rfl⟩
      · have e := duB_no l (by rw [hB.out]; simp; omega)
        have E := Lib.hid e
        clear e
        go_wp2
        go_ret2
        exact ⟨by rw [E.out.1, E.out.2]; rfl, rfl⟩

end Go.Proofs.YtjdjbjblblmdjaaDoor
