/-
  The reference's parser where it has failed. Printed by wip/mkrz.py.
-/
import Derived.Test.YtgcjkfkfdehpcaaGreatRzS
import Derived.Deep.LoopGhost
namespace Go.Proofs.YtgcjkfkfdehpcaaGreat
set_option linter.unusedVariables false
set_option linter.unusedSimpArgs false
open Go.ChangeShapes Go.WideShapes Go.ChangeAt Go.RowKit
open Go.Deep (BT)

set_option maxHeartbeats 600000 in
set_option maxRecDepth 100000 in
theorem fc_bad (L : List Tk.T4) : RB 110 L := by
  intro sb p cap j w h
  have H := Lib.hid h
  have hlt := rbd_lt h
  have E0 : Hid (Pz.Env w w sb (RSO sb L p cap none j) [] [] []) := Pz.Env.init h (rso_cl _ _ _ _ _ _) hlt (by intro c hc; cases hc)
  clear h
  go_enter Tryz.func110, Tryz.ntmps110
  go_wp2_with fail

  have E1 := Lib.hid (E0.out.box Pz.z0 #[.int .i64 0, .int .i64 0, .string ⟨#[]⟩, .slice none 0 0] rfl 25)
  generalize w.alloc (.cells #[.int .i64 0, .int .i64 0, .string ⟨#[]⟩, .slice none 0 0] 25) = w2 at *
  clear E0
  have hj : (0 : Int) ≤ (j : Int) := by omega
  obtain ⟨a, ha⟩ := (show RBd sb L p cap j w2 from E1.out.st)
  have c2 := ha.c2
  have sl := ha.lt
  clear ha
  go_quiet (fail)
  go_wp2_with fail
  have ED := Lib.hid (E1.out.below (below_drewN (Below.refl _ _) nq))
  generalize w2.drewN nq = w9 at *
  refine (fails_bad sb L p cap j w9 ED.out.st).mono ?_
  rintro e w8 ⟨rfl, hb⟩
  have E8 := Lib.hid (ED.out.below hb)
  clear hb ED c2 sl hj
  obtain ⟨b0c0, b0c1, b0c2, b0c3, b0f0, b0f1, b0f2, b0f3, b0lt⟩ := (E8.out.bx (w.heap.size, Pz.z0) (by simp)).1
  dsimp only [Pz.z0, len] at b0c0 b0c1 b0c2 b0c3 b0f0 b0f1 b0f2 b0f3 b0lt
  go_wp2
  refine bodyPost_ret (v := .agg #[.int .i64 0, .int .i64 0, .string ⟨#[]⟩, .slice none 0 0]) ?_ rfl ?_
  · rw [results_cell1 rfl]
    go_simp
  · exact ⟨Pz.z0, rfl, (E8.out).done4 Pz.z0 none (fun x hx => by cases hx) rfl rfl rfl rfl⟩

set_option maxHeartbeats 600000 in
set_option maxRecDepth 100000 in
theorem tm_bad (L : List Tk.T4) (h0 : RB 110 L) : RB 106 L := by
  intro sb p cap j w h
  have C0 := Lib.hid h0
  clear h0
  have H := Lib.hid h
  have hlt := rbd_lt h
  have E0 : Hid (Pz.Env w w sb (RSO sb L p cap none j) [] [] []) := Pz.Env.init h (rso_cl _ _ _ _ _ _) hlt (by intro c hc; cases hc)
  clear h
  go_enter Tryz.func106, Tryz.ntmps106
  go_wp2_with fail

  have E1 := Lib.hid (E0.out.box Pz.z0 #[.int .i64 0, .int .i64 0, .string ⟨#[]⟩, .slice none 0 0] rfl 25)
  generalize w.alloc (.cells #[.int .i64 0, .int .i64 0, .string ⟨#[]⟩, .slice none 0 0] 25) = w2 at *
  clear E0
  clear H
  refine (C0.out sb p cap j w2 E1.out.st).mono ?_
  rintro e w4 ⟨c, rfl, hf⟩
  obtain ⟨tsE3, hE, hc, hsub⟩ := E1.out.go hf (rso_cl _ _ _ _ _ _) (by intro d hd; cases hd)
  have E3 := Lib.hid hE
  have Tc := Lib.hid hc
  have Uc := Lib.hid hsub
  clear hf hE hc hsub E1
  try dsimp only
  go_wp2_with fail
  have E5 := Lib.hid (E3.out.box c #[.int .i64 c.a.op, .int .i64 c.a.num, .string c.a.name, .slice c.a.ptr (len c.k) c.a.cap] rfl 25)
  generalize hg7 : w4.heap.size = g7 at *
  generalize w4.alloc (.cells #[.int .i64 c.a.op, .int .i64 c.a.num, .string c.a.name, .slice c.a.ptr (len c.k) c.a.cap] 25) = w6 at *
  clear E3 hg7
  go_loopg [7] 0 (fun g u wr => ∃ ts, Hid (Pz.Env w wr sb (RSO sb L p cap none j) [] [(g7, c), (w.heap.size, Pz.z0)] ts))
  case atStart => exact ⟨_, E5.out⟩
  case round =>
    clear E5
    obtain ⟨ts, HR⟩ := hrel
    go_wp2_with fail
    refine (takes_bad sb L p cap j _ _ HR.out.st).mono ?_
    rintro e w52 ⟨rfl, hb⟩
    have E51 := Lib.hid (HR.out.below hb)
    clear hb HR
    go_wp2_with fail
    refine (takes_bad sb L p cap j _ _ E51.out.st).mono ?_
    rintro e w54 ⟨rfl, hb⟩
    have E53 := Lib.hid (E51.out.below hb)
    clear hb E51
    obtain ⟨b0c0, b0c1, b0c2, b0c3, b0f0, b0f1, b0f2, b0f3, b0lt⟩ := (E53.out.bx (g7, c) (by simp)).1
    dsimp only at b0c0 b0c1 b0c2 b0c3 b0f0 b0f1 b0f2 b0f3 b0lt
    obtain ⟨b1c0, b1c1, b1c2, b1c3, b1f0, b1f1, b1f2, b1f3, b1lt⟩ := (E53.out.bx (w.heap.size, Pz.z0) (by simp)).1
    dsimp only [Pz.z0, len] at b1c0 b1c1 b1c2 b1c3 b1f0 b1f1 b1f2 b1f3 b1lt
    go_wp2
    refine bodyPost_ret (v := .agg #[.int .i64 c.a.op, .int .i64 c.a.num, .string c.a.name, .slice c.a.ptr (len c.k) c.a.cap]) ?_ rfl ?_
    · rw [results_cell1 rfl]
      go_simp
    · exact ⟨c, rfl, (E53.out.tail).done4 c none (fun x hx => by cases hx) rfl rfl rfl rfl⟩

set_option maxHeartbeats 600000 in
set_option maxRecDepth 100000 in
theorem sm_bad (L : List Tk.T4) (h0 : RB 106 L) : RB 103 L := by
  intro sb p cap j w h
  have C0 := Lib.hid h0
  clear h0
  have H := Lib.hid h
  have hlt := rbd_lt h
  have E0 : Hid (Pz.Env w w sb (RSO sb L p cap none j) [] [] []) := Pz.Env.init h (rso_cl _ _ _ _ _ _) hlt (by intro c hc; cases hc)
  clear h
  go_enter Tryz.func103, Tryz.ntmps103
  go_wp2_with fail

  have E1 := Lib.hid (E0.out.box Pz.z0 #[.int .i64 0, .int .i64 0, .string ⟨#[]⟩, .slice none 0 0] rfl 25)
  generalize w.alloc (.cells #[.int .i64 0, .int .i64 0, .string ⟨#[]⟩, .slice none 0 0] 25) = w2 at *
  clear E0
  clear H
  refine (C0.out sb p cap j w2 E1.out.st).mono ?_
  rintro e w4 ⟨c, rfl, hf⟩
  obtain ⟨tsE3, hE, hc, hsub⟩ := E1.out.go hf (rso_cl _ _ _ _ _ _) (by intro d hd; cases hd)
  have E3 := Lib.hid hE
  have Tc := Lib.hid hc
  have Uc := Lib.hid hsub
  clear hf hE hc hsub E1
  try dsimp only
  go_wp2_with fail
  have E5 := Lib.hid (E3.out.box c #[.int .i64 c.a.op, .int .i64 c.a.num, .string c.a.name, .slice c.a.ptr (len c.k) c.a.cap] rfl 25)
  generalize hg7 : w4.heap.size = g7 at *
  generalize w4.alloc (.cells #[.int .i64 c.a.op, .int .i64 c.a.num, .string c.a.name, .slice c.a.ptr (len c.k) c.a.cap] 25) = w6 at *
  clear E3 hg7
  go_loopg [7] 0 (fun g u wr => ∃ ts, Hid (Pz.Env w wr sb (RSO sb L p cap none j) [] [(g7, c), (w.heap.size, Pz.z0)] ts))
  case atStart => exact ⟨_, E5.out⟩
  case round =>
    clear E5
    obtain ⟨ts, HR⟩ := hrel
    go_wp2_with fail
    refine (takes_bad sb L p cap j _ _ HR.out.st).mono ?_
    rintro e w52 ⟨rfl, hb⟩
    have E51 := Lib.hid (HR.out.below hb)
    clear hb HR
    go_wp2_with fail
    refine (takes_bad sb L p cap j _ _ E51.out.st).mono ?_
    rintro e w54 ⟨rfl, hb⟩
    have E53 := Lib.hid (E51.out.below hb)
    clear hb E51
    obtain ⟨b0c0, b0c1, b0c2, b0c3, b0f0, b0f1, b0f2, b0f3, b0lt⟩ := (E53.out.bx (g7, c) (by simp)).1
    dsimp only at b0c0 b0c1 b0c2 b0c3 b0f0 b0f1 b0f2 b0f3 b0lt
    obtain ⟨b1c0, b1c1, b1c2, b1c3, b1f0, b1f1, b1f2, b1f3, b1lt⟩ := (E53.out.bx (w.heap.size, Pz.z0) (by simp)).1
    dsimp only [Pz.z0, len] at b1c0 b1c1 b1c2 b1c3 b1f0 b1f1 b1f2 b1f3 b1lt
    go_wp2
    refine bodyPost_ret (v := .agg #[.int .i64 c.a.op, .int .i64 c.a.num, .string c.a.name, .slice c.a.ptr (len c.k) c.a.cap]) ?_ rfl ?_
    · rw [results_cell1 rfl]
      go_simp
    · exact ⟨c, rfl, (E53.out.tail).done4 c none (fun x hx => by cases hx) rfl rfl rfl rfl⟩

set_option maxHeartbeats 600000 in
set_option maxRecDepth 100000 in
theorem cm_bad (L : List Tk.T4) (h0 : RB 103 L) : RB 98 L := by
  intro sb p cap j w h
  have C0 := Lib.hid h0
  clear h0
  have H := Lib.hid h
  have hlt := rbd_lt h
  have E0 : Hid (Pz.Env w w sb (RSO sb L p cap none j) [] [] []) := Pz.Env.init h (rso_cl _ _ _ _ _ _) hlt (by intro c hc; cases hc)
  clear h
  go_enter Tryz.func98, Tryz.ntmps98
  go_wp2_with fail

  have E1 := Lib.hid (E0.out.box Pz.z0 #[.int .i64 0, .int .i64 0, .string ⟨#[]⟩, .slice none 0 0] rfl 25)
  generalize w.alloc (.cells #[.int .i64 0, .int .i64 0, .string ⟨#[]⟩, .slice none 0 0] 25) = w2 at *
  clear E0
  clear H
  refine (C0.out sb p cap j w2 E1.out.st).mono ?_
  rintro e w4 ⟨c, rfl, hf⟩
  obtain ⟨tsE3, hE, hc, hsub⟩ := E1.out.go hf (rso_cl _ _ _ _ _ _) (by intro d hd; cases hd)
  have E3 := Lib.hid hE
  have Tc := Lib.hid hc
  have Uc := Lib.hid hsub
  clear hf hE hc hsub E1
  try dsimp only
  go_upto_region 2 with (fail)
  have E5 := Lib.hid (E3.out.box c #[.int .i64 c.a.op, .int .i64 c.a.num, .string c.a.name, .slice c.a.ptr (len c.k) c.a.cap] rfl 25)
  generalize hg7 : w4.heap.size = g7 at *
  generalize w4.alloc (.cells #[.int .i64 c.a.op, .int .i64 c.a.num, .string c.a.name, .slice c.a.ptr (len c.k) c.a.cap] 25) = w6 at *
  clear E3 hg7
  go_wp2_with fail
  refine (takes_bad sb L p cap j _ _ E5.out.st).mono ?_
  rintro e w9 ⟨rfl, hb⟩
  have E8 := Lib.hid (E5.out.below hb)
  clear hb E5
  go_wp2_with fail
  refine (takes_bad sb L p cap j _ _ E8.out.st).mono ?_
  rintro e w11 ⟨rfl, hb⟩
  have E10 := Lib.hid (E8.out.below hb)
  clear hb E8
  go_wp2_with fail
  refine (takes_bad sb L p cap j _ _ E10.out.st).mono ?_
  rintro e w13 ⟨rfl, hb⟩
  have E12 := Lib.hid (E10.out.below hb)
  clear hb E10
  go_wp2_with fail
  refine (takes_bad sb L p cap j _ _ E12.out.st).mono ?_
  rintro e w15 ⟨rfl, hb⟩
  have E14 := Lib.hid (E12.out.below hb)
  clear hb E12
  obtain ⟨b0c0, b0c1, b0c2, b0c3, b0f0, b0f1, b0f2, b0f3, b0lt⟩ := (E14.out.bx (g7, c) (by simp)).1
  dsimp only at b0c0 b0c1 b0c2 b0c3 b0f0 b0f1 b0f2 b0f3 b0lt
  obtain ⟨b1c0, b1c1, b1c2, b1c3, b1f0, b1f1, b1f2, b1f3, b1lt⟩ := (E14.out.bx (w.heap.size, Pz.z0) (by simp)).1
  dsimp only [Pz.z0, len] at b1c0 b1c1 b1c2 b1c3 b1f0 b1f1 b1f2 b1f3 b1lt
  go_wp2
  refine bodyPost_ret (v := .agg #[.int .i64 c.a.op, .int .i64 c.a.num, .string c.a.name, .slice c.a.ptr (len c.k) c.a.cap]) ?_ rfl ?_
  · rw [results_cell1 rfl]
    go_simp
  · exact ⟨c, rfl, (E14.out.tail).done4 c none (fun x hx => by cases hx) rfl rfl rfl rfl⟩

set_option maxHeartbeats 600000 in
set_option maxRecDepth 100000 in
theorem ng_bad (L : List Tk.T4) (h0 : RB 98 L) : RB 85 L := by
  intro sb p cap j w h
  have C0 := Lib.hid h0
  clear h0
  have H := Lib.hid h
  have hlt := rbd_lt h
  have E0 : Hid (Pz.Env w w sb (RSO sb L p cap none j) [] [] []) := Pz.Env.init h (rso_cl _ _ _ _ _ _) hlt (by intro c hc; cases hc)
  clear h
  go_enter Tryz.func85, Tryz.ntmps85
  go_wp2_with fail

  have E1 := Lib.hid (E0.out.box Pz.z0 #[.int .i64 0, .int .i64 0, .string ⟨#[]⟩, .slice none 0 0] rfl 25)
  generalize w.alloc (.cells #[.int .i64 0, .int .i64 0, .string ⟨#[]⟩, .slice none 0 0] 25) = w2 at *
  clear E0
  clear H
  refine (takes_bad sb L p cap j _ _ E1.out.st).mono ?_
  rintro e w4 ⟨rfl, hb⟩
  have E3 := Lib.hid (E1.out.below hb)
  clear hb E1
  go_wp2_with fail
  refine (C0.out sb p cap j w4 E3.out.st).mono ?_
  rintro e w6 ⟨c, rfl, hf⟩
  obtain ⟨tsE5, hE, hc, hsub⟩ := E3.out.go hf (rso_cl _ _ _ _ _ _) (by intro d hd; cases hd)
  have E5 := Lib.hid hE
  have Tc := Lib.hid hc
  have Uc := Lib.hid hsub
  clear hf hE hc hsub E3
  try dsimp only
  obtain ⟨b0c0, b0c1, b0c2, b0c3, b0f0, b0f1, b0f2, b0f3, b0lt⟩ := (E5.out.bx (w.heap.size, Pz.z0) (by simp)).1
  dsimp only [Pz.z0, len] at b0c0 b0c1 b0c2 b0c3 b0f0 b0f1 b0f2 b0f3 b0lt
  go_wp2
  refine bodyPost_ret (v := .agg #[.int .i64 c.a.op, .int .i64 c.a.num, .string c.a.name, .slice c.a.ptr (len c.k) c.a.cap]) ?_ rfl ?_
  · rw [results_cell1 rfl]
    go_simp
  · exact ⟨c, rfl, (E5.out).done4 c none (fun x hx => by cases hx) rfl rfl rfl rfl⟩

set_option maxHeartbeats 600000 in
set_option maxRecDepth 100000 in
theorem cj_bad (L : List Tk.T4) (h0 : RB 85 L) : RB 66 L := by
  intro sb p cap j w h
  have C0 := Lib.hid h0
  clear h0
  have H := Lib.hid h
  have hlt := rbd_lt h
  have E0 : Hid (Pz.Env w w sb (RSO sb L p cap none j) [] [] []) := Pz.Env.init h (rso_cl _ _ _ _ _ _) hlt (by intro c hc; cases hc)
  clear h
  go_enter Tryz.func66, Tryz.ntmps66
  go_wp2_with fail

  have E1 := Lib.hid (E0.out.box Pz.z0 #[.int .i64 0, .int .i64 0, .string ⟨#[]⟩, .slice none 0 0] rfl 25)
  generalize w.alloc (.cells #[.int .i64 0, .int .i64 0, .string ⟨#[]⟩, .slice none 0 0] 25) = w2 at *
  clear E0
  clear H
  refine (C0.out sb p cap j w2 E1.out.st).mono ?_
  rintro e w4 ⟨c, rfl, hf⟩
  obtain ⟨tsE3, hE, hc, hsub⟩ := E1.out.go hf (rso_cl _ _ _ _ _ _) (by intro d hd; cases hd)
  have E3 := Lib.hid hE
  have Tc := Lib.hid hc
  have Uc := Lib.hid hsub
  clear hf hE hc hsub E1
  try dsimp only
  go_wp2_with fail
  have E5 := Lib.hid (E3.out.box c #[.int .i64 c.a.op, .int .i64 c.a.num, .string c.a.name, .slice c.a.ptr (len c.k) c.a.cap] rfl 25)
  generalize hg7 : w4.heap.size = g7 at *
  generalize w4.alloc (.cells #[.int .i64 c.a.op, .int .i64 c.a.num, .string c.a.name, .slice c.a.ptr (len c.k) c.a.cap] 25) = w6 at *
  clear E3 hg7
  go_loopg [7] 0 (fun g u wr => ∃ ts, Hid (Pz.Env w wr sb (RSO sb L p cap none j) [] [(g7, c), (w.heap.size, Pz.z0)] ts))
  case atStart => exact ⟨_, E5.out⟩
  case round =>
    clear E5
    obtain ⟨ts, HR⟩ := hrel
    go_wp2_with fail
    refine (takes_bad sb L p cap j _ _ HR.out.st).mono ?_
    rintro e w52 ⟨rfl, hb⟩
    have E51 := Lib.hid (HR.out.below hb)
    clear hb HR
    obtain ⟨b0c0, b0c1, b0c2, b0c3, b0f0, b0f1, b0f2, b0f3, b0lt⟩ := (E51.out.bx (g7, c) (by simp)).1
    dsimp only at b0c0 b0c1 b0c2 b0c3 b0f0 b0f1 b0f2 b0f3 b0lt
    obtain ⟨b1c0, b1c1, b1c2, b1c3, b1f0, b1f1, b1f2, b1f3, b1lt⟩ := (E51.out.bx (w.heap.size, Pz.z0) (by simp)).1
    dsimp only [Pz.z0, len] at b1c0 b1c1 b1c2 b1c3 b1f0 b1f1 b1f2 b1f3 b1lt
    go_wp2
    refine bodyPost_ret (v := .agg #[.int .i64 c.a.op, .int .i64 c.a.num, .string c.a.name, .slice c.a.ptr (len c.k) c.a.cap]) ?_ rfl ?_
    · rw [results_cell1 rfl]
      go_simp
    · exact ⟨c, rfl, (E51.out.tail).done4 c none (fun x hx => by cases hx) rfl rfl rfl rfl⟩

set_option maxHeartbeats 600000 in
set_option maxRecDepth 100000 in
theorem dj_bad (L : List Tk.T4) (h0 : RB 66 L) : RB 47 L := by
  intro sb p cap j w h
  have C0 := Lib.hid h0
  clear h0
  have H := Lib.hid h
  have hlt := rbd_lt h
  have E0 : Hid (Pz.Env w w sb (RSO sb L p cap none j) [] [] []) := Pz.Env.init h (rso_cl _ _ _ _ _ _) hlt (by intro c hc; cases hc)
  clear h
  go_enter Tryz.func47, Tryz.ntmps47
  go_wp2_with fail

  have E1 := Lib.hid (E0.out.box Pz.z0 #[.int .i64 0, .int .i64 0, .string ⟨#[]⟩, .slice none 0 0] rfl 25)
  generalize w.alloc (.cells #[.int .i64 0, .int .i64 0, .string ⟨#[]⟩, .slice none 0 0] 25) = w2 at *
  clear E0
  clear H
  refine (C0.out sb p cap j w2 E1.out.st).mono ?_
  rintro e w4 ⟨c, rfl, hf⟩
  obtain ⟨tsE3, hE, hc, hsub⟩ := E1.out.go hf (rso_cl _ _ _ _ _ _) (by intro d hd; cases hd)
  have E3 := Lib.hid hE
  have Tc := Lib.hid hc
  have Uc := Lib.hid hsub
  clear hf hE hc hsub E1
  try dsimp only
  go_wp2_with fail
  have E5 := Lib.hid (E3.out.box c #[.int .i64 c.a.op, .int .i64 c.a.num, .string c.a.name, .slice c.a.ptr (len c.k) c.a.cap] rfl 25)
  generalize hg7 : w4.heap.size = g7 at *
  generalize w4.alloc (.cells #[.int .i64 c.a.op, .int .i64 c.a.num, .string c.a.name, .slice c.a.ptr (len c.k) c.a.cap] 25) = w6 at *
  clear E3 hg7
  go_loopg [7] 0 (fun g u wr => ∃ ts, Hid (Pz.Env w wr sb (RSO sb L p cap none j) [] [(g7, c), (w.heap.size, Pz.z0)] ts))
  case atStart => exact ⟨_, E5.out⟩
  case round =>
    clear E5
    obtain ⟨ts, HR⟩ := hrel
    go_wp2_with fail
    refine (takes_bad sb L p cap j _ _ HR.out.st).mono ?_
    rintro e w52 ⟨rfl, hb⟩
    have E51 := Lib.hid (HR.out.below hb)
    clear hb HR
    obtain ⟨b0c0, b0c1, b0c2, b0c3, b0f0, b0f1, b0f2, b0f3, b0lt⟩ := (E51.out.bx (g7, c) (by simp)).1
    dsimp only at b0c0 b0c1 b0c2 b0c3 b0f0 b0f1 b0f2 b0f3 b0lt
    obtain ⟨b1c0, b1c1, b1c2, b1c3, b1f0, b1f1, b1f2, b1f3, b1lt⟩ := (E51.out.bx (w.heap.size, Pz.z0) (by simp)).1
    dsimp only [Pz.z0, len] at b1c0 b1c1 b1c2 b1c3 b1f0 b1f1 b1f2 b1f3 b1lt
    go_wp2
    refine bodyPost_ret (v := .agg #[.int .i64 c.a.op, .int .i64 c.a.num, .string c.a.name, .slice c.a.ptr (len c.k) c.a.cap]) ?_ rfl ?_
    · rw [results_cell1 rfl]
      go_simp
    · exact ⟨c, rfl, (E51.out.tail).done4 c none (fun x hx => by cases hx) rfl rfl rfl rfl⟩

set_option maxHeartbeats 600000 in
set_option maxRecDepth 100000 in
theorem ex_bad (L : List Tk.T4) (h0 : RB 47 L) : RB 28 L := by
  intro sb p cap j w h
  have C0 := Lib.hid h0
  clear h0
  have H := Lib.hid h
  have hlt := rbd_lt h
  have E0 : Hid (Pz.Env w w sb (RSO sb L p cap none j) [] [] []) := Pz.Env.init h (rso_cl _ _ _ _ _ _) hlt (by intro c hc; cases hc)
  clear h
  go_enter Tryz.func28, Tryz.ntmps28
  go_wp2_with fail

  have E1 := Lib.hid (E0.out.box Pz.z0 #[.int .i64 0, .int .i64 0, .string ⟨#[]⟩, .slice none 0 0] rfl 25)
  generalize w.alloc (.cells #[.int .i64 0, .int .i64 0, .string ⟨#[]⟩, .slice none 0 0] 25) = w2 at *
  clear E0
  clear H
  refine (C0.out sb p cap j w2 E1.out.st).mono ?_
  rintro e w4 ⟨c, rfl, hf⟩
  obtain ⟨tsE3, hE, hc, hsub⟩ := E1.out.go hf (rso_cl _ _ _ _ _ _) (by intro d hd; cases hd)
  have E3 := Lib.hid hE
  have Tc := Lib.hid hc
  have Uc := Lib.hid hsub
  clear hf hE hc hsub E1
  try dsimp only
  go_upto_region 2 with (fail)
  have E5 := Lib.hid (E3.out.box c #[.int .i64 c.a.op, .int .i64 c.a.num, .string c.a.name, .slice c.a.ptr (len c.k) c.a.cap] rfl 25)
  generalize hg7 : w4.heap.size = g7 at *
  generalize w4.alloc (.cells #[.int .i64 c.a.op, .int .i64 c.a.num, .string c.a.name, .slice c.a.ptr (len c.k) c.a.cap] 25) = w6 at *
  clear E3 hg7
  go_wp2_with fail
  refine (takes_bad sb L p cap j _ _ E5.out.st).mono ?_
  rintro e w9 ⟨rfl, hb⟩
  have E8 := Lib.hid (E5.out.below hb)
  clear hb E5
  obtain ⟨b0c0, b0c1, b0c2, b0c3, b0f0, b0f1, b0f2, b0f3, b0lt⟩ := (E8.out.bx (g7, c) (by simp)).1
  dsimp only at b0c0 b0c1 b0c2 b0c3 b0f0 b0f1 b0f2 b0f3 b0lt
  obtain ⟨b1c0, b1c1, b1c2, b1c3, b1f0, b1f1, b1f2, b1f3, b1lt⟩ := (E8.out.bx (w.heap.size, Pz.z0) (by simp)).1
  dsimp only [Pz.z0, len] at b1c0 b1c1 b1c2 b1c3 b1f0 b1f1 b1f2 b1f3 b1lt
  go_wp2
  refine bodyPost_ret (v := .agg #[.int .i64 c.a.op, .int .i64 c.a.num, .string c.a.name, .slice c.a.ptr (len c.k) c.a.cap]) ?_ rfl ?_
  · rw [results_cell1 rfl]
    go_simp
  · exact ⟨c, rfl, (E8.out.tail).done4 c none (fun x hx => by cases hx) rfl rfl rfl rfl⟩

theorem fcB (L : List Tk.T4) : RB 110 L := fc_bad L
theorem tmB (L : List Tk.T4) : RB 106 L := tm_bad L (fcB L)
theorem smB (L : List Tk.T4) : RB 103 L := sm_bad L (tmB L)
theorem cmB (L : List Tk.T4) : RB 98 L := cm_bad L (smB L)
theorem ngB (L : List Tk.T4) : RB 85 L := ng_bad L (cmB L)
theorem cjB (L : List Tk.T4) : RB 66 L := cj_bad L (ngB L)
theorem djB (L : List Tk.T4) : RB 47 L := dj_bad L (cjB L)
theorem exB (L : List Tk.T4) : RB 28 L := ex_bad L (djB L)

end Go.Proofs.YtgcjkfkfdehpcaaGreat
