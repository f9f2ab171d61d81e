/- The walks of the exact laws over slices as one. -/
import Derived.Test.YtoejfpncpgoboaaLawD
import Derived.Test.YtoejfpncpgoboaaSlice5
import Derived.Deep.RegionHeld3
import Derived.Deep.DeepCutAuto
set_option linter.unusedVariables false
namespace Go.Proofs.Ytoejfpncpgoboaa
open Go.RowKit

theorem keepB {W0 w1 : World} (h : Below W0.heap.size W0 w1) : Below W0.heap.size W0 w1 ∧ ∀ b o, b < W0.heap.size → w1.cell? ⟨b, o, none⟩ = W0.cell? ⟨b, o, none⟩ := ⟨h, bcel h⟩

set_option maxHeartbeats 800000 in
theorem eqSlice_same (f t s : Int) (hf ht : Bool) (w : World) : Calls Try.prog 42 #[.agg #[.int .i64 f, .int .i64 t, .int .i64 s, .bool hf, .bool ht], .agg #[.int .i64 f, .int .i64 t, .int .i64 s, .bool hf, .bool ht]] w (Ret w (.bool true)) := by
  cases hf <;> cases ht
  all_goals
    go_enter Try.func42, Try.ntmps42
    go_wp2_with fail
    go_ret
    exact ⟨rfl, (by (repeat' (first | (with_reducible exact Below.refl _ _) | (with_reducible assumption) | (with_reducible refine Below.setCell ?_ ?_ _) | (with_reducible refine Below.al ?_ _) | (with_reducible refine Below.drew ?_) | (with_reducible refine Below.drN ?_ _) | (with_reducible refine Below.step ?_ (by assumption)) | (with_reducible refine Below.alloc ?_ ?_ _))); all_goals (simp; try omega))⟩

set_option maxHeartbeats 3200000 in
theorem FnExactMergeSlices_walk (n f t s : Int) (hf ht : Bool) (f2 t2 s2 : Int) (hf2 ht2 : Bool) (w : World) : Calls Try.prog 12 #[.int .i64 n, .agg #[.int .i64 f, .int .i64 t, .int .i64 s, .bool hf, .bool ht], .agg #[.int .i64 f2, .int .i64 t2, .int .i64 s2, .bool hf2, .bool ht2]] w (Ret w (.bool true)) := by
  obtain ⟨x1, h1⟩ : ∃ x, x = mg1 n f t s hf ht f2 t2 s2 hf2 ht2 := ⟨_, rfl⟩
  obtain ⟨x2, h2⟩ : ∃ x, x = mg2 n f t s hf ht f2 t2 s2 hf2 ht2 := ⟨_, rfl⟩
  obtain ⟨x3, h3⟩ : ∃ x, x = mg3 n f t s hf ht f2 t2 s2 hf2 ht2 := ⟨_, rfl⟩
  obtain ⟨x4, h4⟩ : ∃ x, x = mg4 n f t s hf ht f2 t2 s2 hf2 ht2 := ⟨_, rfl⟩
  obtain ⟨x5, h5⟩ : ∃ x, x = mg5 n f t s hf ht f2 t2 s2 hf2 ht2 := ⟨_, rfl⟩
  have H1 := Lib.hid h1
  have H2 := Lib.hid h2
  have H3 := Lib.hid h3
  have H4 := Lib.hid h4
  have H5 := Lib.hid h5
  clear h1 h2 h3 h4 h5
  have z0 : w.heap.size < w.heap.size + 1 + 1 := by omega
  go_enter Try.func12, Try.ntmps12
  go_upto_region 1 with fail
  go_cut [7] (fun s7 wx => ∃ g : Nat, s7 = .pointer (some ⟨g, 0, none⟩) ∧ Below (((w.alloc (.cells #[.int .i64 f, .int .i64 t, .int .i64 s, .bool hf, .bool ht] 39)).alloc (.cells #[.int .i64 f2, .int .i64 t2, .int .i64 s2, .bool hf2, .bool ht2] 39))).heap.size ((w.alloc (.cells #[.int .i64 f, .int .i64 t, .int .i64 s, .bool hf, .bool ht] 39)).alloc (.cells #[.int .i64 f2, .int .i64 t2, .int .i64 s2, .bool hf2, .bool ht2] 39)) wx ∧ (((w.alloc (.cells #[.int .i64 f, .int .i64 t, .int .i64 s, .bool hf, .bool ht] 39)).alloc (.cells #[.int .i64 f2, .int .i64 t2, .int .i64 s2, .bool hf2, .bool ht2] 39))).heap.size ≤ g ∧ g < wx.heap.size ∧ wx.cell? ⟨g, 0, none⟩ = some (.int .i64 x1) ∧ wx.cell? ⟨g, 1, none⟩ = some (.int .i64 x2) ∧ wx.cell? ⟨g, 2, none⟩ = some (.int .i64 x3) ∧ wx.cell? ⟨g, 3, none⟩ = some (.bool x4) ∧ wx.cell? ⟨g, 4, none⟩ = some (.bool x5))
  case first =>
    have tokA : True := trivial
    go_region_held3 (fun w' => Below (((w.alloc (.cells #[.int .i64 f, .int .i64 t, .int .i64 s, .bool hf, .bool ht] 39)).alloc (.cells #[.int .i64 f2, .int .i64 t2, .int .i64 s2, .bool hf2, .bool ht2] 39))).heap.size ((w.alloc (.cells #[.int .i64 f, .int .i64 t, .int .i64 s, .bool hf, .bool ht] 39)).alloc (.cells #[.int .i64 f2, .int .i64 t2, .int .i64 s2, .bool hf2, .bool ht2] 39)) w' ∧ ∀ bb oo, bb < (((w.alloc (.cells #[.int .i64 f, .int .i64 t, .int .i64 s, .bool hf, .bool ht] 39)).alloc (.cells #[.int .i64 f2, .int .i64 t2, .int .i64 s2, .bool hf2, .bool ht2] 39))).heap.size → w'.cell? ⟨bb, oo, none⟩ = (((w.alloc (.cells #[.int .i64 f, .int .i64 t, .int .i64 s, .bool hf, .bool ht] 39)).alloc (.cells #[.int .i64 f2, .int .i64 t2, .int .i64 s2, .bool hf2, .bool ht2] 39))).cell? ⟨bb, oo, none⟩) ((refine keepB ?_) <;> (repeat' (first | (with_reducible assumption) | (with_reducible exact And.left (by assumption)) | (with_reducible exact Below.refl _ _) | (with_reducible exact Below.size (And.left (by assumption))) | (with_reducible refine Below.drew ?_) | (with_reducible refine Below.drN ?_ _) | (with_reducible refine Below.al ?_ _) | (with_reducible refine Below.step ?_ (by assumption)) | (with_reducible refine Below.setCell ?_ ?_ _) | (with_reducible refine Below.alloc ?_ ?_ _) | (simp <;> omega))))
      (first
        | (go_at_call 31; have _t := tokA; refine (toSlice_any _ _ _ _ _ _).mono ?_; rintro e w1 ⟨rfl, hb1⟩; obtain ⟨hcA, hfA⟩ := bcell hb1; have hzA := hb1.size; (try simp at hzA); (first | have hzA2 := Nat.lt_of_succ_le hzA | skip); clear _t tokA)
        | (go_at_call 31; refine (toSlice_any _ _ _ _ _ _).mono ?_; rintro e w1' ⟨rfl, hb1'⟩; obtain ⟨hcB, hfB⟩ := bcell hb1'; have hzB := hb1'.size; (try simp at hzB); (first | have hzB2 := Nat.lt_of_succ_le hzB | skip); (first | have hzD := Nat.lt_of_lt_of_le hzA hzB | have hzD := Nat.lt_trans hzA hzB | have hzD := Nat.le_trans hzA hzB | skip))
        | (go_at_call 40; refine (sMergeSlices_any _ _ _ _ _ _ _ _ _ _ _ _).mono ?_; rw [← H1.out, ← H2.out, ← H3.out, ← H4.out, ← H5.out]; rintro e w2 ⟨rfl, hb2⟩; obtain ⟨hcC, hfC⟩ := bcell hb2; have hzC := hb2.size; (try simp at hzC); (first | have hzC2 := Nat.lt_of_succ_le hzC | skip); (first | have hzF := Nat.lt_of_lt_of_le hzB2 hzC | skip); (first | have hzE := Nat.lt_of_lt_of_le hzD hzC | have hzE := Nat.lt_trans hzD hzC | have hzE := Nat.le_trans hzD hzC | skip)))
    all_goals go_wp2_with fail
    all_goals go_meet
    all_goals (refine ⟨_, rfl, ?_, ?_, ?_, ?_, ?_, ?_, ?_, ?_⟩)
    any_goals (simp [go_sem, *]; done)
    all_goals (first | (with_reducible exact And.left (by assumption)) | (simp <;> omega) | (repeat' (first | (with_reducible assumption) | (with_reducible exact And.left (by assumption)) | (with_reducible exact Below.refl _ _) | (with_reducible exact Below.size (And.left (by assumption))) | (with_reducible refine Below.drew ?_) | (with_reducible refine Below.drN ?_ _) | (with_reducible refine Below.al ?_ _) | (with_reducible refine Below.step ?_ (by assumption)) | (with_reducible refine Below.setCell ?_ ?_ _) | (with_reducible refine Below.alloc ?_ ?_ _) | (simp <;> omega))))
  case rest =>
    obtain ⟨g, rfl, hbw, hg1, hg2, hx0, hx1, hx2, hx3, hx4⟩ := hcut
    have hcw := bcel hbw
    have zw := hbw.size
    simp at zw hg1
    have zw2 := Nat.lt_of_succ_le zw
    have zw3 : w.heap.size < wc.heap.size := by omega
    go_upto_region 2 with fail
    go_cut [8] (fun s8 wx => ∃ g : Nat, s8 = .pointer (some ⟨g, 0, none⟩) ∧ Below wc.heap.size wc wx ∧ wc.heap.size ≤ g ∧ g < wx.heap.size ∧ wx.cell? ⟨g, 0, none⟩ = some (.int .i64 x1) ∧ wx.cell? ⟨g, 1, none⟩ = some (.int .i64 x2) ∧ wx.cell? ⟨g, 2, none⟩ = some (.int .i64 x3) ∧ wx.cell? ⟨g, 3, none⟩ = some (.bool x4) ∧ wx.cell? ⟨g, 4, none⟩ = some (.bool x5))
    case first =>
      have tokA : True := trivial
      go_region_held3 (fun w' => Below wc.heap.size wc w' ∧ ∀ bb oo, bb < wc.heap.size → w'.cell? ⟨bb, oo, none⟩ = wc.cell? ⟨bb, oo, none⟩) ((refine keepB ?_) <;> (repeat' (first | (with_reducible assumption) | (with_reducible exact And.left (by assumption)) | (with_reducible exact Below.refl _ _) | (with_reducible exact Below.size (And.left (by assumption))) | (with_reducible refine Below.drew ?_) | (with_reducible refine Below.drN ?_ _) | (with_reducible refine Below.al ?_ _) | (with_reducible refine Below.step ?_ (by assumption)) | (with_reducible refine Below.setCell ?_ ?_ _) | (with_reducible refine Below.alloc ?_ ?_ _) | (simp <;> omega))))
        (first
          | (go_at_call 31; have _t := tokA; refine (toSlice_any _ _ _ _ _ _).mono ?_; rintro e w1 ⟨rfl, hb1⟩; obtain ⟨hcA, hfA⟩ := bcell hb1; have hzA := hb1.size; (try simp at hzA); (first | have hzA2 := Nat.lt_of_succ_le hzA | skip); clear _t tokA)
          | (go_at_call 31; refine (toSlice_any _ _ _ _ _ _).mono ?_; rintro e w1' ⟨rfl, hb1'⟩; obtain ⟨hcB, hfB⟩ := bcell hb1'; have hzB := hb1'.size; (try simp at hzB); (first | have hzB2 := Nat.lt_of_succ_le hzB | skip); (first | have hzD := Nat.lt_of_lt_of_le hzA hzB | have hzD := Nat.lt_trans hzA hzB | have hzD := Nat.le_trans hzA hzB | skip))
          | (go_at_call 41; refine (iMergeSlices_any _ _ _ _ _ _ _ _ _ _ _ _).mono ?_; rw [← H1.out, ← H2.out, ← H3.out, ← H4.out, ← H5.out]; rintro e w2 ⟨rfl, hb2⟩; obtain ⟨hcC, hfC⟩ := bcell hb2; have hzC := hb2.size; (try simp at hzC); (first | have hzC2 := Nat.lt_of_succ_le hzC | skip); (first | have hzF := Nat.lt_of_lt_of_le hzB2 hzC | skip); (first | have hzE := Nat.lt_of_lt_of_le hzD hzC | have hzE := Nat.lt_trans hzD hzC | have hzE := Nat.le_trans hzD hzC | skip)))
      all_goals go_wp2_with fail
      all_goals go_meet
      all_goals (refine ⟨_, rfl, ?_, ?_, ?_, ?_, ?_, ?_, ?_, ?_⟩)
      any_goals (simp [go_sem, *]; done)
      all_goals (first | (with_reducible exact And.left (by assumption)) | (simp <;> omega) | (repeat' (first | (with_reducible assumption) | (with_reducible exact And.left (by assumption)) | (with_reducible exact Below.refl _ _) | (with_reducible exact Below.size (And.left (by assumption))) | (with_reducible refine Below.drew ?_) | (with_reducible refine Below.drN ?_ _) | (with_reducible refine Below.al ?_ _) | (with_reducible refine Below.step ?_ (by assumption)) | (with_reducible refine Below.setCell ?_ ?_ _) | (with_reducible refine Below.alloc ?_ ?_ _) | (simp <;> omega))))
    case rest =>
      obtain ⟨g', rfl, hbw', hg1', hg2', hy0, hy1, hy2, hy3, hy4⟩ := hcut
      have p0 := (hbw'.cell (p := ⟨g, 0, none⟩) hg2).trans hx0
      have p1 := (hbw'.cell (p := ⟨g, 1, none⟩) hg2).trans hx1
      have p2 := (hbw'.cell (p := ⟨g, 2, none⟩) hg2).trans hx2
      have p3 := (hbw'.cell (p := ⟨g, 3, none⟩) hg2).trans hx3
      have p4 := (hbw'.cell (p := ⟨g, 4, none⟩) hg2).trans hx4
      go_wp2_with fail
      refine (eqSlice_same _ _ _ _ _ _).mono ?_; rintro e w5 ⟨rfl, hb5⟩
      go_wp2_with fail
      go_ret
      exact ⟨rfl, (by (repeat' (first | (with_reducible exact Below.refl _ _) | (with_reducible assumption) | (with_reducible refine Below.setCell ?_ ?_ _) | (with_reducible refine Below.al ?_ _) | (with_reducible refine Below.drew ?_) | (with_reducible refine Below.drN ?_ _) | (with_reducible refine Below.step ?_ (by assumption)) | (with_reducible refine Below.alloc ?_ ?_ _))); all_goals (simp; try omega))⟩
end Go.Proofs.Ytoejfpncpgoboaa
