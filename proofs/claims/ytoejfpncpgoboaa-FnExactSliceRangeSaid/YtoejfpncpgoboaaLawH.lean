/- The walks of the exact laws over slices of ranges. -/
import Derived.Test.YtoejfpncpgoboaaLawD
import Derived.Test.YtoejfpncpgoboaaSlice4
import Derived.Deep.RegionHeld3
import Derived.Deep.DeepCutAuto
set_option linter.unusedVariables false
namespace Go.Proofs.Ytoejfpncpgoboaa
open Go.RowKit

theorem keepB {W0 w1 : World} (h : Below W0.heap.size W0 w1) : Below W0.heap.size W0 w1 ∧ ∀ b o, b < W0.heap.size → w1.cell? ⟨b, o, none⟩ = W0.cell? ⟨b, o, none⟩ := ⟨h, bcel h⟩
set_option maxHeartbeats 1600000 in
theorem FnExactSliceRange_walk (a b c f t s : Int) (hf ht : Bool) (w : World) : Calls Try.prog 11 #[.agg #[.int .i64 a, .int .i64 b, .int .i64 c], .agg #[.int .i64 f, .int .i64 t, .int .i64 s, .bool hf, .bool ht]] w (Ret w (.bool true)) := by
  obtain ⟨x, hx⟩ : ∃ x, x = sl1 a b c f t s hf ht := ⟨_, rfl⟩
  obtain ⟨y, hy⟩ : ∃ x, x = sl2 a b c f t s hf ht := ⟨_, rfl⟩
  obtain ⟨z, hz⟩ : ∃ x, x = sl3 a b c f t s hf ht := ⟨_, rfl⟩
  have HX := Lib.hid hx
  have HY := Lib.hid hy
  have HZ := Lib.hid hz
  clear hx hy hz
  have z0 : w.heap.size < w.heap.size + 1 + 1 := by omega
  go_enter Try.func11, Try.ntmps11
  go_upto_region 1 with fail
  go_cut [5] (fun s5 wx => ∃ g : Nat, s5 = .pointer (some ⟨g, 0, none⟩) ∧ Below (((w.alloc (.cells #[.int .i64 a, .int .i64 b, .int .i64 c] 23)).alloc (.cells #[.int .i64 f, .int .i64 t, .int .i64 s, .bool hf, .bool ht] 39))).heap.size ((w.alloc (.cells #[.int .i64 a, .int .i64 b, .int .i64 c] 23)).alloc (.cells #[.int .i64 f, .int .i64 t, .int .i64 s, .bool hf, .bool ht] 39)) wx ∧ (((w.alloc (.cells #[.int .i64 a, .int .i64 b, .int .i64 c] 23)).alloc (.cells #[.int .i64 f, .int .i64 t, .int .i64 s, .bool hf, .bool ht] 39))).heap.size ≤ g ∧ g < wx.heap.size ∧ wx.cell? ⟨g, 0, none⟩ = some (.int .i64 x) ∧ wx.cell? ⟨g, 1, none⟩ = some (.int .i64 y) ∧ wx.cell? ⟨g, 2, none⟩ = some (.int .i64 z))
  case first =>
    go_region_held3 (fun w' => Below (((w.alloc (.cells #[.int .i64 a, .int .i64 b, .int .i64 c] 23)).alloc (.cells #[.int .i64 f, .int .i64 t, .int .i64 s, .bool hf, .bool ht] 39))).heap.size ((w.alloc (.cells #[.int .i64 a, .int .i64 b, .int .i64 c] 23)).alloc (.cells #[.int .i64 f, .int .i64 t, .int .i64 s, .bool hf, .bool ht] 39)) w' ∧ ∀ bb oo, bb < (((w.alloc (.cells #[.int .i64 a, .int .i64 b, .int .i64 c] 23)).alloc (.cells #[.int .i64 f, .int .i64 t, .int .i64 s, .bool hf, .bool ht] 39))).heap.size → w'.cell? ⟨bb, oo, none⟩ = (((w.alloc (.cells #[.int .i64 a, .int .i64 b, .int .i64 c] 23)).alloc (.cells #[.int .i64 f, .int .i64 t, .int .i64 s, .bool hf, .bool ht] 39))).cell? ⟨bb, oo, none⟩) ((refine keepB ?_) <;> (repeat' (first | (with_reducible assumption) | (with_reducible exact And.left (by assumption)) | (with_reducible exact Below.refl _ _) | (with_reducible exact Below.size (And.left (by assumption))) | (with_reducible refine Below.drew ?_) | (with_reducible refine Below.drN ?_ _) | (with_reducible refine Below.al ?_ _) | (with_reducible refine Below.step ?_ (by assumption)) | (with_reducible refine Below.setCell ?_ ?_ _) | (with_reducible refine Below.alloc ?_ ?_ _) | (simp <;> omega))))
      (first
        | (go_at_call 14; refine (toRange_any _ _ _ _).mono ?_; rintro e w1 ⟨rfl, hb1⟩; obtain ⟨hcA, hfA⟩ := bcell hb1; have hzA := hb1.size; (try simp at hzA); (first | have hzA2 := Nat.lt_of_succ_le hzA | skip))
        | (go_at_call 31; refine (toSlice_any _ _ _ _ _ _).mono ?_; rintro e w1' ⟨rfl, hb1'⟩; obtain ⟨hcB, hfB⟩ := bcell hb1'; have hzB := hb1'.size; (try simp at hzB); (first | have hzB2 := Nat.lt_of_succ_le hzB | skip); (first | have hzD := Nat.lt_of_lt_of_le hzA hzB | have hzD := Nat.lt_trans hzA hzB))
        | (go_at_call 38; refine (sSliceRange_any _ _ _ _ _ _ _ _ _).mono ?_; rw [← HX.out, ← HY.out, ← HZ.out]; rintro e w2 ⟨rfl, hb2⟩; obtain ⟨hcC, hfC⟩ := bcell hb2; have hzC := hb2.size; (try simp at hzC); (first | have hzC2 := Nat.lt_of_succ_le hzC | skip); (first | have hzF := Nat.lt_of_lt_of_le hzB2 hzC | skip); (first | have hzE := Nat.lt_of_lt_of_le hzD hzC | have hzE := Nat.lt_trans hzD hzC)))
    all_goals go_wp2_with fail
    all_goals go_meet
    go_goals
    all_goals (refine ⟨_, rfl, ?_, ?_, ?_, ?_, ?_, ?_⟩)
    any_goals (simp [go_sem, *]; done)
    any_goals (first | (with_reducible exact And.left (by assumption)) | (simp <;> omega) | (repeat' (first | (with_reducible assumption) | (with_reducible exact And.left (by assumption)) | (with_reducible exact Below.refl _ _) | (with_reducible exact Below.size (And.left (by assumption))) | (with_reducible refine Below.drew ?_) | (with_reducible refine Below.drN ?_ _) | (with_reducible refine Below.al ?_ _) | (with_reducible refine Below.step ?_ (by assumption)) | (with_reducible refine Below.setCell ?_ ?_ _) | (with_reducible refine Below.alloc ?_ ?_ _) | (simp <;> omega))))
  case rest =>
    obtain ⟨g, rfl, hbw, hg1, hg2, hx0, hx1, hx2⟩ := hcut
    have hcw := bcel hbw
    have zw := hbw.size
    simp at zw hg1
    have zw2 := Nat.lt_of_succ_le zw
    have zw3 : w.heap.size < wc.heap.size := by omega
    go_upto_region 2 with fail
    go_cut [6] (fun s6 wx => ∃ g' : Nat, s6 = .pointer (some ⟨g', 0, none⟩) ∧ Below wc.heap.size wc wx ∧ wc.heap.size ≤ g' ∧ g' < wx.heap.size ∧ wx.cell? ⟨g', 0, none⟩ = some (.int .i64 x) ∧ wx.cell? ⟨g', 1, none⟩ = some (.int .i64 y) ∧ wx.cell? ⟨g', 2, none⟩ = some (.int .i64 z))
    case first =>
      go_region_held3 (fun w' => Below wc.heap.size wc w' ∧ ∀ bb oo, bb < wc.heap.size → w'.cell? ⟨bb, oo, none⟩ = wc.cell? ⟨bb, oo, none⟩) ((refine keepB ?_) <;> (repeat' (first | (with_reducible assumption) | (with_reducible exact And.left (by assumption)) | (with_reducible exact Below.refl _ _) | (with_reducible exact Below.size (And.left (by assumption))) | (with_reducible refine Below.drew ?_) | (with_reducible refine Below.drN ?_ _) | (with_reducible refine Below.al ?_ _) | (with_reducible refine Below.step ?_ (by assumption)) | (with_reducible refine Below.setCell ?_ ?_ _) | (with_reducible refine Below.alloc ?_ ?_ _) | (simp <;> omega))))
        (first
          | (go_at_call 14; refine (toRange_any _ _ _ _).mono ?_; rintro e w1 ⟨rfl, hb1⟩; obtain ⟨hcA, hfA⟩ := bcell hb1; have hzA := hb1.size; (try simp at hzA); (first | have hzA2 := Nat.lt_of_succ_le hzA | skip))
          | (go_at_call 31; refine (toSlice_any _ _ _ _ _ _).mono ?_; rintro e w1' ⟨rfl, hb1'⟩; obtain ⟨hcB, hfB⟩ := bcell hb1'; have hzB := hb1'.size; (try simp at hzB); (first | have hzB2 := Nat.lt_of_succ_le hzB | skip); (first | have hzD := Nat.lt_of_lt_of_le hzA hzB | have hzD := Nat.lt_trans hzA hzB | have hzD := Nat.le_trans hzA hzB | skip))
          | (go_at_call 39; refine (iSliceRange_any _ _ _ _ _ _ _ _ _).mono ?_; rw [← HX.out, ← HY.out, ← HZ.out]; rintro e w2 ⟨rfl, hb2⟩; obtain ⟨hcC, hfC⟩ := bcell hb2; have hzC := hb2.size; (try simp at hzC); (first | have hzC2 := Nat.lt_of_succ_le hzC | skip); (first | have hzF := Nat.lt_of_lt_of_le hzB2 hzC | skip); (first | have hzE := Nat.lt_of_lt_of_le hzD hzC | have hzE := Nat.lt_trans hzD hzC | have hzE := Nat.le_trans hzD hzC | skip)))
      all_goals go_wp2_with fail
      all_goals go_meet
      all_goals (refine ⟨_, rfl, ?_, ?_, ?_, ?_, ?_, ?_⟩)
      any_goals (simp [go_sem, *]; done)
      all_goals (first | (with_reducible exact And.left (by assumption)) | (simp <;> omega) | (repeat' (first | (with_reducible assumption) | (with_reducible exact And.left (by assumption)) | (with_reducible exact Below.refl _ _) | (with_reducible exact Below.size (And.left (by assumption))) | (with_reducible refine Below.drew ?_) | (with_reducible refine Below.drN ?_ _) | (with_reducible refine Below.al ?_ _) | (with_reducible refine Below.step ?_ (by assumption)) | (with_reducible refine Below.setCell ?_ ?_ _) | (with_reducible refine Below.alloc ?_ ?_ _) | (simp <;> omega))))
    case rest =>
      obtain ⟨g', rfl, hbw', hg1', hg2', hy0, hy1, hy2⟩ := hcut
      have p0 := (hbw'.cell (p := ⟨g, 0, none⟩) hg2).trans hx0
      have p1 := (hbw'.cell (p := ⟨g, 1, none⟩) hg2).trans hx1
      have p2 := (hbw'.cell (p := ⟨g, 2, none⟩) hg2).trans hx2
      go_wp2_with fail
      refine (eqRange_same _ _ _ _).mono ?_; rintro e w5 ⟨rfl, hb5⟩
      go_wp2_with fail
      go_ret
      exact ⟨rfl, (by (repeat' (first | (with_reducible exact Below.refl _ _) | (with_reducible assumption) | (with_reducible refine Below.setCell ?_ ?_ _) | (with_reducible refine Below.al ?_ _) | (with_reducible refine Below.drew ?_) | (with_reducible refine Below.drN ?_ _) | (with_reducible refine Below.step ?_ (by assumption)) | (with_reducible refine Below.alloc ?_ ?_ _))); all_goals (simp; try omega))⟩
end Go.Proofs.Ytoejfpncpgoboaa
