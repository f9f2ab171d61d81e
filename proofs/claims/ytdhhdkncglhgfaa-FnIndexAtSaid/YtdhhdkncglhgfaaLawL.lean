/- The walk of the exact law over the index of a shape with a rank. -/
import Derived.Test.YtdhhdkncglhgfaaShape4
set_option linter.unusedVariables false
namespace Go.Proofs.Ytdhhdkncglhgfaa
open Go.RowKit

def idxA (xs : List Int) (k : Int) : List Int := if shapeB xs = true ∧ 0 ≤ k ∧ k < prod xs then unL xs k xs.length else []
theorem idxA_no {xs : List Int} {k : Int} (h : ¬ (shapeB xs = true ∧ 0 ≤ k ∧ k < prod xs)) : idxA xs k = [] := if_neg h
theorem idxA_yes {xs : List Int} {k : Int} (h : shapeB xs = true ∧ 0 ≤ k ∧ k < prod xs) : idxA xs k = unL xs k xs.length := if_pos h

set_option maxHeartbeats 1600000 in
theorem iIndexAt_any (A : Option Addr) (c : Nat) (xs : List Int) (k : Int) (w : World) (hr : Rd w w.heap.size .i64 A xs) (hl : xs.length ≤ maxLen) : Calls Try.prog 60 #[.slice A xs.length c, .int .i64 k] w (RetInts w (idxA xs k)) := by
  rcases hv : shapeB xs with _ | _
  · have HR := Lib.hid (idxA_no (xs := xs) (k := k) (by simp [hv]))
    rw [HR.out]
    go_enter Try.func60, Try.ntmps60
    go_wp2_with fail
    refine (isShape_any _ _ _ _ _ hr hl).mono ?_; rintro e w1 ⟨rfl, rfl⟩
    rw [hv]
    go_wp2_with fail
    go_ret
    exact ⟨none, 0, rfl, Own.nil _ _, (by (repeat' (first | (with_reducible exact Below.refl _ _) | (with_reducible assumption) | (with_reducible refine Below.setCell ?_ ?_ _) | (with_reducible refine Below.al ?_ _) | (with_reducible refine Below.drew ?_) | (with_reducible refine Below.drN ?_ _) | (with_reducible refine Below.step ?_ (by assumption)) | (with_reducible refine Below.alloc ?_ ?_ _))); all_goals (simp; try omega))⟩
  · have hx := ext_shape hv
    have hp := prod_shape hv
    rcases (show k < 0 ∨ (0 ≤ k ∧ prod xs ≤ k) ∨ (0 ≤ k ∧ k < prod xs) by omega) with h | ⟨h, h2⟩ | ⟨h, h2⟩
    · have HR := Lib.hid (idxA_no (xs := xs) (k := k) (by omega))
      rw [HR.out]
      go_enter Try.func60, Try.ntmps60
      go_wp2_with fail
      refine (isShape_any _ _ _ _ _ hr hl).mono ?_; rintro e w1 ⟨rfl, rfl⟩
      rw [hv]
      go_wp2_with fail
      go_ret
      exact ⟨none, 0, rfl, Own.nil _ _, (by (repeat' (first | (with_reducible exact Below.refl _ _) | (with_reducible assumption) | (with_reducible refine Below.setCell ?_ ?_ _) | (with_reducible refine Below.al ?_ _) | (with_reducible refine Below.drew ?_) | (with_reducible refine Below.drN ?_ _) | (with_reducible refine Below.step ?_ (by assumption)) | (with_reducible refine Below.alloc ?_ ?_ _))); all_goals (simp; try omega))⟩
    · have HR := Lib.hid (idxA_no (xs := xs) (k := k) (by omega))
      rw [HR.out]
      go_enter Try.func60, Try.ntmps60
      go_wp2_with fail
      refine (isShape_any _ _ _ _ _ hr hl).mono ?_; rintro e w1 ⟨rfl, rfl⟩
      rw [hv]
      go_wp2_with fail
      refine (countOf_any _ _ _ _ _ hr hx).mono ?_; rintro e w1 ⟨rfl, rfl⟩
      go_wp2_with fail
      go_ret
      exact ⟨none, 0, rfl, Own.nil _ _, (by (repeat' (first | (with_reducible exact Below.refl _ _) | (with_reducible assumption) | (with_reducible refine Below.setCell ?_ ?_ _) | (with_reducible refine Below.al ?_ _) | (with_reducible refine Below.drew ?_) | (with_reducible refine Below.drN ?_ _) | (with_reducible refine Below.step ?_ (by assumption)) | (with_reducible refine Below.alloc ?_ ?_ _))); all_goals (simp; try omega))⟩
    · have HR := Lib.hid (idxA_yes (xs := xs) (k := k) ⟨hv, h, h2⟩)
      rw [HR.out]
      go_enter Try.func60, Try.ntmps60
      go_wp2_with fail
      refine (isShape_any _ _ _ _ _ hr hl).mono ?_; rintro e w1 ⟨rfl, rfl⟩
      rw [hv]
      go_wp2_with fail
      refine (countOf_any _ _ _ _ _ hr hx).mono ?_; rintro e w1 ⟨rfl, rfl⟩
      go_wp2_with fail
      refine (indexAt_any _ _ _ _ _ hr (extP_of hx (by omega)) h (by omega)).mono ?_; rintro e w2 ⟨A2, c2, rfl, ho2, hb2⟩
      go_wp2_with fail
      go_ret
      exact ⟨A2, c2, rfl, ho2, (by (repeat' (first | (with_reducible exact Below.refl _ _) | (with_reducible assumption) | (with_reducible refine Below.setCell ?_ ?_ _) | (with_reducible refine Below.al ?_ _) | (with_reducible refine Below.drew ?_) | (with_reducible refine Below.drN ?_ _) | (with_reducible refine Below.step ?_ (by assumption)) | (with_reducible refine Below.alloc ?_ ?_ _))); all_goals (simp; try omega))⟩

set_option maxHeartbeats 1600000 in
theorem sIndexAt_any (A : Option Addr) (c : Nat) (xs : List Int) (k : Int) (w : World) (hr : Rd w w.heap.size .i64 A xs) (hl : xs.length ≤ maxLen) : Calls Try.prog 61 #[.slice A xs.length c, .int .i64 k] w (RetInts w (idxA xs k)) := by
  rcases hv : shapeB xs with _ | _
  · have HR := Lib.hid (idxA_no (xs := xs) (k := k) (by simp [hv]))
    rw [HR.out]
    go_enter Try.func61, Try.ntmps61
    go_wp2_with fail
    refine (validShape_any _ _ _ _ hr hl).mono ?_; rintro e w1 ⟨rfl, hb1⟩
    rw [hv]
    go_wp2_with fail
    go_ret
    exact ⟨none, 0, rfl, Own.nil _ _, (by (repeat' (first | (with_reducible exact Below.refl _ _) | (with_reducible assumption) | (with_reducible refine Below.setCell ?_ ?_ _) | (with_reducible refine Below.al ?_ _) | (with_reducible refine Below.drew ?_) | (with_reducible refine Below.drN ?_ _) | (with_reducible refine Below.step ?_ (by assumption)) | (with_reducible refine Below.alloc ?_ ?_ _))); all_goals (simp; try omega))⟩
  · have hx := ext_shape hv
    have hp := prod_shape hv
    by_cases h : 0 ≤ k ∧ k < prod xs
    · have HR := Lib.hid (idxA_yes (xs := xs) (k := k) ⟨hv, h.1, h.2⟩)
      have HI := Lib.hid (show inB k 0 (prod xs - 1) = true by simp [inB]; omega)
      rw [HR.out]
      go_enter Try.func61, Try.ntmps61
      go_wp2_with fail
      refine (validShape_any _ _ _ _ hr hl).mono ?_; rintro e w1 ⟨rfl, hb1⟩
      rw [hv]
      have r1 := hr.to hb1
      have z1 := hb1.size
      go_wp2_with fail
      refine (count_any _ _ _ _ _ r1 hx).mono ?_; rintro e w1' ⟨rfl, rfl⟩
      go_wp2_with fail
      refine (inRange_any _ _ _ _).mono ?_; rintro e w1' ⟨rfl, rfl⟩
      rw [HI.out]
      go_wp2_with fail
      refine (unrank_any _ _ _ _ _ r1 (extP_of hx (by omega)) h.1 (by omega)).mono ?_; rintro e w2 ⟨A2, c2, rfl, ho2, hb2⟩
      go_wp2_with fail
      go_ret
      exact ⟨A2, c2, rfl, ho2.mono z1, (by (repeat' (first | (with_reducible exact Below.refl _ _) | (with_reducible assumption) | (with_reducible refine Below.setCell ?_ ?_ _) | (with_reducible refine Below.al ?_ _) | (with_reducible refine Below.drew ?_) | (with_reducible refine Below.drN ?_ _) | (with_reducible refine Below.step ?_ (by assumption)) | (with_reducible refine Below.alloc ?_ ?_ _))); all_goals (simp; try omega))⟩
    · have HR := Lib.hid (idxA_no (xs := xs) (k := k) (by intro h'; exact h h'.2))
      have HI := Lib.hid (show inB k 0 (prod xs - 1) = false by simp [inB]; omega)
      rw [HR.out]
      go_enter Try.func61, Try.ntmps61
      go_wp2_with fail
      refine (validShape_any _ _ _ _ hr hl).mono ?_; rintro e w1 ⟨rfl, hb1⟩
      rw [hv]
      have r1 := hr.to hb1
      go_wp2_with fail
      refine (count_any _ _ _ _ _ r1 hx).mono ?_; rintro e w1' ⟨rfl, rfl⟩
      go_wp2_with fail
      refine (inRange_any _ _ _ _).mono ?_; rintro e w1' ⟨rfl, rfl⟩
      rw [HI.out]
      go_wp2_with fail
      go_ret
      exact ⟨none, 0, rfl, Own.nil _ _, (by (repeat' (first | (with_reducible exact Below.refl _ _) | (with_reducible assumption) | (with_reducible refine Below.setCell ?_ ?_ _) | (with_reducible refine Below.al ?_ _) | (with_reducible refine Below.drew ?_) | (with_reducible refine Below.drN ?_ _) | (with_reducible refine Below.step ?_ (by assumption)) | (with_reducible refine Below.alloc ?_ ?_ _))); all_goals (simp; try omega))⟩

end Go.Proofs.Ytdhhdkncglhgfaa
