/- The walks of the exact laws over ranges that read numbers. -/
import Derived.Test.YtoejfpncpgoboaaRange3
import Derived.Test.YtoejfpncpgoboaaLists
set_option linter.unusedVariables false
namespace Go.Proofs.Ytoejfpncpgoboaa
open Go.RowKit

theorem i64_of_wf {i : Int} (h : (Lit.int .i64 i).wf = true) : -9223372036854775808 ≤ i ∧ i ≤ 9223372036854775807 := by
  have e : IntKind.i64.min = -9223372036854775808 := by decide
  simp [Lit.wf] at h
  rw [e] at h
  exact h

set_option maxHeartbeats 400000 in
theorem FnExactNumberAt_walk (a b c i : Int) (w : World) (hw : (Lit.int .i64 i).wf = true) : Calls Try.prog 3 #[.agg #[.int .i64 a, .int .i64 b, .int .i64 c], .int .i64 i] w (Ret w (.bool true)) := by
  have hi := i64_of_wf hw
  obtain ⟨hi1, hi2⟩ := hi
  have HI1 := Lib.hid hi1
  have HI2 := Lib.hid hi2
  clear hi1 hi2 hw
  go_enter Try.func3, Try.ntmps3
  go_wp2_with fail
  refine (toRange_any _ _ _ _).mono ?_; rintro e w1 ⟨rfl, g1⟩
  go_wp2_with fail
  refine (sNumberAt_any _ _ _ _ _ HI1.out HI2.out).mono ?_; rintro e w2 ⟨rfl, hb2⟩; have g2 := g1.step hb2; have hc2 := bcel g2
  go_wp2_with fail
  refine (toRange_any _ _ _ _).mono ?_; rintro e w3 ⟨rfl, hb3⟩; have g3 := g2.step hb3
  go_wp2_with fail
  refine (iNumberAt_any _ _ _ _ _ HI1.out HI2.out).mono ?_; rintro e w4 ⟨rfl, hb4⟩; have g4 := g3.step hb4
  go_wp2_with fail
  go_ret
  exact ⟨rfl, (by (repeat' (first | (with_reducible exact Below.refl _ _) | (with_reducible assumption) | (with_reducible refine Below.setCell ?_ ?_ _) | (with_reducible refine Below.al ?_ _) | (with_reducible refine Below.drew ?_) | (with_reducible refine Below.drN ?_ _) | (with_reducible refine Below.step ?_ (by assumption)) | (with_reducible refine Below.alloc ?_ ?_ _))); all_goals (simp; try omega))⟩

set_option maxHeartbeats 400000 in
theorem FnExactPlaceOf_walk (a b c x : Int) (w : World) : Calls Try.prog 4 #[.agg #[.int .i64 a, .int .i64 b, .int .i64 c], .int .i64 x] w (Ret w (.bool true)) := by
  go_enter Try.func4, Try.ntmps4
  go_wp2_with fail
  refine (toRange_any _ _ _ _).mono ?_; rintro e w1 ⟨rfl, g1⟩
  go_wp2_with fail
  refine (sPlaceOf_any _ _ _ _ _).mono ?_; rintro e w2 ⟨rfl, hb2⟩; have g2 := g1.step hb2; have hc2 := bcel g2
  go_wp2_with fail
  refine (toRange_any _ _ _ _).mono ?_; rintro e w3 ⟨rfl, hb3⟩; have g3 := g2.step hb3
  go_wp2_with fail
  refine (iPlaceOf_any _ _ _ _ _).mono ?_; rintro e w4 ⟨rfl, hb4⟩; have g4 := g3.step hb4
  go_wp2_with fail
  go_ret
  exact ⟨rfl, (by (repeat' (first | (with_reducible exact Below.refl _ _) | (with_reducible assumption) | (with_reducible refine Below.setCell ?_ ?_ _) | (with_reducible refine Below.al ?_ _) | (with_reducible refine Below.drew ?_) | (with_reducible refine Below.drN ?_ _) | (with_reducible refine Below.step ?_ (by assumption)) | (with_reducible refine Below.alloc ?_ ?_ _))); all_goals (simp; try omega))⟩

set_option maxHeartbeats 400000 in
theorem eqRange_same (a b c : Int) (w : World) : Calls Try.prog 27 #[.agg #[.int .i64 a, .int .i64 b, .int .i64 c], .agg #[.int .i64 a, .int .i64 b, .int .i64 c]] w (Ret w (.bool true)) := by
  go_enter Try.func27, Try.ntmps27
  go_wp2_with fail
  go_ret
  exact ⟨rfl, (by (repeat' (first | (with_reducible exact Below.refl _ _) | (with_reducible assumption) | (with_reducible refine Below.setCell ?_ ?_ _) | (with_reducible refine Below.al ?_ _) | (with_reducible refine Below.drew ?_) | (with_reducible refine Below.drN ?_ _) | (with_reducible refine Below.step ?_ (by assumption)) | (with_reducible refine Below.alloc ?_ ?_ _))); all_goals (simp; try omega))⟩

set_option maxHeartbeats 400000 in
theorem FnExactNormalRange_walk (a b c : Int) (w : World) : Calls Try.prog 7 #[.agg #[.int .i64 a, .int .i64 b, .int .i64 c]] w (Ret w (.bool true)) := by
  obtain ⟨x, y, z, HV⟩ : ∃ x y z, Hid ((if rangeB a b c = true then .agg #[.int .i64 (nrmA (nums a b c)), .int .i64 (nrmB (nums a b c)), .int .i64 (nrmC (nums a b c))] else .agg #[.int .i64 0, .int .i64 0, .int .i64 0] : Value) = .agg #[.int .i64 x, .int .i64 y, .int .i64 z]) := by
    by_cases h : rangeB a b c = true
    · exact ⟨_, _, _, by rw [if_pos h]; rfl⟩
    · exact ⟨_, _, _, by rw [if_neg h]; rfl⟩
  go_enter Try.func7, Try.ntmps7
  go_wp2_with fail
  refine (toRange_any _ _ _ _).mono ?_; rintro e w1 ⟨rfl, g1⟩
  go_wp2_with fail
  refine (sNormalRange_any _ _ _ _).mono ?_; rw [HV.out]; rintro e w2 ⟨rfl, hb2⟩; have g2 := g1.step hb2; have hc2 := bcel g2
  have hz2 : w.heap.size < w2.heap.size := by have := g2.size; simp at this; omega
  have hz2' : w.heap.size < w2.heap.size + 1 := by omega
  go_wp2_with fail
  refine (toRange_any _ _ _ _).mono ?_; rintro e w3 ⟨rfl, hb3⟩
  go_wp2_with fail
  refine (iNormalRange_any _ _ _ _).mono ?_; rw [HV.out]; rintro e w4 ⟨rfl, hb4⟩; have g4 := hb3.step hb4; have hc4 := bcel g4
  have hz4 : w2.heap.size < w4.heap.size := by have := g4.size; simp at this; omega
  go_wp2_with fail
  refine (eqRange_same _ _ _ _).mono ?_; rintro e w5 ⟨rfl, hb5⟩
  go_wp2_with fail
  go_ret
  exact ⟨rfl, (by (repeat' (first | (with_reducible exact Below.refl _ _) | (with_reducible assumption) | (with_reducible refine Below.setCell ?_ ?_ _) | (with_reducible refine Below.al ?_ _) | (with_reducible refine Below.drew ?_) | (with_reducible refine Below.drN ?_ _) | (with_reducible refine Below.step ?_ (by assumption)) | (with_reducible refine Below.alloc ?_ ?_ _))); all_goals (simp; try omega))⟩
end Go.Proofs.Ytoejfpncpgoboaa
