/- The walks of the exact laws over ranges in reverse order, . -/
import Derived.Test.YtoejfpncpgoboaaLawD
import Derived.Test.YtoejfpncpgoboaaRange4
set_option linter.unusedVariables false
namespace Go.Proofs.Ytoejfpncpgoboaa
open Go.RowKit

set_option maxHeartbeats 800000 in
theorem FnExactReverseRange_walk (a b c : Int) (w : World) : Calls Try.prog 8 #[.agg #[.int .i64 a, .int .i64 b, .int .i64 c]] w (Ret w (.bool true)) := by
  obtain ⟨x, hx⟩ : ∃ x, x = rv1 a b c := ⟨_, rfl⟩
  obtain ⟨y, hy⟩ : ∃ x, x = rv2 a b c := ⟨_, rfl⟩
  obtain ⟨z, hz⟩ : ∃ x, x = rv3 a b c := ⟨_, rfl⟩
  have HX := Lib.hid hx
  have HY := Lib.hid hy
  have HZ := Lib.hid hz
  clear hx hy hz
  go_enter Try.func8, Try.ntmps8
  go_wp2_with fail
  refine (toRange_any _ _ _ _).mono ?_; rintro e w1 ⟨rfl, g1⟩
  go_wp2_with fail
  refine (sReverseRange_any _ _ _ _).mono ?_; rw [← HX.out, ← HY.out, ← HZ.out]; rintro e w2 ⟨rfl, hb2⟩; have g2 := g1.step hb2; have hc2 := bcel g2
  have hz2 : w.heap.size < w2.heap.size := by have := g2.size; simp at this; omega
  have hz2' : w.heap.size < w2.heap.size + 1 := by omega
  go_wp2_with fail
  refine (toRange_any _ _ _ _).mono ?_; rintro e w3 ⟨rfl, hb3⟩
  go_wp2_with fail
  refine (iReverseRange_any _ _ _ _).mono ?_; rw [← HX.out, ← HY.out, ← HZ.out]; rintro e w4 ⟨rfl, hb4⟩; have g4 := hb3.step hb4; have hc4 := bcel g4
  have hz4 : w2.heap.size < w4.heap.size := by have := g4.size; simp at this; omega
  go_wp2_with fail
  refine (eqRange_same _ _ _ _).mono ?_; rintro e w5 ⟨rfl, hb5⟩
  go_wp2_with fail
  go_ret
  exact ⟨rfl, (by (repeat' (first | (with_reducible exact Below.refl _ _) | (with_reducible assumption) | (with_reducible refine Below.setCell ?_ ?_ _) | (with_reducible refine Below.al ?_ _) | (with_reducible refine Below.drew ?_) | (with_reducible refine Below.drN ?_ _) | (with_reducible refine Below.step ?_ (by assumption)) | (with_reducible refine Below.alloc ?_ ?_ _))); all_goals (simp; try omega))⟩

end Go.Proofs.Ytoejfpncpgoboaa
