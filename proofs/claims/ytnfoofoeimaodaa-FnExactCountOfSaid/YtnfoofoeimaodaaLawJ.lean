/- The walk of the exact laws over one list that answer one value. -/
import Derived.Test.YtnfoofoeimaodaaShape2
import Derived.Test.YtnfoofoeimaodaaLists
set_option linter.unusedVariables false
namespace Go.Proofs.Ytnfoofoeimaodaa
open Go.RowKit
set_option maxHeartbeats 800000 in
theorem FnExactValidShape_walk (A : Option Addr) (c : Nat) (xs : List Int) (w : World) (hr : Rd w w.heap.size .i64 A xs) (hl : xs.length ≤ maxLen) : Calls Try.prog 3 #[.slice A xs.length c] w (Ret w (.bool true)) := by
  have hl2 := hl
  unfold maxLen at hl2
  by_cases hbig : 1048576 < xs.length
  · go_enter Try.func3, Try.ntmps3
    go_wp2_with fail
    go_ret
    exact ⟨rfl, (by (repeat' (first | (with_reducible exact Below.refl _ _) | (with_reducible assumption) | (with_reducible refine Below.setCell ?_ ?_ _) | (with_reducible refine Below.al ?_ _) | (with_reducible refine Below.drew ?_) | (with_reducible refine Below.drN ?_ _) | (with_reducible refine Below.step ?_ (by assumption)) | (with_reducible refine Below.alloc ?_ ?_ _))); all_goals (simp; try omega))⟩
  · have HE := Lib.hid (show eqB xs xs = true by simp [eqB])
    go_enter Try.func3, Try.ntmps3
    go_wp2_with fail
    refine (toIntS_any _ _ _ _ hr (by omega)).mono ?_; rintro e w1 ⟨A1, c1, rfl, ho1, hb1⟩
    have r1 := ho1.rd
    go_wp2_with fail
    refine (sValidShape_any _ _ _ _ r1 hl).mono ?_; rintro e w2 ⟨rfl, hb2⟩; have g2 := hb1.step hb2
    go_wp2_with fail
    refine (toIntS_any _ _ _ _ (hr.to g2) (by omega)).mono ?_; rintro e w3 ⟨A3, c3, rfl, ho3, hb3⟩; have g3 := g2.step hb3
    have r3 := ho3.rd
    go_wp2_with fail
    refine (iValidShape_any _ _ _ _ r3 hl).mono ?_; rintro e w4 ⟨rfl, hb4⟩; have g4 := g3.step hb4
    have r4 := r3.to hb4
    go_wp2_with fail
    refine (toIntS_any _ _ _ _ (hr.to g4) (by omega)).mono ?_; rintro e w5 ⟨A5, c5, rfl, ho5, hb5⟩; have g5 := g4.step hb5
    have r5 := ho5.rd
    go_wp2_with fail
    refine (eqIntS_any _ _ _ _ _ _ _ _ _ (r4.to hb5) r5 hl hl).mono ?_; rintro e w6 ⟨rfl, hb6⟩
    rw [HE.out]
    go_wp2_with fail
    go_ret
    exact ⟨rfl, g5.step hb6⟩
set_option maxHeartbeats 800000 in
theorem FnExactCountOf_walk (A : Option Addr) (c : Nat) (xs : List Int) (w : World) (hr : Rd w w.heap.size .i64 A xs) (hl : xs.length ≤ maxLen) : Calls Try.prog 4 #[.slice A xs.length c] w (Ret w (.bool true)) := by
  have hl2 := hl
  unfold maxLen at hl2
  by_cases hbig : 1048576 < xs.length
  · go_enter Try.func4, Try.ntmps4
    go_wp2_with fail
    go_ret
    exact ⟨rfl, (by (repeat' (first | (with_reducible exact Below.refl _ _) | (with_reducible assumption) | (with_reducible refine Below.setCell ?_ ?_ _) | (with_reducible refine Below.al ?_ _) | (with_reducible refine Below.drew ?_) | (with_reducible refine Below.drN ?_ _) | (with_reducible refine Below.step ?_ (by assumption)) | (with_reducible refine Below.alloc ?_ ?_ _))); all_goals (simp; try omega))⟩
  · have HE := Lib.hid (show eqB xs xs = true by simp [eqB])
    go_enter Try.func4, Try.ntmps4
    go_wp2_with fail
    refine (toIntS_any _ _ _ _ hr (by omega)).mono ?_; rintro e w1 ⟨A1, c1, rfl, ho1, hb1⟩
    have r1 := ho1.rd
    go_wp2_with fail
    refine (sCountOf_any _ _ _ _ r1 hl).mono ?_; rintro e w2 ⟨rfl, hb2⟩; have g2 := hb1.step hb2
    go_wp2_with fail
    refine (toIntS_any _ _ _ _ (hr.to g2) (by omega)).mono ?_; rintro e w3 ⟨A3, c3, rfl, ho3, hb3⟩; have g3 := g2.step hb3
    have r3 := ho3.rd
    go_wp2_with fail
    refine (iCountOf_any _ _ _ _ r3 hl).mono ?_; rintro e w4 ⟨rfl, hb4⟩; have g4 := g3.step hb4
    have r4 := r3.to hb4
    go_wp2_with fail
    refine (toIntS_any _ _ _ _ (hr.to g4) (by omega)).mono ?_; rintro e w5 ⟨A5, c5, rfl, ho5, hb5⟩; have g5 := g4.step hb5
    have r5 := ho5.rd
    go_wp2_with fail
    refine (eqIntS_any _ _ _ _ _ _ _ _ _ (r4.to hb5) r5 hl hl).mono ?_; rintro e w6 ⟨rfl, hb6⟩
    rw [HE.out]
    go_wp2_with fail
    go_ret
    exact ⟨rfl, g5.step hb6⟩
end Go.Proofs.Ytnfoofoeimaodaa
