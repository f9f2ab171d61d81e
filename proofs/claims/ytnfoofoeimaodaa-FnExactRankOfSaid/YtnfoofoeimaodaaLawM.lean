/- The walk of the exact law over the rank of an index. -/
import Derived.Test.YtnfoofoeimaodaaShape6
import Derived.Test.YtnfoofoeimaodaaLists
set_option linter.unusedVariables false
namespace Go.Proofs.Ytnfoofoeimaodaa
open Go.RowKit
set_option maxHeartbeats 1600000 in
theorem FnExactRankOf_walk (A : Option Addr) (c : Nat) (xs : List Int) (A' : Option Addr) (c' : Nat) (ys : List Int) (w : World) (hr : Rd w w.heap.size .i64 A xs) (hl : xs.length ≤ maxLen) (hr' : Rd w w.heap.size .i64 A' ys) (hl' : ys.length ≤ maxLen) : Calls Try.prog 9 #[.slice A xs.length c, .slice A' ys.length c'] w (Ret w (.bool true)) := by
  have hl2 := hl
  have hl2' := hl'
  unfold maxLen at hl2 hl2'
  by_cases hbig : 1048576 < xs.length
  · go_enter Try.func9, Try.ntmps9
    go_wp2_with fail
    go_ret
    exact ⟨rfl, (by (repeat' (first | (with_reducible exact Below.refl _ _) | (with_reducible assumption) | (with_reducible refine Below.setCell ?_ ?_ _) | (with_reducible refine Below.al ?_ _) | (with_reducible refine Below.drew ?_) | (with_reducible refine Below.drN ?_ _) | (with_reducible refine Below.step ?_ (by assumption)) | (with_reducible refine Below.alloc ?_ ?_ _))); all_goals (simp; try omega))⟩
  by_cases hbig' : 1048576 < ys.length
  · go_enter Try.func9, Try.ntmps9
    go_wp2_with fail
    go_ret
    exact ⟨rfl, (by (repeat' (first | (with_reducible exact Below.refl _ _) | (with_reducible assumption) | (with_reducible refine Below.setCell ?_ ?_ _) | (with_reducible refine Below.al ?_ _) | (with_reducible refine Below.drew ?_) | (with_reducible refine Below.drN ?_ _) | (with_reducible refine Below.step ?_ (by assumption)) | (with_reducible refine Below.alloc ?_ ?_ _))); all_goals (simp; try omega))⟩
  · have HE := Lib.hid (show eqB xs xs = true by simp [eqB])
    have HE' := Lib.hid (show eqB ys ys = true by simp [eqB])
    go_enter Try.func9, Try.ntmps9
    go_wp2_with fail
    refine (toIntS_any _ _ _ _ hr (by omega)).mono ?_; rintro e w1 ⟨A1, c1, rfl, ho1, hb1⟩
    have r1 := ho1.rd
    go_wp2_with fail
    refine (toIntS_any _ _ _ _ (hr'.to hb1) (by omega)).mono ?_; rintro e w2 ⟨A2, c2, rfl, ho2, hb2⟩; have g2 := hb1.step hb2
    have r2 := ho2.rd
    go_wp2_with fail
    refine (sRankOf_any _ _ _ _ _ _ _ (r1.to hb2) r2 hl hl').mono ?_; rintro e w3 ⟨rfl, hb3⟩; have g3 := g2.step hb3
    go_wp2_with fail
    refine (toIntS_any _ _ _ _ (hr.to g3) (by omega)).mono ?_; rintro e w4 ⟨A4, c4, rfl, ho4, hb4⟩; have g4 := g3.step hb4
    have r4 := ho4.rd
    go_wp2_with fail
    refine (toIntS_any _ _ _ _ (hr'.to g4) (by omega)).mono ?_; rintro e w5 ⟨A5, c5, rfl, ho5, hb5⟩; have g5 := g4.step hb5
    have r5 := ho5.rd
    have r5x := r4.to hb5
    go_wp2_with fail
    refine (iRankOf_any _ _ _ _ _ _ _ r5x r5 hl hl').mono ?_; rintro e w6 ⟨rfl, hb6⟩; have g6 := g5.step hb6
    have r6 := r5.to hb6
    have r6x := r5x.to hb6
    go_wp2_with fail
    refine (toIntS_any _ _ _ _ (hr.to g6) (by omega)).mono ?_; rintro e w7 ⟨A7, c7, rfl, ho7, hb7⟩; have g7 := g6.step hb7
    have r7 := ho7.rd
    go_wp2_with fail
    refine (eqIntS_any _ _ _ _ _ _ _ _ _ (r6x.to hb7) r7 hl hl).mono ?_; rintro e w8 ⟨rfl, hb8⟩; have g8 := g7.step hb8
    rw [HE.out]
    have r8 := (r6.to hb7).to hb8
    go_wp2_with fail
    refine (toIntS_any _ _ _ _ (hr'.to g8) (by omega)).mono ?_; rintro e w9 ⟨A9, c9, rfl, ho9, hb9⟩; have g9 := g8.step hb9
    have r9 := ho9.rd
    go_wp2_with fail
    refine (eqIntS_any _ _ _ _ _ _ _ _ _ (r8.to hb9) r9 hl' hl').mono ?_; rintro e w10 ⟨rfl, hb10⟩; have g10 := g9.step hb10
    rw [HE'.out]
    go_wp2_with fail
    go_ret
    exact ⟨rfl, g10⟩
end Go.Proofs.Ytnfoofoeimaodaa
