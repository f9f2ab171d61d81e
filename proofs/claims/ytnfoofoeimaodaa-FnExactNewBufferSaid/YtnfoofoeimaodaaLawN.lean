/- The walk of the exact law over a new buffer. -/
import Derived.Test.YtnfoofoeimaodaaBuf1
set_option linter.unusedVariables false
namespace Go.Proofs.Ytnfoofoeimaodaa
open Go.RowKit
set_option maxHeartbeats 3200000 in
theorem FnExactNewBuffer_walk (n : Int) (w : World) : Calls Try.prog 12 #[.int .i64 n] w (Ret w (.bool true)) := by
  obtain ⟨xs, HX, hxl⟩ : ∃ xs : List Int, Hid (xs = newBuf n) ∧ xs.length ≤ 60 := by
    refine ⟨_, rfl, ?_⟩
    unfold newBuf
    split
    · rename_i h
      simp [inB] at h
      simp; omega
    · simp
  have xl : xs.length ≤ 2000000000 := by omega
  have xl2 : xs.length ≤ maxLen := by simp only [maxLen]; omega
  go_enter Try.func12, Try.ntmps12
  go_wp2_with fail
  refine (sNewBuffer_any _ _).mono ?_; rw [← HX.out]; rintro e w1 ⟨Aw, cw, rfl, how, hb1⟩
  have z1 := hb1.size
  go_wp2_with fail
  refine (iNewBuffer_any _ _).mono ?_; rw [← HX.out]; rintro e w3 ⟨A4, c4, rfl, ho4, hb3⟩
  have z3 := hb3.size
  simp at z3
  have hc3 := bcel hb3
  have z3x := Nat.lt_of_succ_le z3
  have g3 : Below w.heap.size w w3 := (by (repeat' (first | (with_reducible exact Below.refl _ _) | (with_reducible assumption) | (with_reducible refine Below.setCell ?_ ?_ _) | (with_reducible refine Below.al ?_ _) | (with_reducible refine Below.drew ?_) | (with_reducible refine Below.drN ?_ _) | (with_reducible refine Below.step ?_ (by assumption)) | (with_reducible refine Below.alloc ?_ ?_ _))); all_goals (simp; try omega))
  have v3 : Rd w3 w3.heap.size .i64 Aw xs := ((how.below (B' := w1.heap.size) (w' := w3) (((Below.refl _ _).al _).step hb3) (Nat.le_refl _)).rd)
  have q3 := ho4.ge
  simp at q3
  have o4 := ho4.mono (B' := w1.heap.size) (by simp)
  clear ho4
  go_wp2_with fail
  refine (eqBuffer_same _ _ _ _ _ _ ((o4.below (B' := w3.heap.size) ((by (repeat' (first | (with_reducible exact Below.refl _ _) | (with_reducible assumption) | (with_reducible refine Below.setCell ?_ ?_ _) | (with_reducible refine Below.al ?_ _) | (with_reducible refine Below.drew ?_) | (with_reducible refine Below.drN ?_ _) | (with_reducible refine Below.step ?_ (by assumption)) | (with_reducible refine Below.alloc ?_ ?_ _))); all_goals (simp; try omega))) (Nat.le_refl _)).rd) (v3.to ((by (repeat' (first | (with_reducible exact Below.refl _ _) | (with_reducible assumption) | (with_reducible refine Below.setCell ?_ ?_ _) | (with_reducible refine Below.al ?_ _) | (with_reducible refine Below.drew ?_) | (with_reducible refine Below.drN ?_ _) | (with_reducible refine Below.step ?_ (by assumption)) | (with_reducible refine Below.alloc ?_ ?_ _))); all_goals (simp; try omega)))) xl2).mono ?_; rintro e w5 ⟨rfl, hb5⟩
  have z5 := hb5.size
  simp at z5
  have hc5 := bcel hb5
  have g5 : Below w.heap.size w w5 := (g3.al _).step hb5
  have o5 := o4.below (B' := w3.heap.size) (((Below.refl _ _).al _).step hb5) (Nat.le_refl _)
  have v5 := v3.to (((Below.refl _ _).al _).step hb5)
  have z13 : w1.heap.size < w3.heap.size := by omega
  have z35 : w3.heap.size < w5.heap.size := by omega
  have hA : ∀ k, blk A4 = some k → w1.heap.size < k ∧ k < w3.heap.size := fun k hk => by have := q3 k hk; omega
  have hN1 : some w1.heap.size ≠ blk A4 := by intro h; have := (hA _ h.symm).1; omega
  have hN3 : some w3.heap.size ≠ blk A4 := by intro h; have := (hA _ h.symm).2; omega
  have hwg := how.ge
  have hd : blk Aw = none ∨ blk Aw ≠ blk A4 := by
    rcases h : blk Aw with _ | k
    · exact .inl rfl
    · refine .inr fun e => ?_
      have := (hwg _ h).2
      have := (hA _ e.symm).1
      omega
  go_wp2_with fail
  refine (markBuffer_any _ _ _ _ _ _ o5 xl (by omega) (by omega)).mono ?_; rintro e w6 ⟨rfl, o6, hg6⟩
  have z6 := hg6.size
  have hc61 := fun o => hg6.cell_far ⟨w1.heap.size, o, none⟩ (Nat.lt_trans z13 z35) hN1
  have hc63 := fun o => hg6.cell_far ⟨w3.heap.size, o, none⟩ z35 hN3
  have v6 := (v5.kept hg6 hd).more z6
  have u6 : Rd w6 w6.heap.size .i64 A4 (upF 1 xs.length) := o6.rd
  have g6 : Below w.heap.size w w6 := g5.trans (below_of_grown hg6 g5.size (fun k hk => by have := hA k hk; have := hb1.size; omega))
  have z36 : w3.heap.size < w6.heap.size := by omega
  have z16 : w1.heap.size < w6.heap.size := by omega
  go_wp2_with fail
  refine (heldBuffer_any _ _ _ _ _ u6 xl (by omega) (by omega)).mono ?_; rintro e w7 ⟨rfl, hb7⟩
  have hc7 := bcel hb7
  have z7 := hb7.size
  have v7 := v6.to hb7
  have u7 := u6.to hb7
  have g7 := g6.step hb7
  have z37 : w3.heap.size < w7.heap.size := by omega
  have z17 : w1.heap.size < w7.heap.size := by omega
  have hp : ¬ (1 + (xs.length : Int) < 0) := by omega
  go_wp2_with fail
  refine (iNewBuffer_any _ _).mono ?_; rw [← HX.out]; rintro e w8 ⟨A8, c8, rfl, ho8, hb8⟩
  have hc8 := bcel hb8
  have z8 := hb8.size
  have v8 := v7.to hb8
  have u8 := u7.to hb8
  have g8 := g7.step hb8
  have z38 : w3.heap.size < w8.heap.size := by omega
  have z18 : w1.heap.size < w8.heap.size := by omega
  go_wp2_with fail
  refine (eqBuffer_same _ _ _ _ _ _ ((ho8.below (B' := w8.heap.size) ((Below.refl _ _).al _) (Nat.le_refl _)).rd) (v8.to ((Below.refl _ _).al _)) xl2).mono ?_; rintro e w9 ⟨rfl, hb9⟩
  have hc9 := bcel hb9
  have z9 := hb9.size
  simp at z9
  have g9 := (g8.al _).step hb9
  have u9 := u8.to (((Below.refl _ _).al _).step hb9)
  go_wp2_with fail
  refine (heldBuffer_any _ _ _ _ _ u9 xl (by omega) (by omega)).mono ?_; rintro e w10 ⟨rfl, hb10⟩
  have g10 := g9.step hb10
  go_wp2_with fail
  go_ret
  exact ⟨rfl, g10⟩
end Go.Proofs.Ytnfoofoeimaodaa
