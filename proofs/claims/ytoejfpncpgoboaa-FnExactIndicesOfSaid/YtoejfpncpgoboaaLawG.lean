/- The walk of the exact law over the indices that a slice takes. -/
import Derived.Test.YtoejfpncpgoboaaSlice3
import Derived.Test.YtoejfpncpgoboaaLists
set_option linter.unusedVariables false
namespace Go.Proofs.Ytoejfpncpgoboaa
open Go.RowKit

set_option maxHeartbeats 1600000 in
theorem FnExactIndicesOf_walk (n f t b : Int) (hf ht : Bool) (w : World) : Calls Try.prog 9 #[.int .i64 n, .agg #[.int .i64 f, .int .i64 t, .int .i64 b, .bool hf, .bool ht]] w (Ret w (.bool true)) := by
  obtain ⟨xs, HX, hxl⟩ : ∃ xs : List Int, Hid (xs = idxR n f t b hf ht) ∧ xs.length ≤ 2000000000 := by
    refine ⟨_, rfl, ?_⟩
    unfold idxR
    split
    · rename_i h
      obtain ⟨n0, n1⟩ := inB_yes h.1
      have := idx_len n f t b hf ht n0 (by have := h.2; simp [sliceB] at this; omega)
      omega
    · simp
  go_enter Try.func9, Try.ntmps9
  go_wp2_with fail
  refine (toSlice_any _ _ _ _ _ _).mono ?_; rintro e w1 ⟨rfl, g1⟩
  go_wp2_with fail
  refine (sIndicesOf_any _ _ _ _ _ _ _).mono ?_; rw [← HX.out]; rintro e w2 ⟨Aw, cw, rfl, how, hb2⟩; have g2 := g1.step hb2; have hc2 := bcel g2
  have rw2 := how.rd
  go_wp2_with fail
  refine (toSlice_any _ _ _ _ _ _).mono ?_; rintro e w3 ⟨rfl, hb3⟩; have g3 := g2.step hb3
  go_wp2_with fail
  refine (iIndicesOf_any _ _ _ _ _ _ _).mono ?_; rw [← HX.out]; rintro e w4 ⟨A4, c4, rfl, ho4, hb4⟩; have g4 := g3.step hb4
  have rw4 := (rw2.to hb3).to hb4
  obtain ⟨Bg, hBg⟩ : ∃ B, B = w3.heap.size := ⟨_, rfl⟩
  rw [← hBg] at ho4
  have z3 := g3.size
  have z34 := hb4.size
  have z23 := hb3.size
  simp at z3
  have hBw : w.heap.size ≤ Bg := by omega
  have hBg4 : Bg ≤ w4.heap.size := by omega
  have hBg2 : w2.heap.size ≤ Bg := by omega
  have hbA : Below w.heap.size w w4 := (by (repeat' (first | (with_reducible exact Below.refl _ _) | (with_reducible assumption) | (with_reducible refine Below.setCell ?_ ?_ _) | (with_reducible refine Below.al ?_ _) | (with_reducible refine Below.drew ?_) | (with_reducible refine Below.drN ?_ _) | (with_reducible refine Below.step ?_ (by assumption)) | (with_reducible refine Below.alloc ?_ ?_ _))); all_goals (simp; try omega))
  have hbox := fun o => (g4.cell (p := ⟨w.heap.size, o, none⟩) (by simp))
  have hBb : w.heap.size < Bg := by omega
  clear hc2 hBg
  have hBg := hBg4
  have hd : blk Aw = none ∨ blk Aw ≠ blk A4 := by
    rcases h : blk Aw with _ | k
    · exact .inl rfl
    · refine .inr fun e => ?_
      have := how.ge _ h
      have := ho4.ge _ e.symm
      omega
  have HE := Lib.hid (show eqB xs xs = true by simp [eqB])
  have hxl2 : xs.length ≤ maxLen := by simp only [maxLen]; omega
  have r4 := ho4.rd
  go_wp2_with fail
  refine (eqIntS_any _ _ _ _ _ _ _ _ _ r4 rw4 hxl2 hxl2).mono ?_; rintro e w5 ⟨rfl, hb5⟩
  rw [HE.out]
  have ho5 := ho4.below hb5 (Nat.le_refl _)
  have rw5 := rw4.to hb5
  go_wp2_with fail
  refine (markIntS_any _ _ _ _ _ _ ho5 hxl (by omega) (by omega)).mono ?_; rintro e w6 ⟨rfl, ho6, hg6⟩
  have hb6 : Below Bg w5 w6 := below_of_grown hg6 (by have := hb5.size; omega) (fun k hk => (ho5.ge k hk).1)
  have rw6 := (rw5.kept hg6 hd).more hg6.size
  have r6 : Rd w6 w6.heap.size .i64 A4 (upF 1 xs.length) := ho6.rd
  go_wp2_with fail
  refine (heldIntS_any _ _ _ _ _ _ r6 hxl (by omega) (by omega)).mono ?_; rintro e w6' ⟨rfl, rfl⟩
  have hb46 : Below Bg w4 w6 := (hb5.mono hBg).trans hb6
  (have hc6 : ∀ o, w6.cell? ⟨w.heap.size, o, none⟩ = _ := fun o => (hb46.cell (p := ⟨w.heap.size, o, none⟩) hBb).trans (hbox o))
  go_wp2_with fail
  (refine (toSlice_any _ _ _ _ _ _).mono ?_; rintro e w7 ⟨rfl, hb7⟩; go_wp2_with fail; refine (iIndicesOf_any _ _ _ _ _ _ _).mono ?_; rw [← HX.out]; rintro e w8 ⟨A8, c8, rfl, ho8, hb8⟩)
  have g8 := hb7.step hb8
  have rw8 := rw6.to g8
  have r8 := ho8.rd
  have q8 := r6.to g8
  go_wp2_with fail
  refine (eqIntS_any _ _ _ _ _ _ _ _ _ r8 rw8 hxl2 hxl2).mono ?_; rintro e w9 ⟨rfl, hb9⟩
  rw [HE.out]
  have q9 := q8.to hb9
  go_wp2_with fail
  refine (heldIntS_any _ _ _ _ _ _ q9 hxl (by omega) (by omega)).mono ?_; rintro e w9' ⟨rfl, rfl⟩
  go_wp2_with fail
  go_ret
  exact ⟨rfl, (hbA.trans (hb46.mono hBw)).step (g8.step hb9)⟩
end Go.Proofs.Ytoejfpncpgoboaa
