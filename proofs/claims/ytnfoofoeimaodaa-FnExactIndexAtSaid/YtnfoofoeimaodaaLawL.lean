/- The walk of the exact law over the index of a shape with a rank. -/
import Derived.Test.YtnfoofoeimaodaaShape4
set_option linter.unusedVariables false
namespace Go.Proofs.Ytnfoofoeimaodaa
open Go.RowKit

def idxA (xs : List Int) (k : Int) : List Int := if shapeB xs = true ∧ 0 ≤ k ∧ k < prod xs then unL xs k xs.length else []
theorem idxA_no {xs : List Int} {k : Int} (h : ¬ (shapeB xs = true ∧ 0 ≤ k ∧ k < prod xs)) : idxA xs k = [] := if_neg h
theorem idxA_yes {xs : List Int} {k : Int} (h : shapeB xs = true ∧ 0 ≤ k ∧ k < prod xs) : idxA xs k = unL xs k xs.length := if_pos h

set_option maxHeartbeats 1600000 in
theorem iIndexAt_any (A : Option Addr) (c : Nat) (xs : List Int) (k : Int) (w : World) (hr : Rd w w.heap.size .i64 A xs) (hl : xs.length ≤ maxLen) : Calls Try.prog 31 #[.slice A xs.length c, .int .i64 k] w (RetInts w (idxA xs k)) := by
  rcases hv : shapeB xs with _ | _
  · have HR := Lib.hid (idxA_no (xs := xs) (k := k) (by simp [hv]))
    rw [HR.out]
    go_enter Try.func31, Try.ntmps31
    go_wp2_with fail
    refine (isShape_any _ _ _ _ _ hr hl).mono ?_; rintro e w1 ⟨rfl, rfl⟩
    rw [hv]
    go_wp2_with fail
    go_ret
    exact ⟨none, 0, rfl, Own.nil _ _, (by (repeat' (first | (with_reducible exact Below.refl _ _) | (with_reducible assumption) | (with_reducible refine Below.setCell ?_ ?_ _) | (with_reducible refine Below.al ?_ _) | (with_reducible refine Below.drew ?_) | (with_reducible refine Below.drN ?_ _) | (with_reducible refine Below.step ?_ (by assumption)) | (with_reducible refine Below.alloc ?_ ?_ _))); all_goals (simp; try omega))⟩
  · have hx := ext_shape hv
    have hp := prod_shape hv
    rcases (show k < 0 ∨ (0 ≤ k ∧ prod xs ≤ k) ∨ (0 ≤ k ∧ k < prod xs) by omega) with h | ⟨h, h2⟩ | ⟨h, h2⟩
    · have HR := Lib.hid (idxA_no (xs := xs) (k := k) (by omega))
      rw [HR.out]
      go_enter Try.func31, Try.ntmps31
      go_wp2_with fail
      refine (isShape_any _ _ _ _ _ hr hl).mono ?_; rintro e w1 ⟨rfl, rfl⟩
      rw [hv]
      go_wp2_with fail
      go_ret
      exact ⟨none, 0, rfl, Own.nil _ _, (by (repeat' (first | (with_reducible exact Below.refl _ _) | (with_reducible assumption) | (with_reducible refine Below.setCell ?_ ?_ _) | (with_reducible refine Below.al ?_ _) | (with_reducible refine Below.drew ?_) | (with_reducible refine Below.drN ?_ _) | (with_reducible refine Below.step ?_ (by assumption)) | (with_reducible refine Below.alloc ?_ ?_ _))); all_goals (simp; try omega))⟩
    · have HR := Lib.hid (idxA_no (xs := xs) (k := k) (by omega))
      rw [HR.out]
      go_enter Try.func31, Try.ntmps31
      go_wp2_with fail
      refine (isShape_any _ _ _ _ _ hr hl).mono ?_; rintro e w1 ⟨rfl, rfl⟩
      rw [hv]
      go_wp2_with fail
      refine (countOf_any _ _ _ _ _ hr hx).mono ?_; rintro e w1 ⟨rfl, rfl⟩
      go_wp2_with fail
      go_ret
      exact ⟨none, 0, rfl, Own.nil _ _, (by (repeat' (first | (with_reducible exact Below.refl _ _) | (with_reducible assumption) | (with_reducible refine Below.setCell ?_ ?_ _) | (with_reducible refine Below.al ?_ _) | (with_reducible refine Below.drew ?_) | (with_reducible refine Below.drN ?_ _) | (with_reducible refine Below.step ?_ (by assumption)) | (with_reducible refine Below.alloc ?_ ?_ _))); all_goals (simp; try omega))⟩
    · have HR := Lib.hid (idxA_yes (xs := xs) (k := k) ⟨hv, h, h2⟩)
      rw [HR.out]
      go_enter Try.func31, Try.ntmps31
      go_wp2_with fail
      refine (isShape_any _ _ _ _ _ hr hl).mono ?_; rintro e w1 ⟨rfl, rfl⟩
      rw [hv]
      go_wp2_with fail
      refine (countOf_any _ _ _ _ _ hr hx).mono ?_; rintro e w1 ⟨rfl, rfl⟩
      go_wp2_with fail
      refine (indexAt_any _ _ _ _ _ hr (extP_of hx (by omega)) h (by omega)).mono ?_; rintro e w2 ⟨A2, c2, rfl, ho2, hb2⟩
      go_wp2_with fail
      go_ret
      exact ⟨A2, c2, rfl, ho2, (by (repeat' (first | (with_reducible exact Below.refl _ _) | (with_reducible assumption) | (with_reducible refine Below.setCell ?_ ?_ _) | (with_reducible refine Below.al ?_ _) | (with_reducible refine Below.drew ?_) | (with_reducible refine Below.drN ?_ _) | (with_reducible refine Below.step ?_ (by assumption)) | (with_reducible refine Below.alloc ?_ ?_ _))); all_goals (simp; try omega))⟩

set_option maxHeartbeats 1600000 in
theorem sIndexAt_any (A : Option Addr) (c : Nat) (xs : List Int) (k : Int) (w : World) (hr : Rd w w.heap.size .i64 A xs) (hl : xs.length ≤ maxLen) : Calls Try.prog 30 #[.slice A xs.length c, .int .i64 k] w (RetInts w (idxA xs k)) := by
  rcases hv : shapeB xs with _ | _
  · have HR := Lib.hid (idxA_no (xs := xs) (k := k) (by simp [hv]))
    rw [HR.out]
    go_enter Try.func30, Try.ntmps30
    go_wp2_with fail
    refine (validShape_any _ _ _ _ hr hl).mono ?_; rintro e w1 ⟨rfl, hb1⟩
    rw [hv]
    go_wp2_with fail
    go_ret
    exact ⟨none, 0, rfl, Own.nil _ _, (by (repeat' (first | (with_reducible exact Below.refl _ _) | (with_reducible assumption) | (with_reducible refine Below.setCell ?_ ?_ _) | (with_reducible refine Below.al ?_ _) | (with_reducible refine Below.drew ?_) | (with_reducible refine Below.drN ?_ _) | (with_reducible refine Below.step ?_ (by assumption)) | (with_reducible refine Below.alloc ?_ ?_ _))); all_goals (simp; try omega))⟩
  · have hx := ext_shape hv
    have hp := prod_shape hv
    by_cases h : 0 ≤ k ∧ k < prod xs
    · have HR := Lib.hid (idxA_yes (xs := xs) (k := k) ⟨hv, h.1, h.2⟩)
      have HI := Lib.hid (show inB k 0 (prod xs - 1) = true by simp [inB]; omega)
      rw [HR.out]
      go_enter Try.func30, Try.ntmps30
      go_wp2_with fail
      refine (validShape_any _ _ _ _ hr hl).mono ?_; rintro e w1 ⟨rfl, hb1⟩
      rw [hv]
      have r1 := hr.to hb1
      have z1 := hb1.size
      go_wp2_with fail
      refine (count_any _ _ _ _ _ r1 hx).mono ?_; rintro e w1' ⟨rfl, rfl⟩
      go_wp2_with fail
      refine (inRange_any _ _ _ _).mono ?_; rintro e w1' ⟨rfl, rfl⟩
      rw [HI.out]
      go_wp2_with fail
      refine (unrank_any _ _ _ _ _ r1 (extP_of hx (by omega)) h.1 (by omega)).mono ?_; rintro e w2 ⟨A2, c2, rfl, ho2, hb2⟩
      go_wp2_with fail
      go_ret
      exact ⟨A2, c2, rfl, ho2.mono z1, (by (repeat' (first | (with_reducible exact Below.refl _ _) | (with_reducible assumption) | (with_reducible refine Below.setCell ?_ ?_ _) | (with_reducible refine Below.al ?_ _) | (with_reducible refine Below.drew ?_) | (with_reducible refine Below.drN ?_ _) | (with_reducible refine Below.step ?_ (by assumption)) | (with_reducible refine Below.alloc ?_ ?_ _))); all_goals (simp; try omega))⟩
    · have HR := Lib.hid (idxA_no (xs := xs) (k := k) (by intro h'; exact h h'.2))
      have HI := Lib.hid (show inB k 0 (prod xs - 1) = false by simp [inB]; omega)
      rw [HR.out]
      go_enter Try.func30, Try.ntmps30
      go_wp2_with fail
      refine (validShape_any _ _ _ _ hr hl).mono ?_; rintro e w1 ⟨rfl, hb1⟩
      rw [hv]
      have r1 := hr.to hb1
      go_wp2_with fail
      refine (count_any _ _ _ _ _ r1 hx).mono ?_; rintro e w1' ⟨rfl, rfl⟩
      go_wp2_with fail
      refine (inRange_any _ _ _ _).mono ?_; rintro e w1' ⟨rfl, rfl⟩
      rw [HI.out]
      go_wp2_with fail
      go_ret
      exact ⟨none, 0, rfl, Own.nil _ _, (by (repeat' (first | (with_reducible exact Below.refl _ _) | (with_reducible assumption) | (with_reducible refine Below.setCell ?_ ?_ _) | (with_reducible refine Below.al ?_ _) | (with_reducible refine Below.drew ?_) | (with_reducible refine Below.drN ?_ _) | (with_reducible refine Below.step ?_ (by assumption)) | (with_reducible refine Below.alloc ?_ ?_ _))); all_goals (simp; try omega))⟩

set_option maxHeartbeats 3200000 in
theorem FnExactIndexAt_walk (A : Option Addr) (c : Nat) (ys : List Int) (k : Int) (w : World) (hr : Rd w w.heap.size .i64 A ys) (hl : ys.length ≤ maxLen) : Calls Try.prog 7 #[.slice A ys.length c, .int .i64 k] w (Ret w (.bool true)) := by
  obtain ⟨xs, HX, hxl⟩ : ∃ xs : List Int, Hid (xs = idxA ys k) ∧ xs.length ≤ 2000000000 := by
    refine ⟨_, rfl, ?_⟩
    unfold idxA
    split
    · rename_i h
      have := (ext_shape h.1).1
      rw [unL_length]; omega
    · simp
  have hl2 := hl
  unfold maxLen at hl2
  by_cases hbig : 1048576 < ys.length
  · go_enter Try.func7, Try.ntmps7
    go_wp2_with fail
    go_ret
    exact ⟨rfl, (by (repeat' (first | (with_reducible exact Below.refl _ _) | (with_reducible assumption) | (with_reducible refine Below.setCell ?_ ?_ _) | (with_reducible refine Below.al ?_ _) | (with_reducible refine Below.drew ?_) | (with_reducible refine Below.drN ?_ _) | (with_reducible refine Below.step ?_ (by assumption)) | (with_reducible refine Below.alloc ?_ ?_ _))); all_goals (simp; try omega))⟩
  have HE1 := Lib.hid (show eqB xs xs = true by simp [eqB])
  have HE2 := Lib.hid (show eqB ys ys = true by simp [eqB])
  have xl2 : xs.length ≤ maxLen := by simp only [maxLen]; omega
  have al2 : ys.length ≤ maxLen := by simp only [maxLen]; omega
  have al : ys.length ≤ 2000000000 := by omega
  go_enter Try.func7, Try.ntmps7
  go_wp2_with fail
  refine (toIntS_any _ _ _ _ hr al).mono ?_; rintro e w1 ⟨A1, c1, rfl, ho1, hb1⟩
  have z1 := hb1.size
  have q1 := hr.below hb1
  have r1 := ho1.rd
  have k1 := ho1.cap_le
  go_wp2_with fail
  (refine (sIndexAt_any _ _ _ _ _ r1 al2).mono ?_)
  rw [← HX.out]; rintro e w2 ⟨Aw, cw, rfl, how, hb2⟩
  have z2 := hb2.size
  have q2 := q1.below (hb2.mono z1)
  have v2 := how.rd
  go_wp2_with fail
  refine (toIntS_any _ _ _ _ (q2.more (by omega)) al).mono ?_; rintro e w3 ⟨A3, c3, rfl, ho3, hb3⟩
  have z3 := hb3.size
  have q3 := q2.below (hb3.mono (by omega))
  have v3 := v2.below hb3
  have r3 := ho3.rd
  have k3 := ho3.cap_le
  go_wp2_with fail
  (refine (iIndexAt_any _ _ _ _ _ r3 al2).mono ?_)
  rw [← HX.out]; rintro e w4 ⟨A4, c4, rfl, ho4, hb4⟩
  have z4 := hb4.size
  have q4 := q3.below (hb4.mono (by omega))
  have v4 := v3.below (hb4.mono (by omega))
  have x4 := ho3.below hb4 (Nat.le_refl _)
  have hd : blk A4 = none ∨ blk A4 ≠ blk A3 := by
    rcases h : blk A4 with _ | k
    · exact .inl rfl
    · refine .inr fun e => ?_
      have := ho4.ge _ h
      have := ho3.ge _ e.symm
      omega
  go_wp2_with fail
  refine (eqIntS_any _ _ _ _ _ _ _ _ _ ho4.rd v4 xl2 xl2).mono ?_; rintro e w5 ⟨rfl, hb5⟩
  rw [HE1.out]
  have z5 := hb5.size
  have q5 := q4.below (hb5.mono (by omega))
  have v5 := v4.below (hb5.mono (by omega))
  have x5 := x4.below hb5 (Nat.le_refl _)
  have o5 := ho4.below hb5 (Nat.le_refl _)
  go_wp2_with fail
  refine (toIntS_any _ _ _ _ (q5.more (by omega)) al).mono ?_; rintro e w6 ⟨A6, c6, rfl, ho6, hb6⟩
  have z6 := hb6.size
  have q6 := q5.below (hb6.mono (by omega))
  have v6 := v5.below (hb6.mono (by omega))
  have x6 := x5.below hb6 (Nat.le_refl _)
  have o6 := o5.below hb6 (Nat.le_refl _)
  go_wp2_with fail
  refine (eqIntS_any _ _ _ _ _ _ _ _ _ x6.rd ho6.rd al2 al2).mono ?_; rintro e w7 ⟨rfl, hb7⟩
  rw [HE2.out]
  have z7 := hb7.size
  have q7 := q6.below (hb7.mono (by omega))
  have v7 := v6.below (hb7.mono (by omega))
  have x7 := x6.below hb7 (Nat.le_refl _)
  have o7 := o6.below hb7 (Nat.le_refl _)
  go_wp2_with fail
  refine (markIntS_any _ _ _ _ _ _ x7 al (by omega) (by omega)).mono ?_; rintro e w8 ⟨rfl, ho8, hg8⟩
  have z8 := hg8.size
  have hb8 : Below w2.heap.size w7 w8 := below_of_grown hg8 (by omega) (fun k hk => (x7.ge k hk).1)
  have q8 := q7.below (hb8.mono (by omega))
  have v8 := v7.below hb8
  have o8 := o7.kept hg8 hd
  go_wp2_with fail
  refine (eqIntS_any _ _ _ _ _ _ _ _ _ o8.rd v8 xl2 xl2).mono ?_; rintro e w9 ⟨rfl, hb9⟩
  rw [HE1.out]
  have z9 := hb9.size
  have q9 := q8.below (hb9.mono (by omega))
  have v9 := v8.below (hb9.mono (by omega))
  have o9 := o8.below hb9 (Nat.le_refl _)
  go_wp2_with fail
  refine (markIntS_any _ _ _ _ _ _ o9 hxl (by omega) (by omega)).mono ?_; rintro e w10 ⟨rfl, ho10, hg10⟩
  have z10 := hg10.size
  have hb10 : Below w3.heap.size w9 w10 := below_of_grown hg10 (by omega) (fun k hk => (o9.ge k hk).1)
  have q10 := q9.below (hb10.mono (by omega))
  have v10 := v9.below (hb10.mono (by omega))
  have u10 : Rd w10 w10.heap.size .i64 A4 (upF 1 xs.length) := ho10.rd
  go_wp2_with fail
  refine (heldIntS_any _ _ _ _ _ _ u10 hxl (by omega) (by omega)).mono ?_; rintro e w10' ⟨rfl, rfl⟩
  go_wp2_with fail
  refine (toIntS_any _ _ _ _ (q10.more (by omega)) al).mono ?_; rintro e w11 ⟨A11, c11, rfl, ho11, hb11⟩
  have z11 := hb11.size
  have v11 := v10.below (hb11.mono (by omega))
  have u11 := u10.to hb11
  have r3 := ho11.rd
  have k3 := ho11.cap_le
  go_wp2_with fail
  (refine (iIndexAt_any _ _ _ _ _ r3 al2).mono ?_)
  rw [← HX.out]; rintro e w12 ⟨A12, c12, rfl, ho12, hb12⟩
  have z12 := hb12.size
  have v12 := v11.below (hb12.mono (by omega))
  have u12 := u11.to hb12
  go_wp2_with fail
  refine (eqIntS_any _ _ _ _ _ _ _ _ _ ho12.rd v12 xl2 xl2).mono ?_; rintro e w13 ⟨rfl, hb13⟩
  rw [HE1.out]
  have u13 := u12.to hb13
  go_wp2_with fail
  refine (heldIntS_any _ _ _ _ _ _ u13 hxl (by omega) (by omega)).mono ?_; rintro e w13' ⟨rfl, rfl⟩
  go_wp2_with fail
  go_ret
  exact ⟨rfl, ((((((((((((hb1.step hb2).step hb3).step hb4).step hb5).step hb6).step hb7).trans (hb8.mono (by omega))).step hb9).trans (hb10.mono (by omega))).step hb11).step hb12).step hb13)⟩
end Go.Proofs.Ytnfoofoeimaodaa
