/- The walks of the exact laws over shapes that return strides. -/
import Derived.Test.YtnfoofoeimaodaaShape3
set_option linter.unusedVariables false
namespace Go.Proofs.Ytnfoofoeimaodaa
open Go.RowKit

def rowR (xs : List Int) : List Int := if shapeB xs = true then rowS xs else []
def colR (xs : List Int) : List Int := if shapeB xs = true then colS xs else []
set_option maxHeartbeats 800000 in
theorem sRowStrides_any (A : Option Addr) (c : Nat) (xs : List Int) (w : World) (hr : Rd w w.heap.size .i64 A xs) (hl : xs.length ≤ maxLen) (hcap : xs.length ≤ c) : Calls Try.prog 32 #[.slice A xs.length c] w (RetInts w (rowR xs)) := by
  rcases hv : shapeB xs with _ | _
  · have HR := Lib.hid (show rowR xs = [] by simp [rowR, hv])
    rw [HR.out]
    go_enter Try.func32, Try.ntmps32
    go_wp2_with fail
    (refine (validShape_any _ _ _ _ hr hl).mono ?_; rintro e w1 ⟨rfl, hb1⟩; have r1 := hr.to hb1)
    rw [hv]
    go_wp2_with fail
    go_ret
    exact ⟨none, 0, rfl, Own.nil _ _, (by (repeat' (first | (with_reducible exact Below.refl _ _) | (with_reducible assumption) | (with_reducible refine Below.setCell ?_ ?_ _) | (with_reducible refine Below.al ?_ _) | (with_reducible refine Below.drew ?_) | (with_reducible refine Below.drN ?_ _) | (with_reducible refine Below.step ?_ (by assumption)) | (with_reducible refine Below.alloc ?_ ?_ _))); all_goals (simp; try omega))⟩
  · have hx := ext_shape hv
    have HR := Lib.hid (show rowR xs = rowS xs by simp [rowR, hv])
    rw [HR.out]
    go_enter Try.func32, Try.ntmps32
    go_wp2_with fail
    (refine (validShape_any _ _ _ _ hr hl).mono ?_; rintro e w1 ⟨rfl, hb1⟩; have r1 := hr.to hb1)
    rw [hv]
    go_wp2_with fail
    refine (sRowStrides_in _ _ _ _ r1 hx hcap).mono ?_; rintro e w2 ⟨A2, c2, rfl, ho2, hb2⟩
    have hz := hb1.size
    go_wp2_with fail
    go_ret
    exact ⟨A2, c2, rfl, ho2.mono hz, (by (repeat' (first | (with_reducible exact Below.refl _ _) | (with_reducible assumption) | (with_reducible refine Below.setCell ?_ ?_ _) | (with_reducible refine Below.al ?_ _) | (with_reducible refine Below.drew ?_) | (with_reducible refine Below.drN ?_ _) | (with_reducible refine Below.step ?_ (by assumption)) | (with_reducible refine Below.alloc ?_ ?_ _))); all_goals (simp; try omega))⟩
set_option maxHeartbeats 800000 in
theorem iRowStrides_any (A : Option Addr) (c : Nat) (xs : List Int) (w : World) (hr : Rd w w.heap.size .i64 A xs) (hl : xs.length ≤ maxLen) (hcap : xs.length ≤ c) : Calls Try.prog 33 #[.slice A xs.length c] w (RetInts w (rowR xs)) := by
  rcases hv : shapeB xs with _ | _
  · have HR := Lib.hid (show rowR xs = [] by simp [rowR, hv])
    rw [HR.out]
    go_enter Try.func33, Try.ntmps33
    go_wp2_with fail
    (refine (isShape_any _ _ _ _ _ hr hl).mono ?_; rintro e w1 ⟨rfl, rfl⟩; have hb1 := Below.refl w.heap.size w; have r1 := hr)
    rw [hv]
    go_wp2_with fail
    go_ret
    exact ⟨none, 0, rfl, Own.nil _ _, (by (repeat' (first | (with_reducible exact Below.refl _ _) | (with_reducible assumption) | (with_reducible refine Below.setCell ?_ ?_ _) | (with_reducible refine Below.al ?_ _) | (with_reducible refine Below.drew ?_) | (with_reducible refine Below.drN ?_ _) | (with_reducible refine Below.step ?_ (by assumption)) | (with_reducible refine Below.alloc ?_ ?_ _))); all_goals (simp; try omega))⟩
  · have hx := ext_shape hv
    have HR := Lib.hid (show rowR xs = rowS xs by simp [rowR, hv])
    rw [HR.out]
    go_enter Try.func33, Try.ntmps33
    go_wp2_with fail
    (refine (isShape_any _ _ _ _ _ hr hl).mono ?_; rintro e w1 ⟨rfl, rfl⟩; have hb1 := Below.refl w.heap.size w; have r1 := hr)
    rw [hv]
    go_wp2_with fail
    refine (iRowStrides_in _ _ _ _ r1 hx hcap).mono ?_; rintro e w2 ⟨A2, c2, rfl, ho2, hb2⟩
    have hz := hb1.size
    go_wp2_with fail
    go_ret
    exact ⟨A2, c2, rfl, ho2.mono hz, (by (repeat' (first | (with_reducible exact Below.refl _ _) | (with_reducible assumption) | (with_reducible refine Below.setCell ?_ ?_ _) | (with_reducible refine Below.al ?_ _) | (with_reducible refine Below.drew ?_) | (with_reducible refine Below.drN ?_ _) | (with_reducible refine Below.step ?_ (by assumption)) | (with_reducible refine Below.alloc ?_ ?_ _))); all_goals (simp; try omega))⟩
set_option maxHeartbeats 800000 in
theorem sColStrides_any (A : Option Addr) (c : Nat) (xs : List Int) (w : World) (hr : Rd w w.heap.size .i64 A xs) (hl : xs.length ≤ maxLen) (hcap : xs.length ≤ c) : Calls Try.prog 26 #[.slice A xs.length c] w (RetInts w (colR xs)) := by
  rcases hv : shapeB xs with _ | _
  · have HR := Lib.hid (show colR xs = [] by simp [colR, hv])
    rw [HR.out]
    go_enter Try.func26, Try.ntmps26
    go_wp2_with fail
    (refine (validShape_any _ _ _ _ hr hl).mono ?_; rintro e w1 ⟨rfl, hb1⟩; have r1 := hr.to hb1)
    rw [hv]
    go_wp2_with fail
    go_ret
    exact ⟨none, 0, rfl, Own.nil _ _, (by (repeat' (first | (with_reducible exact Below.refl _ _) | (with_reducible assumption) | (with_reducible refine Below.setCell ?_ ?_ _) | (with_reducible refine Below.al ?_ _) | (with_reducible refine Below.drew ?_) | (with_reducible refine Below.drN ?_ _) | (with_reducible refine Below.step ?_ (by assumption)) | (with_reducible refine Below.alloc ?_ ?_ _))); all_goals (simp; try omega))⟩
  · have hx := ext_shape hv
    have HR := Lib.hid (show colR xs = colS xs by simp [colR, hv])
    rw [HR.out]
    go_enter Try.func26, Try.ntmps26
    go_wp2_with fail
    (refine (validShape_any _ _ _ _ hr hl).mono ?_; rintro e w1 ⟨rfl, hb1⟩; have r1 := hr.to hb1)
    rw [hv]
    go_wp2_with fail
    refine (sColStrides_in _ _ _ _ r1 hx hcap).mono ?_; rintro e w2 ⟨A2, c2, rfl, ho2, hb2⟩
    have hz := hb1.size
    go_wp2_with fail
    go_ret
    exact ⟨A2, c2, rfl, ho2.mono hz, (by (repeat' (first | (with_reducible exact Below.refl _ _) | (with_reducible assumption) | (with_reducible refine Below.setCell ?_ ?_ _) | (with_reducible refine Below.al ?_ _) | (with_reducible refine Below.drew ?_) | (with_reducible refine Below.drN ?_ _) | (with_reducible refine Below.step ?_ (by assumption)) | (with_reducible refine Below.alloc ?_ ?_ _))); all_goals (simp; try omega))⟩
set_option maxHeartbeats 800000 in
theorem iColStrides_any (A : Option Addr) (c : Nat) (xs : List Int) (w : World) (hr : Rd w w.heap.size .i64 A xs) (hl : xs.length ≤ maxLen) (hcap : xs.length ≤ c) : Calls Try.prog 27 #[.slice A xs.length c] w (RetInts w (colR xs)) := by
  rcases hv : shapeB xs with _ | _
  · have HR := Lib.hid (show colR xs = [] by simp [colR, hv])
    rw [HR.out]
    go_enter Try.func27, Try.ntmps27
    go_wp2_with fail
    (refine (isShape_any _ _ _ _ _ hr hl).mono ?_; rintro e w1 ⟨rfl, rfl⟩; have hb1 := Below.refl w.heap.size w; have r1 := hr)
    rw [hv]
    go_wp2_with fail
    go_ret
    exact ⟨none, 0, rfl, Own.nil _ _, (by (repeat' (first | (with_reducible exact Below.refl _ _) | (with_reducible assumption) | (with_reducible refine Below.setCell ?_ ?_ _) | (with_reducible refine Below.al ?_ _) | (with_reducible refine Below.drew ?_) | (with_reducible refine Below.drN ?_ _) | (with_reducible refine Below.step ?_ (by assumption)) | (with_reducible refine Below.alloc ?_ ?_ _))); all_goals (simp; try omega))⟩
  · have hx := ext_shape hv
    have HR := Lib.hid (show colR xs = colS xs by simp [colR, hv])
    rw [HR.out]
    go_enter Try.func27, Try.ntmps27
    go_wp2_with fail
    (refine (isShape_any _ _ _ _ _ hr hl).mono ?_; rintro e w1 ⟨rfl, rfl⟩; have hb1 := Below.refl w.heap.size w; have r1 := hr)
    rw [hv]
    go_wp2_with fail
    refine (iColStrides_in _ _ _ _ r1 hx hcap).mono ?_; rintro e w2 ⟨A2, c2, rfl, ho2, hb2⟩
    have hz := hb1.size
    go_wp2_with fail
    go_ret
    exact ⟨A2, c2, rfl, ho2.mono hz, (by (repeat' (first | (with_reducible exact Below.refl _ _) | (with_reducible assumption) | (with_reducible refine Below.setCell ?_ ?_ _) | (with_reducible refine Below.al ?_ _) | (with_reducible refine Below.drew ?_) | (with_reducible refine Below.drN ?_ _) | (with_reducible refine Below.step ?_ (by assumption)) | (with_reducible refine Below.alloc ?_ ?_ _))); all_goals (simp; try omega))⟩

set_option maxHeartbeats 3200000 in
theorem FnExactRowStrides_walk (A : Option Addr) (c : Nat) (ys : List Int) (w : World) (hr : Rd w w.heap.size .i64 A ys) (hl : ys.length ≤ maxLen) : Calls Try.prog 8 #[.slice A ys.length c] w (Ret w (.bool true)) := by
  obtain ⟨xs, HX, hxl⟩ : ∃ xs : List Int, Hid (xs = rowR ys) ∧ xs.length ≤ 2000000000 := by
    refine ⟨_, rfl, ?_⟩
    unfold rowR
    split
    · rename_i h
      have := (ext_shape h).1
      rw [rowS_length]; omega
    · simp
  have hl2 := hl
  unfold maxLen at hl2
  by_cases hbig : 1048576 < ys.length
  · go_enter Try.func8, Try.ntmps8
    go_wp2_with fail
    go_ret
    exact ⟨rfl, (by (repeat' (first | (with_reducible exact Below.refl _ _) | (with_reducible assumption) | (with_reducible refine Below.setCell ?_ ?_ _) | (with_reducible refine Below.al ?_ _) | (with_reducible refine Below.drew ?_) | (with_reducible refine Below.drN ?_ _) | (with_reducible refine Below.step ?_ (by assumption)) | (with_reducible refine Below.alloc ?_ ?_ _))); all_goals (simp; try omega))⟩
  have HE1 := Lib.hid (show eqB xs xs = true by simp [eqB])
  have HE2 := Lib.hid (show eqB ys ys = true by simp [eqB])
  have xl2 : xs.length ≤ maxLen := by simp only [maxLen]; omega
  have al2 : ys.length ≤ maxLen := by simp only [maxLen]; omega
  have al : ys.length ≤ 2000000000 := by omega
  go_enter Try.func8, Try.ntmps8
  go_wp2_with fail
  refine (toIntS_any _ _ _ _ hr al).mono ?_; rintro e w1 ⟨A1, c1, rfl, ho1, hb1⟩
  have z1 := hb1.size
  have q1 := hr.below hb1
  have r1 := ho1.rd
  have k1 := ho1.cap_le
  go_wp2_with fail
  (refine (sRowStrides_any _ _ _ _ r1 al2 k1).mono ?_)
  rw [← HX.out]; rintro e w2 ⟨Aw, cw, rfl, how, hb2⟩
  have z2 := hb2.size
  have q2 := q1.below (hb2.mono z1)
  have v2 := how.rd
  go_wp2_with fail
  refine (toIntS_any _ _ _ _ (q2.more (by omega)) al).mono ?_; rintro e w3 ⟨A3, c3, rfl, ho3, hb3⟩
  have z3 := hb3.size
  have q3 := q2.below (hb3.mono (by omega))
  have v3 := v2.below hb3
  have r3 := ho3.rd
  have k3 := ho3.cap_le
  go_wp2_with fail
  (refine (iRowStrides_any _ _ _ _ r3 al2 k3).mono ?_)
  rw [← HX.out]; rintro e w4 ⟨A4, c4, rfl, ho4, hb4⟩
  have z4 := hb4.size
  have q4 := q3.below (hb4.mono (by omega))
  have v4 := v3.below (hb4.mono (by omega))
  have x4 := ho3.below hb4 (Nat.le_refl _)
  have hd : blk A4 = none ∨ blk A4 ≠ blk A3 := by
    rcases h : blk A4 with _ | k
    · exact .inl rfl
    · refine .inr fun e => ?_
      have := ho4.ge _ h
      have := ho3.ge _ e.symm
      omega
  go_wp2_with fail
  refine (eqIntS_any _ _ _ _ _ _ _ _ _ ho4.rd v4 xl2 xl2).mono ?_; rintro e w5 ⟨rfl, hb5⟩
  rw [HE1.out]
  have z5 := hb5.size
  have q5 := q4.below (hb5.mono (by omega))
  have v5 := v4.below (hb5.mono (by omega))
  have x5 := x4.below hb5 (Nat.le_refl _)
  have o5 := ho4.below hb5 (Nat.le_refl _)
  go_wp2_with fail
  refine (toIntS_any _ _ _ _ (q5.more (by omega)) al).mono ?_; rintro e w6 ⟨A6, c6, rfl, ho6, hb6⟩
  have z6 := hb6.size
  have q6 := q5.below (hb6.mono (by omega))
  have v6 := v5.below (hb6.mono (by omega))
  have x6 := x5.below hb6 (Nat.le_refl _)
  have o6 := o5.below hb6 (Nat.le_refl _)
  go_wp2_with fail
  refine (eqIntS_any _ _ _ _ _ _ _ _ _ x6.rd ho6.rd al2 al2).mono ?_; rintro e w7 ⟨rfl, hb7⟩
  rw [HE2.out]
  have z7 := hb7.size
  have q7 := q6.below (hb7.mono (by omega))
  have v7 := v6.below (hb7.mono (by omega))
  have x7 := x6.below hb7 (Nat.le_refl _)
  have o7 := o6.below hb7 (Nat.le_refl _)
  go_wp2_with fail
  refine (markIntS_any _ _ _ _ _ _ x7 al (by omega) (by omega)).mono ?_; rintro e w8 ⟨rfl, ho8, hg8⟩
  have z8 := hg8.size
  have hb8 : Below w2.heap.size w7 w8 := below_of_grown hg8 (by omega) (fun k hk => (x7.ge k hk).1)
  have q8 := q7.below (hb8.mono (by omega))
  have v8 := v7.below hb8
  have o8 := o7.kept hg8 hd
  go_wp2_with fail
  refine (eqIntS_any _ _ _ _ _ _ _ _ _ o8.rd v8 xl2 xl2).mono ?_; rintro e w9 ⟨rfl, hb9⟩
  rw [HE1.out]
  have z9 := hb9.size
  have q9 := q8.below (hb9.mono (by omega))
  have v9 := v8.below (hb9.mono (by omega))
  have o9 := o8.below hb9 (Nat.le_refl _)
  go_wp2_with fail
  refine (markIntS_any _ _ _ _ _ _ o9 hxl (by omega) (by omega)).mono ?_; rintro e w10 ⟨rfl, ho10, hg10⟩
  have z10 := hg10.size
  have hb10 : Below w3.heap.size w9 w10 := below_of_grown hg10 (by omega) (fun k hk => (o9.ge k hk).1)
  have q10 := q9.below (hb10.mono (by omega))
  have v10 := v9.below (hb10.mono (by omega))
  have u10 : Rd w10 w10.heap.size .i64 A4 (upF 1 xs.length) := ho10.rd
  go_wp2_with fail
  refine (heldIntS_any _ _ _ _ _ _ u10 hxl (by omega) (by omega)).mono ?_; rintro e w10' ⟨rfl, rfl⟩
  go_wp2_with fail
  refine (toIntS_any _ _ _ _ (q10.more (by omega)) al).mono ?_; rintro e w11 ⟨A11, c11, rfl, ho11, hb11⟩
  have z11 := hb11.size
  have v11 := v10.below (hb11.mono (by omega))
  have u11 := u10.to hb11
  have r3 := ho11.rd
  have k3 := ho11.cap_le
  go_wp2_with fail
  (refine (iRowStrides_any _ _ _ _ r3 al2 k3).mono ?_)
  rw [← HX.out]; rintro e w12 ⟨A12, c12, rfl, ho12, hb12⟩
  have z12 := hb12.size
  have v12 := v11.below (hb12.mono (by omega))
  have u12 := u11.to hb12
  go_wp2_with fail
  refine (eqIntS_any _ _ _ _ _ _ _ _ _ ho12.rd v12 xl2 xl2).mono ?_; rintro e w13 ⟨rfl, hb13⟩
  rw [HE1.out]
  have u13 := u12.to hb13
  go_wp2_with fail
  refine (heldIntS_any _ _ _ _ _ _ u13 hxl (by omega) (by omega)).mono ?_; rintro e w13' ⟨rfl, rfl⟩
  go_wp2_with fail
  go_ret
  exact ⟨rfl, ((((((((((((hb1.step hb2).step hb3).step hb4).step hb5).step hb6).step hb7).trans (hb8.mono (by omega))).step hb9).trans (hb10.mono (by omega))).step hb11).step hb12).step hb13)⟩
set_option maxHeartbeats 3200000 in
theorem FnExactColStrides_walk (A : Option Addr) (c : Nat) (ys : List Int) (w : World) (hr : Rd w w.heap.size .i64 A ys) (hl : ys.length ≤ maxLen) : Calls Try.prog 6 #[.slice A ys.length c] w (Ret w (.bool true)) := by
  obtain ⟨xs, HX, hxl⟩ : ∃ xs : List Int, Hid (xs = colR ys) ∧ xs.length ≤ 2000000000 := by
    refine ⟨_, rfl, ?_⟩
    unfold colR
    split
    · rename_i h
      have := (ext_shape h).1
      rw [colS_length]; omega
    · simp
  have hl2 := hl
  unfold maxLen at hl2
  by_cases hbig : 1048576 < ys.length
  · go_enter Try.func6, Try.ntmps6
    go_wp2_with fail
    go_ret
    exact ⟨rfl, (by (repeat' (first | (with_reducible exact Below.refl _ _) | (with_reducible assumption) | (with_reducible refine Below.setCell ?_ ?_ _) | (with_reducible refine Below.al ?_ _) | (with_reducible refine Below.drew ?_) | (with_reducible refine Below.drN ?_ _) | (with_reducible refine Below.step ?_ (by assumption)) | (with_reducible refine Below.alloc ?_ ?_ _))); all_goals (simp; try omega))⟩
  have HE1 := Lib.hid (show eqB xs xs = true by simp [eqB])
  have HE2 := Lib.hid (show eqB ys ys = true by simp [eqB])
  have xl2 : xs.length ≤ maxLen := by simp only [maxLen]; omega
  have al2 : ys.length ≤ maxLen := by simp only [maxLen]; omega
  have al : ys.length ≤ 2000000000 := by omega
  go_enter Try.func6, Try.ntmps6
  go_wp2_with fail
  refine (toIntS_any _ _ _ _ hr al).mono ?_; rintro e w1 ⟨A1, c1, rfl, ho1, hb1⟩
  have z1 := hb1.size
  have q1 := hr.below hb1
  have r1 := ho1.rd
  have k1 := ho1.cap_le
  go_wp2_with fail
  (refine (sColStrides_any _ _ _ _ r1 al2 k1).mono ?_)
  rw [← HX.out]; rintro e w2 ⟨Aw, cw, rfl, how, hb2⟩
  have z2 := hb2.size
  have q2 := q1.below (hb2.mono z1)
  have v2 := how.rd
  go_wp2_with fail
  refine (toIntS_any _ _ _ _ (q2.more (by omega)) al).mono ?_; rintro e w3 ⟨A3, c3, rfl, ho3, hb3⟩
  have z3 := hb3.size
  have q3 := q2.below (hb3.mono (by omega))
  have v3 := v2.below hb3
  have r3 := ho3.rd
  have k3 := ho3.cap_le
  go_wp2_with fail
  (refine (iColStrides_any _ _ _ _ r3 al2 k3).mono ?_)
  rw [← HX.out]; rintro e w4 ⟨A4, c4, rfl, ho4, hb4⟩
  have z4 := hb4.size
  have q4 := q3.below (hb4.mono (by omega))
  have v4 := v3.below (hb4.mono (by omega))
  have x4 := ho3.below hb4 (Nat.le_refl _)
  have hd : blk A4 = none ∨ blk A4 ≠ blk A3 := by
    rcases h : blk A4 with _ | k
    · exact .inl rfl
    · refine .inr fun e => ?_
      have := ho4.ge _ h
      have := ho3.ge _ e.symm
      omega
  go_wp2_with fail
  refine (eqIntS_any _ _ _ _ _ _ _ _ _ ho4.rd v4 xl2 xl2).mono ?_; rintro e w5 ⟨rfl, hb5⟩
  rw [HE1.out]
  have z5 := hb5.size
  have q5 := q4.below (hb5.mono (by omega))
  have v5 := v4.below (hb5.mono (by omega))
  have x5 := x4.below hb5 (Nat.le_refl _)
  have o5 := ho4.below hb5 (Nat.le_refl _)
  go_wp2_with fail
  refine (toIntS_any _ _ _ _ (q5.more (by omega)) al).mono ?_; rintro e w6 ⟨A6, c6, rfl, ho6, hb6⟩
  have z6 := hb6.size
  have q6 := q5.below (hb6.mono (by omega))
  have v6 := v5.below (hb6.mono (by omega))
  have x6 := x5.below hb6 (Nat.le_refl _)
  have o6 := o5.below hb6 (Nat.le_refl _)
  go_wp2_with fail
  refine (eqIntS_any _ _ _ _ _ _ _ _ _ x6.rd ho6.rd al2 al2).mono ?_; rintro e w7 ⟨rfl, hb7⟩
  rw [HE2.out]
  have z7 := hb7.size
  have q7 := q6.below (hb7.mono (by omega))
  have v7 := v6.below (hb7.mono (by omega))
  have x7 := x6.below hb7 (Nat.le_refl _)
  have o7 := o6.below hb7 (Nat.le_refl _)
  go_wp2_with fail
  refine (markIntS_any _ _ _ _ _ _ x7 al (by omega) (by omega)).mono ?_; rintro e w8 ⟨rfl, ho8, hg8⟩
  have z8 := hg8.size
  have hb8 : Below w2.heap.size w7 w8 := below_of_grown hg8 (by omega) (fun k hk => (x7.ge k hk).1)
  have q8 := q7.below (hb8.mono (by omega))
  have v8 := v7.below hb8
  have o8 := o7.kept hg8 hd
  go_wp2_with fail
  refine (eqIntS_any _ _ _ _ _ _ _ _ _ o8.rd v8 xl2 xl2).mono ?_; rintro e w9 ⟨rfl, hb9⟩
  rw [HE1.out]
  have z9 := hb9.size
  have q9 := q8.below (hb9.mono (by omega))
  have v9 := v8.below (hb9.mono (by omega))
  have o9 := o8.below hb9 (Nat.le_refl _)
  go_wp2_with fail
  refine (markIntS_any _ _ _ _ _ _ o9 hxl (by omega) (by omega)).mono ?_; rintro e w10 ⟨rfl, ho10, hg10⟩
  have z10 := hg10.size
  have hb10 : Below w3.heap.size w9 w10 := below_of_grown hg10 (by omega) (fun k hk => (o9.ge k hk).1)
  have q10 := q9.below (hb10.mono (by omega))
  have v10 := v9.below (hb10.mono (by omega))
  have u10 : Rd w10 w10.heap.size .i64 A4 (upF 1 xs.length) := ho10.rd
  go_wp2_with fail
  refine (heldIntS_any _ _ _ _ _ _ u10 hxl (by omega) (by omega)).mono ?_; rintro e w10' ⟨rfl, rfl⟩
  go_wp2_with fail
  refine (toIntS_any _ _ _ _ (q10.more (by omega)) al).mono ?_; rintro e w11 ⟨A11, c11, rfl, ho11, hb11⟩
  have z11 := hb11.size
  have v11 := v10.below (hb11.mono (by omega))
  have u11 := u10.to hb11
  have r3 := ho11.rd
  have k3 := ho11.cap_le
  go_wp2_with fail
  (refine (iColStrides_any _ _ _ _ r3 al2 k3).mono ?_)
  rw [← HX.out]; rintro e w12 ⟨A12, c12, rfl, ho12, hb12⟩
  have z12 := hb12.size
  have v12 := v11.below (hb12.mono (by omega))
  have u12 := u11.to hb12
  go_wp2_with fail
  refine (eqIntS_any _ _ _ _ _ _ _ _ _ ho12.rd v12 xl2 xl2).mono ?_; rintro e w13 ⟨rfl, hb13⟩
  rw [HE1.out]
  have u13 := u12.to hb13
  go_wp2_with fail
  refine (heldIntS_any _ _ _ _ _ _ u13 hxl (by omega) (by omega)).mono ?_; rintro e w13' ⟨rfl, rfl⟩
  go_wp2_with fail
  go_ret
  exact ⟨rfl, ((((((((((((hb1.step hb2).step hb3).step hb4).step hb5).step hb6).step hb7).trans (hb8.mono (by omega))).step hb9).trans (hb10.mono (by omega))).step hb11).step hb12).step hb13)⟩
end Go.Proofs.Ytnfoofoeimaodaa
