/- The walk of the law over row strides. -/
import Derived.Test.YtdhhdkncglhgfaaLawCA
import Derived.Test.YtdhhdkncglhgfaaLawK
set_option linter.unusedVariables false
namespace Go.Proofs.Ytdhhdkncglhgfaa
open Go.RowKit

theorem row_all {xs : List Int} (h : (rowR xs).length ≠ 0) : shapeB xs = true ∧ (rowR xs).length = xs.length ∧ (∀ j, j < xs.length → 0 ≤ (rowR xs).getD j 0 ∧ (rowR xs).getD j 0 ≤ 12960000 ∧ 0 ≤ xs.getD j 0 ∧ xs.getD j 0 ≤ 60) ∧
    (∀ j, j + 1 < xs.length → (rowR xs).getD j 0 = (rowR xs).getD (j + 1) 0 * xs.getD (j + 1) 0) ∧ (rowR xs).getD (xs.length - 1) 0 = 1 := by
  rcases hv : shapeB xs with _ | _
  · exfalso; apply h; rw [rowR, hv]; rfl
  · have e : rowR xs = rowS xs := by rw [rowR, if_pos hv]
    have hx := ext_shape hv
    rw [e] at h ⊢
    have hl := rowS_length xs
    refine ⟨rfl, hl, fun j hj => ?_, fun j hj => ?_, ?_⟩
    · rw [rowS_get _ _ hj]
      have h1 := (hx.drop (j + 1)).prod
      have h2 := hx.2 j hj
      exact ⟨h1.1, h1.2, h2.1, h2.2⟩
    · rw [rowS_get _ _ (by omega), rowS_get _ _ hj, prod_drop xs (j + 1) hj]
    · rw [rowS_get _ _ (by omega), List.drop_of_length_le (by omega)]; rfl

set_option maxHeartbeats 3200000 in
theorem FnRowStrides_walk (A : Option Addr) (n : Nat) (bs : List Int) (w : World) (hr : Rd w w.heap.size .u8 A bs) (hl : bs.length ≤ maxLen) (hn : bs.length ≤ n) (hb : ∀ x ∈ bs, 0 ≤ x ∧ x ≤ 255) :
    Calls Try.prog 10 #[.slice A bs.length n] w (Ret w (.bool true)) := by
  by_cases hbig : bs.length > 1048576
  · go_enter Try.func10, Try.ntmps10
    go_wp2_with fail
    go_ret
    exact ⟨rfl, (by (repeat' (first | (with_reducible exact Below.refl _ _) | (with_reducible assumption) | (with_reducible refine Below.setCell ?_ ?_ _) | (with_reducible refine Below.al ?_ _) | (with_reducible refine Below.drew ?_) | (with_reducible refine Below.drN ?_ _) | (with_reducible refine Below.step ?_ (by assumption)) | (with_reducible refine Below.alloc ?_ ?_ _))); all_goals (simp; try omega))⟩
  go_enter Try.func10, Try.ntmps10
  go_wp2_with fail
  refine (DrawRowStrides_any A n bs _ hr hl hn hb).mono ?_; rintro e w1 ⟨A1, c1, xs, rfl, hx1, hxc, hx2, r1, hb1⟩
  clear hr hb
  have hxm : xs.length ≤ maxLen := by simp only [maxLen]; omega
  obtain ⟨ys, Y0, hy0⟩ : ∃ ys, Hid (rowR xs = ys) ∧ ys.length ≤ maxLen := by
    refine ⟨_, rfl, ?_⟩
    unfold rowR
    split
    · rw [rowS_length]; exact hxm
    · simp
  have HE := Lib.hid (show eqB ys ys = true by simp [eqB])
  go_wp2_with fail
  refine (iRowStrides_any _ _ _ _ r1 hxm hxc).mono ?_; rw [Y0.out]; rintro e w2 ⟨A2, c2, rfl, ho2, hb2⟩
  have r2 := r1.to hb2
  have y2 := ho2.rd
  go_wp2_with fail
  refine (sRowStrides_any _ _ _ _ r2 hxm hxc).mono ?_; rw [Y0.out]; rintro e w3 ⟨A3, c3, rfl, ho3, hb3⟩
  have r3 := r2.to hb3
  have y3 := y2.to hb3
  go_wp2_with fail
  refine (equalInts_any _ _ _ _ _ _ _ _ _ y3 ho3.rd hy0 hy0).mono ?_; rw [HE.out]; rintro e w4 ⟨rfl, hb4⟩
  have r4 := r3.to hb4
  have y4 := y3.to hb4
  have hbx : Below w.heap.size w w4 := (by (repeat' (first | (with_reducible exact Below.refl _ _) | (with_reducible assumption) | (with_reducible refine Below.setCell ?_ ?_ _) | (with_reducible refine Below.al ?_ _) | (with_reducible refine Below.drew ?_) | (with_reducible refine Below.drN ?_ _) | (with_reducible refine Below.step ?_ (by assumption)) | (with_reducible refine Below.alloc ?_ ?_ _))); all_goals (simp; try omega))
  by_cases h0 : ys.length = 0
  · have e0 : ys = [] := List.length_eq_zero_iff.1 h0
    subst e0
    clear h0
    go_wp2_with fail
    refine (sRowStrides_any _ _ _ _ r4 hxm hxc).mono ?_; rw [Y0.out]; rintro e w6 ⟨A6, c6, rfl, ho6, hb6⟩
    have y6 := y4.to hb6
    go_wp2_with fail
    refine (equalInts_any A2 A6 c2 c6 _ _ [] [] _ y6 ho6.rd hy0 hy0).mono ?_; rw [HE.out]; rintro e w7 ⟨rfl, hb7⟩
    go_wp2_with fail
    go_ret
    exact ⟨rfl, (hbx.step hb6).step hb7⟩
  · obtain ⟨_, hlen, q1, q2, q3⟩ := row_all (xs := xs) (by rw [Y0.out]; exact h0)
    rw [Y0.out] at hlen q1 q2 q3
    have HL := Lib.hid hlen
    have Q1 := Lib.hid q1
    have Q2 := Lib.hid q2
    have Q3 := Lib.hid q3
    have h00 : ¬ ((ys.length : Int) = 0) := by omega
    clear hlen q1 q2 q3 h0 hb1 hb2 hb3 hb4 r1 r2 r3 y2 y3 ho2 ho3
    go_wp2_with fail
    go_loopw [5] (fun i wr => ∃ k : Nat, k < xs.length ∧ i = .int .i64 k ∧ ∃ q, wr = w4.drewN q) (fun i _ => xs.length - (intOf i).toNat)
    case atStart => exact ⟨0, by have := HL.out; omega, rfl, 0, rfl⟩
    case round =>
      obtain ⟨k, hk, rfl, q, rfl⟩ := hrel
      have hLo := HL.out
      by_cases hlt : k + 1 < xs.length
      · obtain ⟨ad, y, rfl, _, hcell, HY⟩ := y4.get (j := k) (by omega)
        obtain ⟨ad1, y1, e, _, hcell1, HY1⟩ := y4.get (j := k + 1) (by omega)
        cases e
        obtain ⟨ae, z, rfl, _, hcellz, HZ⟩ := r4.get (j := k + 1) (by omega)
        have e1 := Q2.out k hlt
        obtain ⟨s1, s2, _, _⟩ := Q1.out (k + 1) hlt
        obtain ⟨_, _, s3, s4⟩ := Q1.out (k + 1) hlt
        rw [← HY.out, ← HY1.out, ← HZ.out] at e1
        rw [← HY1.out] at s1 s2
        rw [← HZ.out] at s3 s4
        have s5 : 0 ≤ y1 * z := Int.mul_nonneg s1 s3
        have s6 : y1 * z ≤ 12960000 * 60 := Int.mul_le_mul s2 s4 s3 (by omega)
        have u1 := IntWalk.i64_in (y1 * z) (by omega)
        have u2 := IntWalk.i64_in ((k : Int) + 1) (by omega)
        subst e1
        have hlt' : (k : Int) + 1 < (xs.length : Int) := by omega
        have hlt2 : (k : Int) + 1 < (ys.length : Int) := by omega
        have hlt3 : (k : Int) < (ys.length : Int) := by omega
        have hp1 : (0 : Int) ≤ (k : Int) + 1 := by omega
        rw [addLit] at hcell1 hcellz
        clear hLo
        go_wp2_with fail
        go_quiet (fail)
        go_wp2_with fail
        go_roundw
        case rel => exact ⟨k + 1, hlt, by go_num, _, rfl⟩
        case measure => simp [intOf]; omega
      · have hkk : k = xs.length - 1 := by omega
        have hge : ¬ ((k : Int) + 1 < (xs.length : Int)) := by omega
        have u2 := IntWalk.i64_in ((k : Int) + 1) (by omega)
        obtain ⟨ad, y, rfl, _, hcell, HY⟩ := y4.get (j := k) (by omega)
        have e1 := Q3.out
        rw [← hkk, ← HY.out] at e1
        subst e1
        obtain ⟨m, hm⟩ : ∃ m, m = ys.length := ⟨_, rfl⟩
        have e2 : (ys.length : Int) - 1 = (k : Int) := by omega
        have hlt3 : (k : Int) < (ys.length : Int) := by omega
        clear hLo hkk hm
        go_wp2_with fail
        go_ret
        exact ⟨rfl, hbx.drN _⟩
end Go.Proofs.Ytdhhdkncglhgfaa
