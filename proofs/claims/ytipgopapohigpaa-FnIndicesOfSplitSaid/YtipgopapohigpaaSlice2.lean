/- The walks over slices of a range, further: the ends of a slice, the indices that it takes, what a list has at indices. -/
import Derived.Test.YtipgopapohigpaaSlice1
import Derived.Test.YtipgopapohigpaaFunc
set_option linter.unusedVariables false
namespace Go.Proofs.Ytipgopapohigpaa
open Go.RowKit

def clampV (n x b : Int) : Int := if b < 0 then (if x < -1 then -1 else if n - 1 < x then n - 1 else x) else (if x < 0 then 0 else if n < x then n else x)
def endV (n e b : Int) : Int := if e < 0 then clampV n (e + n) b else clampV n e b
def fromV (n f b : Int) (hf : Bool) : Int := if hf = true then endV n f b else if b < 0 then n - 1 else 0
def toV (n t b : Int) (ht : Bool) : Int := if ht = true then endV n t b else if b < 0 then -1 else n
/-- The indices that a slice takes of n things. -/
def idx (n f t b : Int) (hf ht : Bool) : List Int := nums (fromV n f b hf) (toV n t b ht) b

theorem endV_up (n e b : Int) (hn : 0 ≤ n) (hb : ¬ b < 0) : 0 ≤ endV n e b ∧ endV n e b ≤ n := by
  unfold endV clampV; (repeat' split) <;> omega
theorem endV_down (n e b : Int) (hn : 0 ≤ n) (hb : b < 0) : -1 ≤ endV n e b ∧ endV n e b ≤ n - 1 := by
  unfold endV clampV; (repeat' split) <;> omega
theorem ends_up (n f t b : Int) (hf ht : Bool) (hn : 0 ≤ n) (hb : ¬ b < 0) : 0 ≤ fromV n f b hf ∧ fromV n f b hf ≤ n ∧ 0 ≤ toV n t b ht ∧ toV n t b ht ≤ n := by
  have h1 := endV_up n f b hn hb
  have h2 := endV_up n t b hn hb
  unfold fromV toV
  cases hf <;> cases ht <;> simp [hb] <;> omega
theorem ends_down (n f t b : Int) (hf ht : Bool) (hn : 0 ≤ n) (hb : b < 0) : -1 ≤ fromV n f b hf ∧ fromV n f b hf ≤ n - 1 ∧ -1 ≤ toV n t b ht ∧ toV n t b ht ≤ n - 1 ∨ (n = 0 ∧ fromV n f b hf = -1 ∧ toV n t b ht = -1) := by
  have h1 := endV_down n f b hn hb
  have h2 := endV_down n t b hn hb
  unfold fromV toV
  cases hf <;> cases ht <;> simp [hb] <;> omega
theorem idx_small (n f t b : Int) (hf ht : Bool) (hn : 0 ≤ n) (hn' : n ≤ 900) (h1 : -200 ≤ b) (h2 : b ≤ 200) (h3 : b ≠ 0) : Small (fromV n f b hf) (toV n t b ht) b := by
  by_cases hb : b < 0
  · have := ends_down n f t b hf ht hn hb; unfold Small; omega
  · have := ends_up n f t b hf ht hn hb; unfold Small; omega
/-- What a slice takes of n things is there. -/
theorem idx_in (n f t b : Int) (hf ht : Bool) (hn : 0 ≤ n) (h3 : b ≠ 0) (j : Nat) (hj : j < (idx n f t b hf ht).length) : 0 ≤ (idx n f t b hf ht).getD j 0 ∧ (idx n f t b hf ht).getD j 0 < n := by
  unfold idx at hj ⊢
  rw [nums_get _ _ _ _ hj]
  rw [nums_length] at hj
  by_cases hb : b < 0
  · have h1 := ends_down n f t b hf ht hn hb
    have h2 := (down_lt (fromV n f b hf) (toV n t b ht) b j hb).2 hj
    have h0 : (j : Int) * b ≤ 0 := by have := Int.mul_le_mul_of_nonneg_left (show b ≤ 0 by omega) (show (0 : Int) ≤ (j : Int) by omega); omega
    omega
  · have h1 := ends_up n f t b hf ht hn hb
    have h2 := (up_lt (fromV n f b hf) (toV n t b ht) b j (by omega)).2 hj
    have h0 : 0 ≤ (j : Int) * b := Int.mul_nonneg (by omega) (by omega)
    omega
theorem idx_len (n f t b : Int) (hf ht : Bool) (hn : 0 ≤ n) (h3 : b ≠ 0) : ((idx n f t b hf ht).length : Int) ≤ n := by
  rcases Nat.eq_zero_or_pos (idx n f t b hf ht).length with h | h
  · omega
  · obtain ⟨j, hj⟩ : ∃ j, (idx n f t b hf ht).length = j + 1 := ⟨_, (Nat.succ_pred_eq_of_pos h).symm⟩
    rw [hj]
    have hc : cnt (fromV n f b hf) (toV n t b ht) b = j + 1 := by rw [← nums_length]; exact hj
    by_cases hb : b < 0
    · have h1 := ends_down n f t b hf ht hn hb
      have h2 := (down_lt (fromV n f b hf) (toV n t b ht) b j hb).2 (by omega)
      have h0 : (j : Int) * b ≤ -(j : Int) := by have := Int.mul_le_mul_of_nonneg_left (show b ≤ -1 by omega) (show (0 : Int) ≤ (j : Int) by omega); omega
      omega
    · have h1 := ends_up n f t b hf ht hn hb
      have h2 := (up_lt (fromV n f b hf) (toV n t b ht) b j (by omega)).2 (by omega)
      have h0 : (j : Int) ≤ (j : Int) * b := by have := Int.mul_le_mul_of_nonneg_left (show (1 : Int) ≤ b by omega) (show (0 : Int) ≤ (j : Int) by omega); omega
      omega

set_option maxHeartbeats 400000 in
theorem areCells_any (n : Int) (w : World) : Calls Try.prog 74 #[.int .i64 n] w (Ret w (.bool (inB n 0 60))) := by
  go_enter Try.func74, Try.ntmps74
  go_wp2
  all_goals (go_ret; exact ⟨ret_bool (by go_light; rw [Bool.eq_iff_iff]; simp [inB]; first | omega | (intros; omega)), (by (repeat' (first | (with_reducible exact Below.refl _ _) | (with_reducible assumption) | (with_reducible refine Below.setCell ?_ ?_ _) | (with_reducible refine Below.al ?_ _) | (with_reducible refine Below.drew ?_) | (with_reducible refine Below.drN ?_ _) | (with_reducible refine Below.step ?_ (by assumption)) | (with_reducible refine Below.alloc ?_ ?_ _))); all_goals (simp; try omega))⟩)

set_option maxHeartbeats 800000 in
theorem endOf_any (n e b : Int) (w : World) (h1 : 0 ≤ n) (h2 : n ≤ 1000) (h3 : -1000 ≤ e) (h4 : e ≤ 1000) : Calls Try.prog 76 #[.int .i64 n, .int .i64 e, .int .i64 b] w fun e' w' => e' = .returned (.int .i64 (endV n e b)) ∧ w = w' := by
  go_enter Try.func76, Try.ntmps76
  go_wp2
  all_goals (go_ret; exact ⟨ret_int (by go_light; unfold endV clampV; (repeat' split) <;> omega), rfl⟩)
set_option maxHeartbeats 800000 in
theorem bound_any (n e b : Int) (w : World) (h1 : 0 ≤ n) (h2 : n ≤ 1000) (h3 : -1000 ≤ e) (h4 : e ≤ 1000) : Calls Try.prog 77 #[.int .i64 n, .int .i64 e, .int .i64 b] w fun e' w' => e' = .returned (.int .i64 (endV n e b)) ∧ w = w' := by
  go_enter Try.func77, Try.ntmps77
  go_wp2
  all_goals (go_ret; exact ⟨ret_int (by go_light; unfold endV clampV; (repeat' split) <;> omega), rfl⟩)

theorem getB (p : Prop) [Decidable p] (h : p) : decide p = true := decide_eq_true h

set_option maxHeartbeats 4000000 in
theorem indicesOf_any (n f t b : Int) (hf ht : Bool) (w : World) (hn : 0 ≤ n) (hn' : n ≤ 900) (hv : sliceB f t b hf ht = true) : Calls Try.prog 64 #[.int .i64 n, .agg #[.int .i64 f, .int .i64 t, .int .i64 b, .bool hf, .bool ht]] w (RetInts w (idx n f t b hf ht)) := by
  obtain ⟨v1, v2, v3, v4, v5, v6, v7⟩ : -100 ≤ f ∧ f ≤ 100 ∧ -100 ≤ t ∧ t ≤ 100 ∧ -200 ≤ b ∧ b ≤ 200 ∧ b ≠ 0 := by simp [sliceB] at hv; omega
  have hsm := idx_small n f t b hf ht hn hn' v5 v6 v7
  have HI := Lib.hid (show idx n f t b hf ht = nums (fromV n f b hf) (toV n t b ht) b from rfl)
  rw [HI.out]
  clear hv v7
  by_cases hb : b < 0
  all_goals
    cases hf <;> cases ht
    all_goals
      simp only [fromV, toV, hb, if_true, if_false, Bool.false_eq_true] at hsm ⊢
      go_enter Try.func64, Try.ntmps64
      go_wp2_with (first
        | (go_at_call 76; refine (endOf_any _ _ _ _ hn (by omega) (by omega) (by omega)).mono ?_; rintro e w' ⟨rfl, rfl⟩)
        | (go_at_call 58; refine (numbersOf_any _ _ _ hsm _).mono ?_; rintro e w2 ⟨A, c', rfl, hown, hb2⟩))
      go_ret
      have hz := hb2.size
      exact ⟨A, c', rfl, hown.mono (by simp; try omega), (by (repeat' (first | (with_reducible exact Below.refl _ _) | (with_reducible assumption) | (with_reducible refine Below.setCell ?_ ?_ _) | (with_reducible refine Below.al ?_ _) | (with_reducible refine Below.drew ?_) | (with_reducible refine Below.drN ?_ _) | (with_reducible refine Below.step ?_ (by assumption)) | (with_reducible refine Below.alloc ?_ ?_ _))); all_goals (simp; try omega))⟩
set_option maxHeartbeats 4000000 in
theorem indices_any (n f t b : Int) (hf ht : Bool) (w : World) (hn : 0 ≤ n) (hn' : n ≤ 900) (hv : sliceB f t b hf ht = true) : Calls Try.prog 75 #[.int .i64 n, .agg #[.int .i64 f, .int .i64 t, .int .i64 b, .bool hf, .bool ht]] w (RetInts w (idx n f t b hf ht)) := by
  obtain ⟨v1, v2, v3, v4, v5, v6, v7⟩ : -100 ≤ f ∧ f ≤ 100 ∧ -100 ≤ t ∧ t ≤ 100 ∧ -200 ≤ b ∧ b ≤ 200 ∧ b ≠ 0 := by simp [sliceB] at hv; omega
  have hsm := idx_small n f t b hf ht hn hn' v5 v6 v7
  have HI := Lib.hid (show idx n f t b hf ht = nums (fromV n f b hf) (toV n t b ht) b from rfl)
  rw [HI.out]
  clear hv v7
  by_cases hb : b < 0
  all_goals
    cases hf <;> cases ht
    all_goals
      simp only [fromV, toV, hb, if_true, if_false, Bool.false_eq_true] at hsm ⊢
      go_enter Try.func75, Try.ntmps75
      go_wp2_with (first
        | (go_at_call 77; refine (bound_any _ _ _ _ hn (by omega) (by omega) (by omega)).mono ?_; rintro e w' ⟨rfl, rfl⟩)
        | (go_at_call 61; refine (numbers_any _ _ _ hsm _).mono ?_; rintro e w2 ⟨A, c', rfl, hown, hb2⟩))
      go_ret
      have hz := hb2.size
      exact ⟨A, c', rfl, hown.mono (by simp; try omega), (by (repeat' (first | (with_reducible exact Below.refl _ _) | (with_reducible assumption) | (with_reducible refine Below.setCell ?_ ?_ _) | (with_reducible refine Below.al ?_ _) | (with_reducible refine Below.drew ?_) | (with_reducible refine Below.drN ?_ _) | (with_reducible refine Below.step ?_ (by assumption)) | (with_reducible refine Below.alloc ?_ ?_ _))); all_goals (simp; try omega))⟩
end Go.Proofs.Ytipgopapohigpaa
