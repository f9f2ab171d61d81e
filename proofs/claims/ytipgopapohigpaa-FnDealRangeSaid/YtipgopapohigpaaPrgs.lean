/- Plain facts on progressions: the normal form of one, one in reverse, places, sums. No program is in sight. -/
import Derived.Test.YtipgopapohigpaaRange3
import Derived.Test.YtipgopapohigpaaRev
set_option linter.unusedVariables false
namespace Go.Proofs.Ytipgopapohigpaa
open Go.RowKit (Hid)

theorem prg_ext (s d : Int) (n : Nat) (xs : List Int) (hl : xs.length = n) (h : ∀ j, j < n → xs.getD j 0 = s + (j : Int) * d) : xs = prg s d n := by
  refine getD_ext' _ _ (by rw [hl, prg_length]) fun j hj => ?_
  rw [h j (by omega), prg_get s d n j (by omega)]
theorem prg_rev (s d : Int) (n : Nat) : (prg s d n).reverse = prg (s + ((n : Int) - 1) * d) (-d) n := by
  refine prg_ext _ _ _ _ (by rw [List.length_reverse, prg_length]) fun j hj => ?_
  rw [rev_get _ _ (by rw [prg_length]; exact hj), prg_length, prg_get s d n _ (by omega)]
  have e : ((n - 1 - j : Nat) : Int) = (n : Int) - 1 - (j : Int) := by omega
  rw [e, Int.sub_mul, Int.mul_neg]
  omega
theorem prg_zero_len (s d : Int) : nrmA (prg s d 0) = 0 ∧ nrmB (prg s d 0) = 0 ∧ nrmC (prg s d 0) = 1 := by simp [nrmA, nrmB, nrmC, prg]
theorem prg_one_len (s d : Int) : nrmA (prg s d 1) = s ∧ nrmB (prg s d 1) = s + 1 ∧ nrmC (prg s d 1) = 1 := by simp [nrmA, nrmB, nrmC, prg]
theorem prg_two_len (s d : Int) (n : Nat) : nrmA (prg s d (n + 2)) = s ∧ nrmB (prg s d (n + 2)) = (if d < 0 then s + ((n : Int) + 1) * d - 1 else s + ((n : Int) + 1) * d + 1) ∧ nrmC (prg s d (n + 2)) = d := by
  have h0 := prg_get s d (n + 2) 0 (by omega)
  have h1 := prg_get s d (n + 2) 1 (by omega)
  have h2 := prg_get s d (n + 2) (n + 1) (by omega)
  have hl := prg_length s d (n + 2)
  have e2 : ((n + 1 : Nat) : Int) = (n : Int) + 1 := by omega
  rw [e2] at h2
  have a : nrmA (prg s d (n + 2)) = s := by rw [nrmA, if_neg (by omega), h0]; simp
  have c : (prg s d (n + 2)).getD 1 0 - (prg s d (n + 2)).getD 0 0 = d := by rw [h0, h1]; simp; omega
  refine ⟨a, ?_, ?_⟩
  · rw [nrmB, if_neg (by omega), if_neg (by omega), c, hl, show n + 2 - 1 = n + 1 by omega, h2]
  · rw [nrmC, if_neg (by omega), c]
theorem cnt_up (s d : Int) (n : Nat) (hd : 0 < d) : cnt s (s + ((n : Int) + 1) * d + 1) d = n + 2 := by
  unfold cnt
  rw [if_pos hd]
  have e : s + ((n : Int) + 1) * d + 1 - s + d - 1 = ((n : Int) + 2) * d := by
    rw [Int.add_mul, Int.add_mul]; omega
  rw [e, Int.mul_ediv_cancel _ (by omega)]
  omega
theorem cnt_down (s d : Int) (n : Nat) (hd : d < 0) : cnt s (s + ((n : Int) + 1) * d - 1) d = n + 2 := by
  unfold cnt
  rw [if_neg (by omega)]
  have e : s - (s + ((n : Int) + 1) * d - 1) - d - 1 = ((n : Int) + 2) * (-d) := by
    rw [Int.add_mul, Int.add_mul, Int.mul_neg]; omega
  rw [e, Int.mul_ediv_cancel _ (by omega)]
  omega
/-- The normal form of a progression has its numbers. -/
theorem nums_nrm (s d : Int) (n : Nat) (hd : d ≠ 0) : nums (nrmA (prg s d n)) (nrmB (prg s d n)) (nrmC (prg s d n)) = prg s d n := by
  match n with
  | 0 =>
    obtain ⟨e1, e2, e3⟩ := prg_zero_len s d
    rw [e1, e2, e3]; rfl
  | 1 =>
    obtain ⟨e1, e2, e3⟩ := prg_one_len s d
    rw [e1, e2, e3]
    have : cnt s (s + 1) 1 = 1 := by unfold cnt; rw [if_pos (by omega)]; omega
    rw [nums, this]
    simp [prg]
  | n + 2 =>
    obtain ⟨e1, e2, e3⟩ := prg_two_len s d n
    rw [e1, e2, e3]
    by_cases h : d < 0
    · rw [if_pos h, nums, cnt_down s d n h]
    · rw [if_neg h, nums, cnt_up s d n (by omega)]
theorem nums_prg (a b c : Int) : nums a b c = prg a c (cnt a b c) := rfl
theorem ne_zero {a b c : Int} (h : rangeB a b c = true) : c ≠ 0 := (small_of h).2.2.2.2.2.2
theorem range_get {a b c : Int} (h : rangeB a b c = true) : -100 ≤ a ∧ a ≤ 100 ∧ -101 ≤ b ∧ b ≤ 101 ∧ -200 ≤ c ∧ c ≤ 200 ∧ c ≠ 0 := by simpa [rangeB] using h
/-- The numbers of a valid range lie between its ends. -/
theorem num_in {a b c : Int} (h : rangeB a b c = true) (j : Nat) (hj : j < cnt a b c) : -100 ≤ a + (j : Int) * c ∧ a + (j : Int) * c ≤ 100 := by
  obtain ⟨h1, h2, h3, h4, h5, h6, h7⟩ := range_get h
  rcases (show 0 < c ∨ c < 0 by omega) with hc | hc
  · have := (up_lt a b c j hc).2 hj
    have h0 : 0 ≤ (j : Int) * c := Int.mul_nonneg (by omega) (by omega)
    omega
  · have := (down_lt a b c j hc).2 hj
    have h0 : (j : Int) * c ≤ 0 := by have := Int.mul_le_mul_of_nonneg_left (show c ≤ 0 by omega) (show (0 : Int) ≤ (j : Int) by omega); omega
    omega
/-- The normal form of a progression between -100 and 100 is a valid range. -/
theorem range_nrm (s d : Int) (n : Nat) (hd : d ≠ 0) (h1 : -200 ≤ d) (h2 : d ≤ 200) (h : ∀ j, j < n → -100 ≤ s + (j : Int) * d ∧ s + (j : Int) * d ≤ 100) : rangeB (nrmA (prg s d n)) (nrmB (prg s d n)) (nrmC (prg s d n)) = true := by
  match n with
  | 0 =>
    obtain ⟨e1, e2, e3⟩ := prg_zero_len s d
    rw [e1, e2, e3]; rfl
  | 1 =>
    obtain ⟨e1, e2, e3⟩ := prg_one_len s d
    rw [e1, e2, e3]
    have := h 0 (by omega)
    simp at this
    simp [rangeB]; omega
  | n + 2 =>
    obtain ⟨e1, e2, e3⟩ := prg_two_len s d n
    rw [e1, e2, e3]
    have g0 := h 0 (by omega)
    have g1 := h (n + 1) (by omega)
    rw [show ((n + 1 : Nat) : Int) = (n : Int) + 1 by omega] at g1
    simp only [Int.natCast_zero, Int.zero_mul, Int.add_zero] at g0
    simp only [rangeB, decide_eq_true_eq]
    generalize ((n : Int) + 1) * d = t at g1 ⊢
    split <;> omega
theorem rv_at {s d : Int} {n : Nat} (P : Int → Prop) (h : ∀ j, j < n → P (s + (j : Int) * d)) : ∀ j, j < n → P (s + ((n : Int) - 1) * d + (j : Int) * (-d)) := by
  intro j hj
  have e : s + ((n : Int) - 1) * d + (j : Int) * (-d) = s + ((n - 1 - j : Nat) : Int) * d := by
    rw [show ((n - 1 - j : Nat) : Int) = (n : Int) - 1 - (j : Int) by omega]
    simp only [Int.sub_mul, Int.mul_neg, Int.one_mul]
    omega
  rw [e]
  exact h _ (by omega)

/-- The sum of a progression, twice. -/
theorem total_prg (s d : Int) (n : Nat) : 2 * total (prg s d n) = (n : Int) * (2 * s + ((n : Int) - 1) * d) := by
  induction n with
  | zero => simp [prg, total]
  | succ n ih =>
    rw [prg_succ, total_snoc, Int.mul_add, ih]
    rw [show ((n + 1 : Nat) : Int) = (n : Int) + 1 by omega]
    simp only [Int.mul_add, Int.add_mul, Int.sub_mul, Int.mul_sub, Int.one_mul, Int.add_sub_cancel]
    generalize (n : Int) * ((n : Int) * d) = x
    generalize (n : Int) * d = y
    generalize (n : Int) * (2 * s) = z
    omega
/-- Where a number stands in a progression. -/
theorem find_prg (s d : Int) (n : Nat) (hd : d ≠ 0) (k : Nat) (hk : k < n) : findI (isX (s + (k : Int) * d)) (prg s d n) = (k : Int) := by
  refine findI_hit (y := s + (k : Int) * d) (by rw [prg_length]; exact hk) (prg_get s d n k hk).symm (fun j hj => ?_) (by simp [isX])
  rw [prg_get s d n j (by omega)]
  simp only [isX, decide_eq_false_iff_not]
  intro e
  have : ((j : Int) - (k : Int)) * d = 0 := by rw [Int.sub_mul]; omega
  rcases Int.mul_eq_zero.1 this with h | h
  · omega
  · exact hd h
theorem find_none (s d : Int) (n : Nat) (x : Int) (h : ∀ j, j < n → s + (j : Int) * d ≠ x) : findI (isX x) (prg s d n) = -1 := by
  refine findI_miss fun j hj => ?_
  rw [prg_length] at hj
  rw [prg_get s d n j hj]
  simp [isX, h j hj]
end Go.Proofs.Ytipgopapohigpaa
