/- Plain facts on progressions of integers: how many numbers a range has, and which. No program is in sight. -/
import Derived.Test.YtoejfpncpgoboaaWords
set_option linter.unusedVariables false
namespace Go.Proofs.Ytoejfpncpgoboaa
open Go.RowKit (Hid)

/-- How many numbers the range from a to b by c has. -/
def cnt (a b c : Int) : Nat := if 0 < c then ((b - a + c - 1) / c).toNat else ((a - b - c - 1) / (-c)).toNat
/-- The first k numbers of the progression from a by c. -/
def prg (a c : Int) (k : Nat) : List Int := (List.range k).map fun i : Nat => a + (i : Int) * c
/-- The numbers of the range from a to b by c. -/
def nums (a b c : Int) : List Int := prg a c (cnt a b c)

theorem prg_length (a c : Int) (k : Nat) : (prg a c k).length = k := by simp [prg]
theorem prg_succ (a c : Int) (k : Nat) : prg a c (k + 1) = prg a c k ++ [a + (k : Int) * c] := by simp [prg, List.range_succ]
theorem prg_zero (a c : Int) : prg a c 0 = [] := rfl
theorem prg_get (a c : Int) (k i : Nat) (h : i < k) : (prg a c k).getD i 0 = a + (i : Int) * c := by
  simp [prg, List.getD_eq_getElem?_getD, h]

theorem up_lt (a b c : Int) (k : Nat) (hc : 0 < c) : a + (k : Int) * c < b ↔ k < cnt a b c := by
  have h1 : k < cnt a b c ↔ ((k : Int) + 1) ≤ (b - a + c - 1) / c := by
    unfold cnt; rw [if_pos hc]; omega
  rw [h1, Int.le_ediv_iff_mul_le hc, Int.add_mul, Int.one_mul]
  omega
theorem down_lt (a b c : Int) (k : Nat) (hc : c < 0) : b < a + (k : Int) * c ↔ k < cnt a b c := by
  have h1 : k < cnt a b c ↔ ((k : Int) + 1) ≤ (a - b - c - 1) / (-c) := by
    unfold cnt; rw [if_neg (by omega)]; omega
  rw [h1, Int.le_ediv_iff_mul_le (by omega), Int.add_mul, Int.one_mul, Int.mul_neg]
  omega

/-- What is small: the ends of a range between -1000 and 1000, its step too, but not 0. -/
def Small (a b c : Int) : Prop := -1000 ≤ a ∧ a ≤ 1000 ∧ -1000 ≤ b ∧ b ≤ 1000 ∧ -1000 ≤ c ∧ c ≤ 1000 ∧ c ≠ 0

theorem up_bd (a b c : Int) (k : Nat) (hs : Small a b c) (hc : 0 < c) (hk : k ≤ cnt a b c) : -1000 ≤ a + (k : Int) * c ∧ a + (k : Int) * c ≤ 2000 ∧ k ≤ 3000 := by
  obtain ⟨h1, h2, h3, h4, h5, h6, h7⟩ := hs
  have h0 : (k : Int) ≤ (k : Int) * c := by have := Int.mul_le_mul_of_nonneg_left (show (1 : Int) ≤ c by omega) (show (0 : Int) ≤ (k : Int) by omega); omega
  have hx : a + (k : Int) * c ≤ 2000 := by
    rcases Nat.eq_zero_or_pos k with h | h
    · subst h; simp; omega
    · obtain ⟨j, rfl⟩ : ∃ j, k = j + 1 := ⟨k - 1, by omega⟩
      have := (up_lt a b c j hc).2 (by omega)
      have e : ((j + 1 : Nat) : Int) * c = (j : Int) * c + c := by rw [Int.natCast_add, Int.add_mul]; simp
      omega
  omega
theorem down_bd (a b c : Int) (k : Nat) (hs : Small a b c) (hc : c < 0) (hk : k ≤ cnt a b c) : -2000 ≤ a + (k : Int) * c ∧ a + (k : Int) * c ≤ 1000 ∧ k ≤ 3000 := by
  obtain ⟨h1, h2, h3, h4, h5, h6, h7⟩ := hs
  have h0 : (k : Int) * c ≤ -(k : Int) := by have := Int.mul_le_mul_of_nonneg_left (show c ≤ -1 by omega) (show (0 : Int) ≤ (k : Int) by omega); omega
  have hx : -2000 ≤ a + (k : Int) * c := by
    rcases Nat.eq_zero_or_pos k with h | h
    · subst h; simp; omega
    · obtain ⟨j, rfl⟩ : ∃ j, k = j + 1 := ⟨k - 1, by omega⟩
      have := (down_lt a b c j hc).2 (by omega)
      have e : ((j + 1 : Nat) : Int) * c = (j : Int) * c + c := by rw [Int.natCast_add, Int.add_mul]; simp
      omega
  omega
theorem take_snoc (xs : List Int) (k : Nat) (h : k < xs.length) : xs.take (k + 1) = xs.take k ++ [xs.getD k 0] := by
  rw [List.take_add_one, List.getElem?_eq_getElem h]
  simp [List.getD_eq_getElem?_getD, h]
theorem take_snoc' {xs : List Int} {k : Nat} {y : Int} (h : k < xs.length) (hy : Hid (y = xs.getD k 0)) : Hid (xs.take (k + 1) = xs.take k ++ [y]) := by
  rw [hy.out]; exact take_snoc xs k h
theorem take_all (xs : List Int) (k : Nat) (h : xs.length ≤ k) : xs.take k = xs := List.take_of_length_le h

/-- The sum of a list. -/
def total (xs : List Int) : Int := xs.foldl (· + ·) 0
theorem total_snoc (xs : List Int) (y : Int) : total (xs ++ [y]) = total xs + y := by simp [total, List.foldl_append]
theorem total_nil : total [] = 0 := rfl
theorem total_take_bd (xs : List Int) (M : Nat) (h : ∀ j, j < xs.length → -(M : Int) ≤ xs.getD j 0 ∧ xs.getD j 0 ≤ M) (k : Nat) (hk : k ≤ xs.length) :
    -((M * k : Nat) : Int) ≤ total (xs.take k) ∧ total (xs.take k) ≤ ((M * k : Nat) : Int) := by
  induction k with
  | zero => simp [total]
  | succ k ih =>
    have i := ih (by omega)
    have hj := h k (by omega)
    rw [take_snoc xs k (by omega), total_snoc, Nat.mul_add, Nat.mul_one]
    omega

theorem nums_length (a b c : Int) : (nums a b c).length = cnt a b c := prg_length _ _ _
theorem cnt_le (a b c : Int) (hs : Small a b c) : cnt a b c ≤ 3000 := by
  rcases (show 0 < c ∨ c < 0 by have := hs.2.2.2.2.2.2; omega) with h | h
  · exact (up_bd a b c _ hs h (Nat.le_refl _)).2.2
  · exact (down_bd a b c _ hs h (Nat.le_refl _)).2.2
theorem nums_get (a b c : Int) (j : Nat) (h : j < (nums a b c).length) : (nums a b c).getD j 0 = a + (j : Int) * c := prg_get _ _ _ _ (by rw [nums_length] at h; exact h)
theorem nums_bd (a b c : Int) (hs : Small a b c) (j : Nat) (h : j < (nums a b c).length) : -(2000 : Nat) ≤ (nums a b c).getD j 0 ∧ (nums a b c).getD j 0 ≤ (2000 : Nat) := by
  rw [nums_get a b c j h]
  rw [nums_length] at h
  rcases (show 0 < c ∨ c < 0 by have := hs.2.2.2.2.2.2; omega) with h' | h'
  · have := up_bd a b c j hs h' (by omega); omega
  · have := down_bd a b c j hs h' (by omega); omega

end Go.Proofs.Ytoejfpncpgoboaa
