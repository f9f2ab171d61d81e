/- The walks of a list in reverse: a new list, and in place. -/
import Derived.Test.YtdhhdkncglhgfaaNorm
set_option linter.unusedVariables false
namespace Go.Proofs.Ytdhhdkncglhgfaa
open Go.RowKit
theorem grown_drew {a w : World} {row : Option Nat} (h : a.grownBy w row) : a.grownBy w.drew row := ⟨h.os, h.tape, h.output, h.size, h.block⟩

/-- The list after k exchanges from both ends. -/
def rv (xs : List Int) (k : Nat) : List Int := (List.range xs.length).map fun t => if t < k ∨ xs.length ≤ t + k then xs.getD (xs.length - 1 - t) 0 else xs.getD t 0
theorem rv_length (xs : List Int) (k : Nat) : (rv xs k).length = xs.length := by simp [rv]
theorem rv_get (xs : List Int) (k t : Nat) (h : t < xs.length) : (rv xs k).getD t 0 = if t < k ∨ xs.length ≤ t + k then xs.getD (xs.length - 1 - t) 0 else xs.getD t 0 := by
  simp [rv, List.getD_eq_getElem?_getD, h]
theorem getD_ext' (xs ys : List Int) (hl : xs.length = ys.length) (h : ∀ j, j < xs.length → xs.getD j 0 = ys.getD j 0) : xs = ys := by
  apply List.ext_getElem hl
  intro i h1 h2
  have := h i h1
  simpa [List.getD_eq_getElem?_getD, h1, h2] using this
theorem rv_zero (xs : List Int) : rv xs 0 = xs := getD_ext' _ _ (rv_length _ _) fun j hj => by
  rw [rv_length] at hj
  rw [rv_get xs 0 j hj, if_neg (by omega)]
theorem rev_get (xs : List Int) (t : Nat) (h : t < xs.length) : xs.reverse.getD t 0 = xs.getD (xs.length - 1 - t) 0 := by
  simp [List.getD_eq_getElem?_getD, List.getElem?_reverse h]
theorem rv_end (xs : List Int) (k : Nat) (h : xs.length ≤ 2 * k + 1) : rv xs k = xs.reverse := getD_ext' _ _ (by simp [rv_length]) fun j hj => by
  rw [rv_length] at hj
  rw [rv_get xs k j hj, rev_get xs j hj]
  by_cases hh : j < k ∨ xs.length ≤ j + k
  · rw [if_pos hh]
  · rw [if_neg hh]
    congr 1
    omega
theorem set_get (xs : List Int) (k t : Nat) (y : Int) (h : t < xs.length) : (xs.set k y).getD t 0 = if t = k then y else xs.getD t 0 := by
  by_cases e : t = k
  · subst e; simp [List.getD_eq_getElem?_getD, h]
  · have e' : ¬ k = t := fun x => e x.symm
    simp [List.getD_eq_getElem?_getD, e, e']
theorem rv_succ (xs : List Int) (k m : Nat) (h : k + m + 1 = xs.length) (hkm : k < m) :
    rv xs (k + 1) = ((rv xs k).set k ((rv xs k).getD m 0)).set m ((rv xs k).getD k 0) := getD_ext' _ _ (by simp [rv_length]) fun j hj => by
  rw [rv_length] at hj
  rw [set_get _ _ _ _ (by simp [rv_length]; exact hj), set_get _ _ _ _ (by rw [rv_length]; exact hj), rv_get xs _ j hj, rv_get xs _ j hj, rv_get xs _ m (by omega), rv_get xs _ k (by omega)]
  rw [if_neg (show ¬(m < k ∨ xs.length ≤ m + k) by omega), if_neg (show ¬(k < k ∨ xs.length ≤ k + k) by omega)]
  by_cases e1 : j = m
  · subst e1
    rw [if_pos rfl, if_pos (by omega)]
    congr 1; omega
  · rw [if_neg e1]
    by_cases e2 : j = k
    · subst e2
      rw [if_pos rfl, if_pos (by omega)]
      congr 1; omega
    · rw [if_neg e2]
      by_cases e3 : j < k ∨ xs.length ≤ j + k
      · rw [if_pos e3, if_pos (by omega)]
      · rw [if_neg e3, if_neg (by omega)]


theorem rev_snoc (xs : List Int) (k m : Nat) (y : Int) (hk : k + (m + 1) = xs.length) (hy : Hid (y = xs.getD m 0)) : xs.reverse.take (k + 1) = xs.reverse.take k ++ [y] := by
  have h : k < xs.reverse.length := by simp; omega
  rw [take_snoc _ _ h, rev_get xs k (by omega), hy.out]
  congr 3; omega
end Go.Proofs.Ytdhhdkncglhgfaa
