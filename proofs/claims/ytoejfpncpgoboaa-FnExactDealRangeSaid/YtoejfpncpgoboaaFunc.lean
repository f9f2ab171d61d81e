/- The walks of the library's search by a function value, at the function values of this seat that capture nothing. -/
import Derived.Test.YtoejfpncpgoboaaMath
set_option linter.unusedVariables false
namespace Go.Proofs.Ytoejfpncpgoboaa
open Go.RowKit

/-- The first place at which p holds, -1 if there is none. -/
def findI (p : Int → Bool) (xs : List Int) : Int := match xs.findIdx? p with
  | some i => (i : Int)
  | none => -1
theorem findI_hit {p : Int → Bool} {xs : List Int} {k : Nat} {y : Int} (hk : k < xs.length) (hy : Hid (y = xs.getD k 0)) (h0 : ∀ j, j < k → p (xs.getD j 0) = false) (h : p y = true) : findI p xs = k := by
  have e : xs.findIdx? p = some k := by
    rw [List.findIdx?_eq_some_iff_getElem]
    refine ⟨hk, ?_, fun j hj => ?_⟩
    · rw [hy.out] at h; simpa [List.getD_eq_getElem?_getD, hk] using h
    · have := h0 j hj
      simpa [List.getD_eq_getElem?_getD, show j < xs.length by omega] using this
  simp [findI, e]
theorem findI_miss {p : Int → Bool} {xs : List Int} (h0 : ∀ j, j < xs.length → p (xs.getD j 0) = false) : findI p xs = -1 := by
  have e : xs.findIdx? p = none := by
    rw [List.findIdx?_eq_none_iff]
    intro x hx
    obtain ⟨j, hj, rfl⟩ := List.getElem_of_mem hx
    have := h0 j hj
    simpa [List.getD_eq_getElem?_getD, hj] using this
  simp [findI, e]
theorem findI_any (p : Int → Bool) (xs : List Int) : decide (0 ≤ findI p xs) = xs.any p := by
  rw [Bool.eq_iff_iff]
  rcases h : xs.findIdx? p with _ | i
  · rw [List.findIdx?_eq_none_iff] at h
    simp [findI, List.findIdx?_eq_none_iff.2 h]
    exact h
  · have h2 := h
    rw [List.findIdx?_eq_some_iff_getElem] at h2
    simp [findI, h]
    exact ⟨_, List.getElem_mem h2.1, h2.2.1⟩
def Before (p : Int → Bool) (xs : List Int) (k : Nat) : Prop := ∀ j, j < k → p (xs.getD j 0) = false
theorem Before.succ {p : Int → Bool} {xs : List Int} {k : Nat} {y : Int} (h : Before p xs k) (hy : Hid (y = xs.getD k 0)) (h1 : p y = false) : Before p xs (k + 1) := fun j hj => by
  rcases Nat.lt_or_ge j k with h' | h'
  · exact h j h'
  · obtain rfl : j = k := by omega
    rw [← hy.out]; exact h1

end Go.Proofs.Ytoejfpncpgoboaa
