/- The walk of the reference's check that all numbers of a list are in a range. -/
import Derived.Test.YtoejfpncpgoboaaFunc
import Derived.Test.YtoejfpncpgoboaaRange1
set_option linter.unusedVariables false
namespace Go.Proofs.Ytoejfpncpgoboaa
open Go.RowKit

def outB (l h x : Int) : Bool := !inB x l h
def allB (l h : Int) (xs : List Int) : Bool := !xs.any (outB l h)
theorem any_hit {p : Int → Bool} {xs : List Int} {k : Nat} {y : Int} (hk : k < xs.length) (hy : Hid (y = xs.getD k 0)) (h : p y = true) : xs.any p = true := by
  rw [List.any_eq_true]
  refine ⟨xs[k], List.getElem_mem hk, ?_⟩
  rw [hy.out] at h
  simpa [List.getD_eq_getElem?_getD, hk] using h
theorem any_miss {p : Int → Bool} {xs : List Int} (h : Before p xs xs.length) : xs.any p = false := by
  rw [Bool.eq_false_iff]
  intro he
  obtain ⟨x, hx, hp⟩ := List.any_eq_true.1 he
  obtain ⟨j, hj, rfl⟩ := List.getElem_of_mem hx
  have := h j hj
  rw [show xs.getD j 0 = xs[j] by simp [List.getD_eq_getElem?_getD, hj]] at this
  rw [this] at hp
  cases hp

end Go.Proofs.Ytoejfpncpgoboaa
