/- The walk of the reference's check that all numbers of a list are in a range. -/
import Derived.Test.YtdhhdkncglhgfaaFunc
import Derived.Test.YtdhhdkncglhgfaaRange1
set_option linter.unusedVariables false
namespace Go.Proofs.Ytdhhdkncglhgfaa
open Go.RowKit

def outB (l h x : Int) : Bool := !inB x l h
def allB (l h : Int) (xs : List Int) : Bool := !xs.any (outB l h)
theorem any_hit {p : Int → Bool} {xs : List Int} {k : Nat} {y : Int} (hk : k < xs.length) (hy : Hid (y = xs.getD k 0)) (h : p y = true) : xs.any p = true := by
  rw [List.any_eq_true]
  refine ⟨xs[k], List.getElem_mem hk, ?_⟩
  rw [hy.out] at h
  simpa [List.getD_eq_getElem?_getD, hk] using h
theorem any_miss {p : Int → Bool} {xs : List Int} (h : Before p xs xs.length) : xs.any p = false := by
  rw [Bool.eq_false_iff]
  intro he
  obtain ⟨x, hx, hp⟩ := List.any_eq_true.1 he
  obtain ⟨j, hj, rfl⟩ := List.getElem_of_mem hx
  have := h j hj
  rw [show xs.getD j 0 = xs[j] by simp [List.getD_eq_getElem?_getD, hj]] at this
  rw [this] at hp
  cases hp

set_option maxHeartbeats 800000 in
theorem allIn_any (A : Option Addr) (c B : Nat) (xs : List Int) (l h : Int) (w : World) (hr : Rd w B .i64 A xs) (hl : xs.length ≤ maxLen) :
    Calls Try.prog 100 #[.slice A xs.length c, .int .i64 l, .int .i64 h] w (Ret w (.bool (allB l h xs))) := by
  unfold maxLen at hl
  go_enter Try.func100, Try.ntmps100
  go_wp2
  go_loop [7] (fun i => ∃ k : Nat, k ≤ xs.length ∧ i = .int .i64 k ∧ Before (outB l h) xs k) (fun i => xs.length - (intOf i).toNat)
  case atStart => exact ⟨0, Nat.zero_le _, rfl, fun j hj => absurd hj (by omega)⟩
  case round =>
    obtain ⟨k, hk, rfl, hbf⟩ := hrel
    have HB := Lib.hid hbf
    clear hbf
    by_cases hlt : k < xs.length
    · obtain ⟨ad, y, rfl, _, hcell, HY⟩ := hr.get hlt
      rcases hp : inB y l h with _ | _
      · have HR : Hid (allB l h xs = false) := by
          have := any_hit (p := outB l h) hlt HY (by simp [outB, hp])
          show allB l h xs = false
          simp [allB, this]
        go_wp2_with (go_at_call 67; refine (inRange_any _ _ _ _).mono ?_; rintro e w' ⟨rfl, rfl⟩)
        go_ret
        exact ⟨ret_bool (by rw [HR.out]), Below.refl _ _⟩
      · have HP := Lib.hid (show outB l h y = false by simp [outB, hp])
        go_wp2_with (go_at_call 67; refine (inRange_any _ _ _ _).mono ?_; rintro e w' ⟨rfl, rfl⟩)
        go_round
        case rel => exact ⟨k + 1, hlt, by go_num, HB.out.succ HY HP.out⟩
        case measure => simp [intOf]; omega
    · obtain rfl : k = xs.length := by omega
      have HR : Hid (allB l h xs = true) := by
        have := any_miss HB.out
        show allB l h xs = true
        simp [allB, this]
      go_wp2
      go_ret
      exact ⟨ret_bool (by rw [HR.out]), Below.refl _ _⟩
end Go.Proofs.Ytdhhdkncglhgfaa
