/- The walks over tensors: sizes, copies, comparison. -/
import Derived.Test.YtdhhdkncglhgfaaTens1
import Derived.Test.YtdhhdkncglhgfaaLists
set_option linter.unusedVariables false
namespace Go.Proofs.Ytdhhdkncglhgfaa
open Go.RowKit

theorem Own.setOff {w : World} {B g c : Nat} {A : Option Addr} {xs : List Int} (h : Own w B A c xs) (hg : g < B) (j : Nat) (u : Value) : Own (w.setCell ⟨g, j, none⟩ u) B A c xs :=
  h.keep fun i hi _ => Below.heap_setCell w ⟨g, j, none⟩ u i (by simp; omega)

def szB (n n' : Nat) : Int := if n + n' ≤ 1048576 then 1048576 - (n : Int) - (n' : Int) else -1
theorem szB_hi {n n' : Nat} (h : 1048576 < n + n') : szB n n' = -1 := if_neg (by omega)
theorem szB_lo {n n' : Nat} (h : n + n' ≤ 1048576) : szB n n' = 1048576 - (n : Int) - (n' : Int) := if_pos h
def RetTens (w : World) (xs vs : List Int) (e : Ending) (w' : World) : Prop :=
  ∃ A c A' c', e = .returned (.agg #[.slice A xs.length c, .slice A' vs.length c']) ∧ Own w' w.heap.size A c xs ∧ Own w' w.heap.size A' c' vs ∧ Below w.heap.size w w' ∧ (blk A' = none ∨ blk A' ≠ blk A)
set_option maxHeartbeats 800000 in
theorem sValidTensor_any (A A' : Option Addr) (c c' : Nat) (xs vs : List Int) (w : World) (h0 : Rd w w.heap.size .i64 A xs) (h0' : Rd w w.heap.size .i64 A' vs) (hl : xs.length ≤ maxLen) (hl' : vs.length ≤ maxLen) :
    Calls Try.prog 50 #[.agg #[.slice A xs.length c, .slice A' vs.length c']] w (Ret w (.bool (tensB xs vs))) := by
  go_enter Try.func50, Try.ntmps50
  go_wp2_with fail
  refine (validTensor_any _ _ _ _ _ _ _ ((h0.alloc (Nat.le_refl _) _).more (by simp <;> omega)) ((h0'.alloc (Nat.le_refl _) _).more (by simp <;> omega)) hl hl').mono ?_; rintro e w1 ⟨rfl, hb1⟩
  go_wp2_with fail
  go_ret
  exact ⟨rfl, (by (repeat' (first | (with_reducible exact Below.refl _ _) | (with_reducible assumption) | (with_reducible refine Below.setCell ?_ ?_ _) | (with_reducible refine Below.al ?_ _) | (with_reducible refine Below.drew ?_) | (with_reducible refine Below.drN ?_ _) | (with_reducible refine Below.step ?_ (by assumption)) | (with_reducible refine Below.alloc ?_ ?_ _))); all_goals (simp; try omega))⟩
set_option maxHeartbeats 800000 in
theorem iValidTensor_any (A A' : Option Addr) (c c' : Nat) (xs vs : List Int) (w : World) (h0 : Rd w w.heap.size .i64 A xs) (h0' : Rd w w.heap.size .i64 A' vs) (hl : xs.length ≤ maxLen) (hl' : vs.length ≤ maxLen) :
    Calls Try.prog 49 #[.agg #[.slice A xs.length c, .slice A' vs.length c']] w (Ret w (.bool (tensB xs vs))) := by
  go_enter Try.func49, Try.ntmps49
  go_wp2_with fail
  refine (isTensor_any _ _ _ _ _ _ _ ((h0.alloc (Nat.le_refl _) _).more (by simp <;> omega)) ((h0'.alloc (Nat.le_refl _) _).more (by simp <;> omega)) hl hl').mono ?_; rintro e w1 ⟨rfl, hb1⟩
  go_wp2_with fail
  go_ret
  exact ⟨rfl, (by (repeat' (first | (with_reducible exact Below.refl _ _) | (with_reducible assumption) | (with_reducible refine Below.setCell ?_ ?_ _) | (with_reducible refine Below.al ?_ _) | (with_reducible refine Below.drew ?_) | (with_reducible refine Below.drN ?_ _) | (with_reducible refine Below.step ?_ (by assumption)) | (with_reducible refine Below.alloc ?_ ?_ _))); all_goals (simp; try omega))⟩
end Go.Proofs.Ytdhhdkncglhgfaa
