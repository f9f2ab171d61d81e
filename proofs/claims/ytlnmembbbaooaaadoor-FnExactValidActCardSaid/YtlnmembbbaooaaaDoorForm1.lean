/- The walks over formats: what is a valid one; sizes, copies, comparison. -/
import Derived.Test.YtlnmembbbaooaaaDoorFunc
import Derived.Test.YtlnmembbbaooaaaDoorLists
import Derived.Test.YtlnmembbbaooaaaDoorRange1
set_option linter.unusedVariables false
namespace Go.Proofs.YtlnmembbbaooaaaDoor
open Go.RowKit
theorem Own.setO {w : World} {B g c : Nat} {A : Option Addr} {xs : List Int} (h : Own w B A c xs) (hg : g < B) (j : Nat) (u : Value) : Own (w.setCell ⟨g, j, none⟩ u) B A c xs :=
  h.keep fun i hi _ => Below.heap_setCell w ⟨g, j, none⟩ u i (by simp; omega)
set_option maxHeartbeats 400000 in
theorem szI_hi (A : Option Addr) (c n : Nat) (m : Int) (w : World) (hn : n ≤ maxLen) (hm : 0 ≤ m) (hm' : m ≤ 1048576) (h : m < (n : Int)) :
    Calls Tryd.prog 9 #[.slice A n c, .int .i64 m] w fun e w' => e = .returned (.int .i64 (-1)) ∧ w = w' := by
  unfold maxLen at hn
  have hs : m - (n : Int) < 0 := by omega
  go_enter Tryd.func9, Tryd.ntmps9
  go_wp2
  go_ret
  exact ⟨rfl, rfl⟩
set_option maxHeartbeats 400000 in
theorem szI_lo (A : Option Addr) (c n : Nat) (m : Int) (w : World) (hm : 0 ≤ m) (hm' : m ≤ 1048576) (h : (n : Int) ≤ m) :
    Calls Tryd.prog 9 #[.slice A n c, .int .i64 m] w fun e w' => e = .returned (.int .i64 (m - (n : Int))) ∧ w = w' := by
  have hs : ¬ (m - (n : Int) < 0) := by omega
  go_enter Tryd.func9, Tryd.ntmps9
  go_wp2
  go_ret
  exact ⟨rfl, rfl⟩
def sz1 (n : Nat) : Int := if n ≤ 1048576 then 1048576 - (n : Int) else -1
theorem sz1_hi {n : Nat} (h : 1048576 < n) : sz1 n = -1 := if_neg (by omega)
theorem sz1_lo {n : Nat} (h : n ≤ 1048576) : sz1 n = 1048576 - (n : Int) := if_pos h
set_option maxHeartbeats 800000 in
theorem szAct_any (A : Option Addr) (c n : Nat) (k k2 : Int) (w : World) (hn : n ≤ maxLen) :
    Calls Tryd.prog 4 #[.agg #[.int .i64 k, .slice A n c], .int .i64 1048576] w (Ret w (.int .i64 (sz1 n))) := by
  by_cases h : 1048576 < n
  · have HR := Lib.hid (sz1_hi h)
    have H1 := Lib.hid (show (1048576 : Int) < (n : Int) by omega)
    clear h
    go_enter Tryd.func4, Tryd.ntmps4
    go_wp2_with fail
    refine (szI_hi _ _ _ _ _ hn (by omega) (by omega) H1.out).mono ?_; rintro e w1 ⟨rfl, rfl⟩
    go_wp2_with fail
    go_ret
    exact ⟨ret_int (by rw [HR.out]), (by (repeat' (first | (with_reducible exact Below.refl _ _) | (with_reducible assumption) | (with_reducible refine Below.setCell ?_ ?_ _) | (with_reducible refine Below.al ?_ _) | (with_reducible refine Below.drew ?_) | (with_reducible refine Below.drN ?_ _) | (with_reducible refine Below.step ?_ (by assumption)) | (with_reducible refine Below.alloc ?_ ?_ _))); all_goals (simp; try omega))⟩
  · have HR := Lib.hid (sz1_lo (n := n) (by omega))
    have H1 := Lib.hid (show (n : Int) ≤ 1048576 by omega)
    have h3 : ¬ (1048576 - (n : Int) < 0) := by omega
    clear h
    go_enter Tryd.func4, Tryd.ntmps4
    go_wp2_with fail
    refine (szI_lo _ _ _ _ _ (by omega) (by omega) H1.out).mono ?_; rintro e w1 ⟨rfl, rfl⟩
    go_wp2_with fail
    go_ret
    exact ⟨ret_int (by rw [HR.out]), (by (repeat' (first | (with_reducible exact Below.refl _ _) | (with_reducible assumption) | (with_reducible refine Below.setCell ?_ ?_ _) | (with_reducible refine Below.al ?_ _) | (with_reducible refine Below.drew ?_) | (with_reducible refine Below.drN ?_ _) | (with_reducible refine Below.step ?_ (by assumption)) | (with_reducible refine Below.alloc ?_ ?_ _))); all_goals (simp; try omega))⟩

def badSize (x : Int) : Bool := decide (x ≠ 1 ∧ x ≠ 2 ∧ x ≠ 4)
def formB (xs : List Int) : Bool := decide (1 ≤ xs.length ∧ xs.length ≤ 5) && !xs.any badSize
theorem form_len {xs : List Int} (h : ¬ (1 ≤ xs.length ∧ xs.length ≤ 5)) : formB xs = false := by simp only [formB, decide_eq_false h, Bool.false_and]
theorem form_any {xs : List Int} (h : 1 ≤ xs.length ∧ xs.length ≤ 5) : formB xs = !xs.any badSize := by simp only [formB, decide_eq_true h, Bool.true_and]
theorem form_bad {xs : List Int} (h : xs.any badSize = true) : formB xs = false := by simp [formB, h]
theorem form_ok {xs : List Int} (h : xs.any badSize = false) : formB xs = inB (xs.length : Int) 1 5 := by
  rw [Bool.eq_iff_iff]; simp only [formB, h, inB]; simp; omega
theorem form_get {xs : List Int} (h : formB xs = true) : 1 ≤ xs.length ∧ xs.length ≤ 5 ∧ ∀ j, j < xs.length → xs.getD j 0 = 1 ∨ xs.getD j 0 = 2 ∨ xs.getD j 0 = 4 := by
  simp only [formB, Bool.and_eq_true, decide_eq_true_eq, Bool.not_eq_true', List.any_eq_false] at h
  refine ⟨h.1.1, h.1.2, fun j hj => ?_⟩
  have := h.2 (xs.getD j 0) (by simp [List.getD_eq_getElem?_getD, hj])
  simp only [badSize, decide_eq_true_eq] at this
  omega
def RetForm (w : World) (xs : List Int) (bg al : Bool) (e : Ending) (w' : World) : Prop :=
  ∃ A c, e = .returned (.agg #[.slice A xs.length c, .bool bg, .bool al]) ∧ Own w' w.heap.size A c xs ∧ Below w.heap.size w w'
end Go.Proofs.YtlnmembbbaooaaaDoor
