/- The walks over formats: what is a valid one; sizes, copies, comparison. -/
import Derived.Test.YtdhhdkncglhgfaaFunc
import Derived.Test.YtdhhdkncglhgfaaLists
import Derived.Test.YtdhhdkncglhgfaaRange1
set_option linter.unusedVariables false
namespace Go.Proofs.Ytdhhdkncglhgfaa
open Go.RowKit
theorem Own.setO {w : World} {B g c : Nat} {A : Option Addr} {xs : List Int} (h : Own w B A c xs) (hg : g < B) (j : Nat) (u : Value) : Own (w.setCell ⟨g, j, none⟩ u) B A c xs :=
  h.keep fun i hi _ => Below.heap_setCell w ⟨g, j, none⟩ u i (by simp; omega)
def sz1 (n : Nat) : Int := if n ≤ 1048576 then 1048576 - (n : Int) else -1
theorem sz1_hi {n : Nat} (h : 1048576 < n) : sz1 n = -1 := if_neg (by omega)
theorem sz1_lo {n : Nat} (h : n ≤ 1048576) : sz1 n = 1048576 - (n : Int) := if_pos h

def badSize (x : Int) : Bool := decide (x ≠ 1 ∧ x ≠ 2 ∧ x ≠ 4)
def formB (xs : List Int) : Bool := decide (1 ≤ xs.length ∧ xs.length ≤ 5) && !xs.any badSize
theorem form_len {xs : List Int} (h : ¬ (1 ≤ xs.length ∧ xs.length ≤ 5)) : formB xs = false := by simp only [formB, decide_eq_false h, Bool.false_and]
theorem form_any {xs : List Int} (h : 1 ≤ xs.length ∧ xs.length ≤ 5) : formB xs = !xs.any badSize := by simp only [formB, decide_eq_true h, Bool.true_and]
theorem form_bad {xs : List Int} (h : xs.any badSize = true) : formB xs = false := by simp [formB, h]
theorem form_ok {xs : List Int} (h : xs.any badSize = false) : formB xs = inB (xs.length : Int) 1 5 := by
  rw [Bool.eq_iff_iff]; simp only [formB, h, inB]; simp; omega
theorem form_get {xs : List Int} (h : formB xs = true) : 1 ≤ xs.length ∧ xs.length ≤ 5 ∧ ∀ j, j < xs.length → xs.getD j 0 = 1 ∨ xs.getD j 0 = 2 ∨ xs.getD j 0 = 4 := by
  simp only [formB, Bool.and_eq_true, decide_eq_true_eq, Bool.not_eq_true', List.any_eq_false] at h
  refine ⟨h.1.1, h.1.2, fun j hj => ?_⟩
  have := h.2 (xs.getD j 0) (by simp [List.getD_eq_getElem?_getD, hj])
  simp only [badSize, decide_eq_true_eq] at this
  omega
set_option maxHeartbeats 400000 in
theorem isFormat_fn (x : Int) (w : World) : Calls Try.prog 101 #[.int .i64 x] w (Ret w (.bool (badSize x))) := by
  go_enter Try.func101, Try.ntmps101
  go_wp2
  all_goals (go_ret; exact ⟨ret_bool (by go_light; rw [Bool.eq_iff_iff]; simp [badSize] at *; try omega), (by (repeat' (first | (with_reducible exact Below.refl _ _) | (with_reducible assumption) | (with_reducible refine Below.setCell ?_ ?_ _) | (with_reducible refine Below.al ?_ _) | (with_reducible refine Below.drew ?_) | (with_reducible refine Below.drN ?_ _) | (with_reducible refine Below.step ?_ (by assumption)) | (with_reducible refine Below.alloc ?_ ?_ _))); all_goals (simp; try omega))⟩)
set_option maxHeartbeats 800000 in
theorem isFormat_idx (A : Option Addr) (c : Nat) (xs : List Int) (w : World) (hr : Rd w w.heap.size .i64 A xs) (hl : xs.length ≤ maxLen) :
    Calls Try.prog 111 #[.slice A xs.length c, .func (.func 101) #[] #[]] w (Ret w (.int .i64 (findI badSize xs))) := by
  unfold maxLen at hl
  go_enter Try.func111, Try.ntmps111
  go_wp2
  go_loopw [8] (fun i wr => ∃ k : Nat, k ≤ xs.length ∧ i = .int .i64 k ∧ Below w.heap.size w wr ∧ Before badSize xs k) (fun i _ => xs.length - (intOf i).toNat)
  case atStart => exact ⟨0, Nat.zero_le _, rfl, Below.refl _ _, fun j hj => absurd hj (by omega)⟩
  case round =>
    obtain ⟨k, hk, rfl, hbl, hbf⟩ := hrel
    by_cases hlt : k < xs.length
    · obtain ⟨ad, y, rfl, _, hcell, HY⟩ := (hr.below hbl).get hlt
      have HB := Lib.hid hbf
      clear hbf
      rcases hp : badSize y with _ | _
      · go_wp2_with (go_at_call 101; refine (isFormat_fn _ _).mono ?_; rintro e w1 ⟨rfl, hb1⟩)
        have HP := Lib.hid hp
        go_roundw
        case rel => exact ⟨k + 1, hlt, by go_num, hbl.step hb1, HB.out.succ HY HP.out⟩
        case measure => simp [intOf]; omega
      · have HR := Lib.hid (findI_hit hlt HY HB.out hp)
        go_wp2_with (go_at_call 101; refine (isFormat_fn _ _).mono ?_; rintro e w1 ⟨rfl, hb1⟩)
        go_ret
        exact ⟨ret_int (by rw [HR.out]), hbl.step hb1⟩
    · obtain rfl : k = xs.length := by omega
      have HR := Lib.hid (findI_miss hbf)
      clear hbf
      go_wp2
      go_ret
      exact ⟨ret_int (by rw [HR.out]), hbl⟩

set_option maxHeartbeats 400000 in
theorem isFormat_has (A : Option Addr) (c : Nat) (xs : List Int) (w : World) (hr : Rd w w.heap.size .i64 A xs) (hl : xs.length ≤ maxLen) :
    Calls Try.prog 97 #[.slice A xs.length c, .func (.func 101) #[] #[]] w (Ret w (.bool (xs.any badSize))) := by
  have HA := Lib.hid (findI_any badSize xs)
  go_enter Try.func97, Try.ntmps97
  go_wp2_with (go_at_call 111; refine (isFormat_idx _ _ _ _ hr hl).mono ?_; rintro e w1 ⟨rfl, hb1⟩)
  go_ret
  exact ⟨ret_bool (by rw [HA.out]), (by (repeat' (first | (with_reducible exact Below.refl _ _) | (with_reducible assumption) | (with_reducible refine Below.setCell ?_ ?_ _) | (with_reducible refine Below.al ?_ _) | (with_reducible refine Below.drew ?_) | (with_reducible refine Below.drN ?_ _) | (with_reducible refine Below.step ?_ (by assumption)) | (with_reducible refine Below.alloc ?_ ?_ _))); all_goals (simp; try omega))⟩
set_option maxHeartbeats 1600000 in
theorem isFormat_any (A : Option Addr) (c : Nat) (bg al : Bool) (xs : List Int) (w : World) (h0 : Rd w w.heap.size .i64 A xs) (hl : xs.length ≤ maxLen) :
    Calls Try.prog 73 #[.agg #[.slice A xs.length c, .bool bg, .bool al]] w (Ret w (.bool (formB xs))) := by
  have hl2 := hl
  unfold maxLen at hl2
  by_cases h : 1 ≤ xs.length ∧ xs.length ≤ 5
  · have HR := Lib.hid (form_any h)
    obtain ⟨h1, h2⟩ := h
    go_enter Try.func73, Try.ntmps73
    go_wp2_with fail
    refine (isFormat_has _ _ _ _ ((h0.alloc (Nat.le_refl _) _).more (by simp)) hl).mono ?_; rintro e w1 ⟨rfl, hb1⟩
    go_wp2_with fail
    go_ret
    exact ⟨ret_bool (by rw [HR.out]), (by (repeat' (first | (with_reducible exact Below.refl _ _) | (with_reducible assumption) | (with_reducible refine Below.setCell ?_ ?_ _) | (with_reducible refine Below.al ?_ _) | (with_reducible refine Below.drew ?_) | (with_reducible refine Below.drN ?_ _) | (with_reducible refine Below.step ?_ (by assumption)) | (with_reducible refine Below.alloc ?_ ?_ _))); all_goals (simp; try omega))⟩
  · have HR := Lib.hid (form_len h)
    rcases (show xs.length < 1 ∨ (1 ≤ xs.length ∧ 5 < xs.length) by omega) with h' | ⟨h1, h'⟩
    all_goals
      clear h
      go_enter Try.func73, Try.ntmps73
      go_wp2_with fail
      go_ret
      exact ⟨ret_bool (by rw [HR.out]), (by (repeat' (first | (with_reducible exact Below.refl _ _) | (with_reducible assumption) | (with_reducible refine Below.setCell ?_ ?_ _) | (with_reducible refine Below.al ?_ _) | (with_reducible refine Below.drew ?_) | (with_reducible refine Below.drN ?_ _) | (with_reducible refine Below.step ?_ (by assumption)) | (with_reducible refine Below.alloc ?_ ?_ _))); all_goals (simp; try omega))⟩
set_option maxHeartbeats 1600000 in
theorem validFormat_any (A : Option Addr) (c : Nat) (bg al : Bool) (xs : List Int) (w : World) (h0 : Rd w w.heap.size .i64 A xs) (hl : xs.length ≤ maxLen) :
    Calls Try.prog 74 #[.agg #[.slice A xs.length c, .bool bg, .bool al]] w (Ret w (.bool (formB xs))) := by
  unfold maxLen at hl
  have hr := h0.alloc (Nat.le_refl _) (.cells #[.slice A xs.length c, .bool bg, .bool al] 37)
  go_enter Try.func74, Try.ntmps74
  go_wp2_with fail
  go_loop [3] (fun i => ∃ k : Nat, k ≤ xs.length ∧ i = .int .i64 k ∧ Before badSize xs k) (fun i => xs.length - (intOf i).toNat)
  case atStart => exact ⟨0, Nat.zero_le _, rfl, fun j hj => absurd hj (by omega)⟩
  case round =>
    obtain ⟨k, hk, rfl, hbf⟩ := hrel
    have HB := Lib.hid hbf
    clear hbf
    by_cases hlt : k < xs.length
    · obtain ⟨ad, y, rfl, _, hcell, HY⟩ := hr.get hlt
      rcases (show y = 1 ∨ y = 2 ∨ y = 4 ∨ (y ≠ 1 ∧ y ≠ 2 ∧ y ≠ 4) by omega) with rfl | rfl | rfl | ⟨h1, h2, h4⟩
      · go_wp2_with fail
        go_round
        case rel => exact ⟨k + 1, hlt, by go_num, HB.out.succ HY rfl⟩
        case measure => simp [intOf]; omega
      · go_wp2_with fail
        go_round
        case rel => exact ⟨k + 1, hlt, by go_num, HB.out.succ HY rfl⟩
        case measure => simp [intOf]; omega
      · go_wp2_with fail
        go_round
        case rel => exact ⟨k + 1, hlt, by go_num, HB.out.succ HY rfl⟩
        case measure => simp [intOf]; omega
      · have HR : Hid (formB xs = false) := by
          refine form_bad ?_
          rw [List.any_eq_true]
          refine ⟨xs[k], List.getElem_mem hlt, ?_⟩
          have := HY.out
          simp [List.getD_eq_getElem?_getD, hlt] at this
          rw [← this]
          simp [badSize, h1, h2, h4]
        have i1 : (y != 1) = true := by simp; exact h1
        have i2 : (y != 2) = true := by simp; exact h2
        have i4 : (y != 4) = true := by simp; exact h4
        clear h1 h2 h4
        go_wp2_with fail
        go_ret
        exact ⟨ret_bool (by rw [HR.out]), (by (repeat' (first | (with_reducible exact Below.refl _ _) | (with_reducible assumption) | (with_reducible refine Below.setCell ?_ ?_ _) | (with_reducible refine Below.al ?_ _) | (with_reducible refine Below.drew ?_) | (with_reducible refine Below.drN ?_ _) | (with_reducible refine Below.step ?_ (by assumption)) | (with_reducible refine Below.alloc ?_ ?_ _))); all_goals (simp; try omega))⟩
    · obtain rfl : k = xs.length := by omega
      have hany : xs.any badSize = false := by
        rw [Bool.eq_false_iff]
        intro he
        obtain ⟨x, hx, hp⟩ := List.any_eq_true.1 he
        obtain ⟨j, hj, rfl⟩ := List.getElem_of_mem hx
        have := HB.out j hj
        rw [show xs.getD j 0 = xs[j] by simp [List.getD_eq_getElem?_getD, hj]] at this
        rw [this] at hp
        cases hp
      have HR := Lib.hid (form_ok hany)
      clear hany
      go_wp2_with fail
      refine (inRange_any _ _ _ _).mono ?_; rintro e w1 ⟨rfl, rfl⟩
      go_wp2_with fail
      go_ret
      exact ⟨ret_bool (by rw [HR.out]), (by (repeat' (first | (with_reducible exact Below.refl _ _) | (with_reducible assumption) | (with_reducible refine Below.setCell ?_ ?_ _) | (with_reducible refine Below.al ?_ _) | (with_reducible refine Below.drew ?_) | (with_reducible refine Below.drN ?_ _) | (with_reducible refine Below.step ?_ (by assumption)) | (with_reducible refine Below.alloc ?_ ?_ _))); all_goals (simp; try omega))⟩
set_option maxHeartbeats 800000 in
theorem sValidFormat_any (A : Option Addr) (c : Nat) (bg al : Bool) (xs : List Int) (w : World) (h0 : Rd w w.heap.size .i64 A xs) (hl : xs.length ≤ maxLen) :
    Calls Try.prog 27 #[.agg #[.slice A xs.length c, .bool bg, .bool al]] w (Ret w (.bool (formB xs))) := by
  go_enter Try.func27, Try.ntmps27
  go_wp2_with fail
  refine (validFormat_any _ _ _ _ _ _ ((h0.alloc (Nat.le_refl _) _).more (by simp <;> omega)) hl).mono ?_; rintro e w1 ⟨rfl, hb1⟩
  go_wp2_with fail
  go_ret
  exact ⟨rfl, (by (repeat' (first | (with_reducible exact Below.refl _ _) | (with_reducible assumption) | (with_reducible refine Below.setCell ?_ ?_ _) | (with_reducible refine Below.al ?_ _) | (with_reducible refine Below.drew ?_) | (with_reducible refine Below.drN ?_ _) | (with_reducible refine Below.step ?_ (by assumption)) | (with_reducible refine Below.alloc ?_ ?_ _))); all_goals (simp; try omega))⟩
set_option maxHeartbeats 800000 in
theorem iValidFormat_any (A : Option Addr) (c : Nat) (bg al : Bool) (xs : List Int) (w : World) (h0 : Rd w w.heap.size .i64 A xs) (hl : xs.length ≤ maxLen) :
    Calls Try.prog 26 #[.agg #[.slice A xs.length c, .bool bg, .bool al]] w (Ret w (.bool (formB xs))) := by
  go_enter Try.func26, Try.ntmps26
  go_wp2_with fail
  refine (isFormat_any _ _ _ _ _ _ ((h0.alloc (Nat.le_refl _) _).more (by simp <;> omega)) hl).mono ?_; rintro e w1 ⟨rfl, hb1⟩
  go_wp2_with fail
  go_ret
  exact ⟨rfl, (by (repeat' (first | (with_reducible exact Below.refl _ _) | (with_reducible assumption) | (with_reducible refine Below.setCell ?_ ?_ _) | (with_reducible refine Below.al ?_ _) | (with_reducible refine Below.drew ?_) | (with_reducible refine Below.drN ?_ _) | (with_reducible refine Below.step ?_ (by assumption)) | (with_reducible refine Below.alloc ?_ ?_ _))); all_goals (simp; try omega))⟩

def RetForm (w : World) (xs : List Int) (bg al : Bool) (e : Ending) (w' : World) : Prop :=
  ∃ A c, e = .returned (.agg #[.slice A xs.length c, .bool bg, .bool al]) ∧ Own w' w.heap.size A c xs ∧ Below w.heap.size w w'
end Go.Proofs.Ytdhhdkncglhgfaa
