/- The walks over memories: what is one; the copy and the comparison of lists. -/
import Derived.Test.YtdhhdkncglhgfaaFunc
import Derived.Test.YtdhhdkncglhgfaaAllIn
set_option linter.unusedVariables false
namespace Go.Proofs.Ytdhhdkncglhgfaa
open Go.RowKit

def valB (x : Int) : Bool := decide (0 ≤ x ∧ x ≤ 255)
def notValB (x : Int) : Bool := !valB x

set_option maxHeartbeats 400000 in
theorem isValue_any (x : Int) (w : World) : Calls Try.prog 99 #[.int .i64 x] w (Ret w (.bool (valB x))) := by
  go_enter Try.func99, Try.ntmps99
  go_wp2
  all_goals (go_ret; exact ⟨ret_bool (by go_light; rw [Bool.eq_iff_iff]; simp [valB]; first | omega | (intros; omega)), (by (repeat' (first | (with_reducible exact Below.refl _ _) | (with_reducible assumption) | (with_reducible refine Below.setCell ?_ ?_ _) | (with_reducible refine Below.al ?_ _) | (with_reducible refine Below.drew ?_) | (with_reducible refine Below.drN ?_ _) | (with_reducible refine Below.step ?_ (by assumption)) | (with_reducible refine Below.alloc ?_ ?_ _))); all_goals (simp; try omega))⟩)
set_option maxHeartbeats 400000 in
theorem isMemory_fn (x : Int) (w : World) : Calls Try.prog 98 #[.int .i64 x] w (Ret w (.bool (notValB x))) := by
  go_enter Try.func98, Try.ntmps98
  go_wp2_with (go_at_call 99; refine (isValue_any _ _).mono ?_; rintro e w1 ⟨rfl, hb1⟩)
  go_ret
  exact ⟨rfl, (by (repeat' (first | (with_reducible exact Below.refl _ _) | (with_reducible assumption) | (with_reducible refine Below.setCell ?_ ?_ _) | (with_reducible refine Below.al ?_ _) | (with_reducible refine Below.drew ?_) | (with_reducible refine Below.drN ?_ _) | (with_reducible refine Below.step ?_ (by assumption)) | (with_reducible refine Below.alloc ?_ ?_ _))); all_goals (simp; try omega))⟩
set_option maxHeartbeats 800000 in
theorem isMemory_idx (A : Option Addr) (c : Nat) (xs : List Int) (w : World) (hr : Rd w w.heap.size .i64 A xs) (hl : xs.length ≤ maxLen) :
    Calls Try.prog 111 #[.slice A xs.length c, .func (.func 98) #[] #[]] w (Ret w (.int .i64 (findI notValB xs))) := by
  unfold maxLen at hl
  go_enter Try.func111, Try.ntmps111
  go_wp2
  go_loopw [8] (fun i wr => ∃ k : Nat, k ≤ xs.length ∧ i = .int .i64 k ∧ Below w.heap.size w wr ∧ Before notValB xs k) (fun i _ => xs.length - (intOf i).toNat)
  case atStart => exact ⟨0, Nat.zero_le _, rfl, Below.refl _ _, fun j hj => absurd hj (by omega)⟩
  case round =>
    obtain ⟨k, hk, rfl, hbl, hbf⟩ := hrel
    by_cases hlt : k < xs.length
    · obtain ⟨ad, y, rfl, _, hcell, HY⟩ := (hr.below hbl).get hlt
      have HB := Lib.hid hbf
      clear hbf
      rcases hp : notValB y with _ | _
      · go_wp2_with (go_at_call 98; refine (isMemory_fn _ _).mono ?_; rintro e w1 ⟨rfl, hb1⟩)
        have HP := Lib.hid hp
        go_roundw
        case rel => exact ⟨k + 1, hlt, by go_num, hbl.step hb1, HB.out.succ HY HP.out⟩
        case measure => simp [intOf]; omega
      · have HR := Lib.hid (findI_hit hlt HY HB.out hp)
        go_wp2_with (go_at_call 98; refine (isMemory_fn _ _).mono ?_; rintro e w1 ⟨rfl, hb1⟩)
        go_ret
        exact ⟨ret_int (by rw [HR.out]), hbl.step hb1⟩
    · obtain rfl : k = xs.length := by omega
      have HR := Lib.hid (findI_miss hbf)
      clear hbf
      go_wp2
      go_ret
      exact ⟨ret_int (by rw [HR.out]), hbl⟩

set_option maxHeartbeats 400000 in
theorem isMemory_has (A : Option Addr) (c : Nat) (xs : List Int) (w : World) (hr : Rd w w.heap.size .i64 A xs) (hl : xs.length ≤ maxLen) :
    Calls Try.prog 97 #[.slice A xs.length c, .func (.func 98) #[] #[]] w (Ret w (.bool (xs.any notValB))) := by
  have HA := Lib.hid (findI_any notValB xs)
  go_enter Try.func97, Try.ntmps97
  go_wp2_with (go_at_call 111; refine (isMemory_idx _ _ _ _ hr hl).mono ?_; rintro e w1 ⟨rfl, hb1⟩)
  go_ret
  exact ⟨ret_bool (by rw [HA.out]), (by (repeat' (first | (with_reducible exact Below.refl _ _) | (with_reducible assumption) | (with_reducible refine Below.setCell ?_ ?_ _) | (with_reducible refine Below.al ?_ _) | (with_reducible refine Below.drew ?_) | (with_reducible refine Below.drN ?_ _) | (with_reducible refine Below.step ?_ (by assumption)) | (with_reducible refine Below.alloc ?_ ?_ _))); all_goals (simp; try omega))⟩

def memB (xs : List Int) : Bool := decide (xs.length ≤ 60) && allB 0 255 xs
theorem notVal_eq : notValB = outB 0 255 := by
  funext x; simp [notValB, valB, outB, inB]

set_option maxHeartbeats 400000 in
theorem isMem_any (A : Option Addr) (c : Nat) (xs : List Int) (w : World) (hr : Rd w w.heap.size .i64 A xs) (hl : xs.length ≤ maxLen) :
    Calls Try.prog 70 #[.slice A xs.length c] w (Ret w (.bool (memB xs))) := by
  have hl2 := hl
  unfold maxLen at hl2
  have H2 := Lib.hid notVal_eq
  by_cases h : xs.length ≤ 60
  · have HR : Hid (memB xs = !xs.any notValB) := by
      show memB xs = _
      rw [notVal_eq]; simp [memB, allB, h]
    go_enter Try.func70, Try.ntmps70
    go_wp2_with (go_at_call 97; refine (isMemory_has _ _ _ _ hr hl).mono ?_; rintro e w1 ⟨rfl, hb1⟩)
    go_ret
    exact ⟨ret_bool (by rw [HR.out]), (by (repeat' (first | (with_reducible exact Below.refl _ _) | (with_reducible assumption) | (with_reducible refine Below.setCell ?_ ?_ _) | (with_reducible refine Below.al ?_ _) | (with_reducible refine Below.drew ?_) | (with_reducible refine Below.drN ?_ _) | (with_reducible refine Below.step ?_ (by assumption)) | (with_reducible refine Below.alloc ?_ ?_ _))); all_goals (simp; try omega))⟩
  · have HR : Hid (memB xs = false) := by
      show memB xs = _
      simp [memB, h]
    go_enter Try.func70, Try.ntmps70
    go_wp2_with fail
    go_ret
    exact ⟨ret_bool (by rw [HR.out]), (by (repeat' (first | (with_reducible exact Below.refl _ _) | (with_reducible assumption) | (with_reducible refine Below.setCell ?_ ?_ _) | (with_reducible refine Below.al ?_ _) | (with_reducible refine Below.drew ?_) | (with_reducible refine Below.drN ?_ _) | (with_reducible refine Below.step ?_ (by assumption)) | (with_reducible refine Below.alloc ?_ ?_ _))); all_goals (simp; try omega))⟩
set_option maxHeartbeats 400000 in
theorem validMem_any (A : Option Addr) (c : Nat) (xs : List Int) (w : World) (hr : Rd w w.heap.size .i64 A xs) (hl : xs.length ≤ maxLen) :
    Calls Try.prog 71 #[.slice A xs.length c] w (Ret w (.bool (memB xs))) := by
  have hl2 := hl
  unfold maxLen at hl2
  by_cases h : xs.length ≤ 60
  · have HR : Hid (memB xs = allB 0 255 xs) := by
      show memB xs = _
      simp [memB, h]
    go_enter Try.func71, Try.ntmps71
    go_wp2_with (go_at_call 100; refine (allIn_any _ _ _ _ _ _ _ hr hl).mono ?_; rintro e w1 ⟨rfl, hb1⟩)
    go_ret
    exact ⟨ret_bool (by rw [HR.out]), (by (repeat' (first | (with_reducible exact Below.refl _ _) | (with_reducible assumption) | (with_reducible refine Below.setCell ?_ ?_ _) | (with_reducible refine Below.al ?_ _) | (with_reducible refine Below.drew ?_) | (with_reducible refine Below.drN ?_ _) | (with_reducible refine Below.step ?_ (by assumption)) | (with_reducible refine Below.alloc ?_ ?_ _))); all_goals (simp; try omega))⟩
  · have HR : Hid (memB xs = false) := by
      show memB xs = _
      simp [memB, h]
    go_enter Try.func71, Try.ntmps71
    go_wp2_with fail
    go_ret
    exact ⟨ret_bool (by rw [HR.out]), (by (repeat' (first | (with_reducible exact Below.refl _ _) | (with_reducible assumption) | (with_reducible refine Below.setCell ?_ ?_ _) | (with_reducible refine Below.al ?_ _) | (with_reducible refine Below.drew ?_) | (with_reducible refine Below.drN ?_ _) | (with_reducible refine Below.step ?_ (by assumption)) | (with_reducible refine Below.alloc ?_ ?_ _))); all_goals (simp; try omega))⟩
set_option maxHeartbeats 400000 in
theorem iValidMemory_any (A : Option Addr) (c : Nat) (xs : List Int) (w : World) (hr : Rd w w.heap.size .i64 A xs) (hl : xs.length ≤ maxLen) : Calls Try.prog 23 #[.slice A xs.length c] w (Ret w (.bool (memB xs))) := by
  go_enter Try.func23, Try.ntmps23
  go_wp2_with (go_at_call 70; refine (isMem_any _ _ _ _ hr hl).mono ?_; rintro e w1 ⟨rfl, hb1⟩)
  go_ret
  exact ⟨rfl, (by (repeat' (first | (with_reducible exact Below.refl _ _) | (with_reducible assumption) | (with_reducible refine Below.setCell ?_ ?_ _) | (with_reducible refine Below.al ?_ _) | (with_reducible refine Below.drew ?_) | (with_reducible refine Below.drN ?_ _) | (with_reducible refine Below.step ?_ (by assumption)) | (with_reducible refine Below.alloc ?_ ?_ _))); all_goals (simp; try omega))⟩
set_option maxHeartbeats 400000 in
theorem sValidMemory_any (A : Option Addr) (c : Nat) (xs : List Int) (w : World) (hr : Rd w w.heap.size .i64 A xs) (hl : xs.length ≤ maxLen) : Calls Try.prog 24 #[.slice A xs.length c] w (Ret w (.bool (memB xs))) := by
  go_enter Try.func24, Try.ntmps24
  go_wp2_with (go_at_call 71; refine (validMem_any _ _ _ _ hr hl).mono ?_; rintro e w1 ⟨rfl, hb1⟩)
  go_ret
  exact ⟨rfl, (by (repeat' (first | (with_reducible exact Below.refl _ _) | (with_reducible assumption) | (with_reducible refine Below.setCell ?_ ?_ _) | (with_reducible refine Below.al ?_ _) | (with_reducible refine Below.drew ?_) | (with_reducible refine Below.drN ?_ _) | (with_reducible refine Below.step ?_ (by assumption)) | (with_reducible refine Below.alloc ?_ ?_ _))); all_goals (simp; try omega))⟩
end Go.Proofs.Ytdhhdkncglhgfaa
