/- The walks over tensors: what is one (the calls of the reference that leave the world as it was). -/
import Derived.Test.YtdhhdkncglhgfaaShape1
import Derived.Test.YtdhhdkncglhgfaaMem
import Derived.BigQuiet
set_option linter.unusedVariables false
namespace Go.Proofs.Ytdhhdkncglhgfaa
open Go.RowKit
set_option maxHeartbeats 800000 in
theorem allIn_same (A : Option Addr) (c B : Nat) (xs : List Int) (l h : Int) (w : World) (hr : Rd w B .i64 A xs) (hl : xs.length ≤ maxLen) :
    Calls Try.prog 100 #[.slice A xs.length c, .int .i64 l, .int .i64 h] w fun e w' => e = .returned (.bool (allB l h xs)) ∧ w = w' := by
  unfold maxLen at hl
  go_enter Try.func100, Try.ntmps100
  go_wp2
  go_loop [7] (fun i => ∃ k : Nat, k ≤ xs.length ∧ i = .int .i64 k ∧ Before (outB l h) xs k) (fun i => xs.length - (intOf i).toNat)
  case atStart => exact ⟨0, Nat.zero_le _, rfl, fun j hj => absurd hj (by omega)⟩
  case round =>
    obtain ⟨k, hk, rfl, hbf⟩ := hrel
    have HB := Lib.hid hbf
    clear hbf
    by_cases hlt : k < xs.length
    · obtain ⟨ad, y, rfl, _, hcell, HY⟩ := hr.get hlt
      rcases hp : inB y l h with _ | _
      · have HR : Hid (allB l h xs = false) := by
          have := any_hit (p := outB l h) hlt HY (by simp [outB, hp])
          show allB l h xs = false
          simp [allB, this]
        go_wp2_with (go_at_call 67; refine (inRange_any _ _ _ _).mono ?_; rintro e w' ⟨rfl, rfl⟩)
        go_ret
        exact ⟨ret_bool (by rw [HR.out]), rfl⟩
      · have HP := Lib.hid (show outB l h y = false by simp [outB, hp])
        go_wp2_with (go_at_call 67; refine (inRange_any _ _ _ _).mono ?_; rintro e w' ⟨rfl, rfl⟩)
        go_round
        case rel => exact ⟨k + 1, hlt, by go_num, HB.out.succ HY HP.out⟩
        case measure => simp [intOf]; omega
    · obtain rfl : k = xs.length := by omega
      have HR : Hid (allB l h xs = true) := by
        have := any_miss HB.out
        show allB l h xs = true
        simp [allB, this]
      go_wp2
      go_ret
      exact ⟨ret_bool (by rw [HR.out]), rfl⟩
set_option maxHeartbeats 800000 in
theorem validShape_same (A : Option Addr) (c : Nat) (xs : List Int) (w : World) (hr : Rd w w.heap.size .i64 A xs) (hl : xs.length ≤ maxLen) :
    Calls Try.prog 77 #[.slice A xs.length c] w fun e w' => e = .returned (.bool (shapeB xs)) ∧ w = w' := by
  have hl2 := hl
  unfold maxLen at hl2
  by_cases h4 : xs.length ≤ 4
  · rcases ha : allB 0 60 xs with _ | _
    · have HR := Lib.hid (show shapeB xs = false by simp [shapeB, ha])
      go_enter Try.func77, Try.ntmps77
      go_wp2_with fail
      refine (allIn_same _ _ _ _ _ _ _ hr hl).mono ?_; rintro e w1 ⟨rfl, rfl⟩
      rw [ha]
      go_wp2_with fail
      go_ret
      exact ⟨ret_bool (by rw [HR.out]), rfl⟩
    · have hx := ext_of h4 ha
      have HR := Lib.hid (show shapeB xs = decide (prod xs ≤ 60) by simp [shapeB, ha, h4])
      go_enter Try.func77, Try.ntmps77
      go_wp2_with fail
      refine (allIn_same _ _ _ _ _ _ _ hr hl).mono ?_; rintro e w1 ⟨rfl, rfl⟩
      rw [ha]
      have hr1 := hr
      go_wp2_with fail
      refine (count_any _ _ _ _ _ hr1 hx).mono ?_; rintro e w2 ⟨rfl, rfl⟩
      go_wp2_with fail
      go_ret
      exact ⟨ret_bool (by rw [HR.out]), rfl⟩
  · have HR := Lib.hid (show shapeB xs = false by simp [shapeB, h4])
    go_enter Try.func77, Try.ntmps77
    go_wp2_with fail
    go_ret
    exact ⟨ret_bool (by rw [HR.out]), rfl⟩

def tensB (xs vs : List Int) : Bool := shapeB xs && (decide ((vs.length : Int) = prod xs) && allB (-1000000) 1000000 vs)

set_option maxHeartbeats 1600000 in
theorem validTensor_any (A A' : Option Addr) (c c' : Nat) (xs vs : List Int) (w : World) (h0 : Rd w w.heap.size .i64 A xs) (h0' : Rd w w.heap.size .i64 A' vs) (hl : xs.length ≤ maxLen) (hl' : vs.length ≤ maxLen) :
    Calls Try.prog 88 #[.agg #[.slice A xs.length c, .slice A' vs.length c']] w (Ret w (.bool (tensB xs vs))) := by
  have hl2 := hl
  have hl2' := hl'
  unfold maxLen at hl2 hl2'
  have hr := (h0.alloc (Nat.le_refl _) (.cells #[.slice A xs.length c, .slice A' vs.length c'] 49)).more (B' := (w.alloc (.cells #[.slice A xs.length c, .slice A' vs.length c'] 49)).heap.size) (by simp)
  have hr' := (h0'.alloc (Nat.le_refl _) (.cells #[.slice A xs.length c, .slice A' vs.length c'] 49)).more (B' := (w.alloc (.cells #[.slice A xs.length c, .slice A' vs.length c'] 49)).heap.size) (by simp)
  rcases hv : shapeB xs with _ | _
  · have HR := Lib.hid (show tensB xs vs = false by simp [tensB, hv])
    go_enter Try.func88, Try.ntmps88
    go_wp2_with fail
    go_quiet ((first | (go_at_call 77; exact Calls.quiet_of_same ((validShape_same _ _ _ _ (hr.drewN _) hl).mono fun _ _ h => ⟨h.1.trans (by rw [hv]), h.2.symm⟩))))
    go_wp2_with fail
    go_ret
    exact ⟨ret_bool (by rw [HR.out]), (by (repeat' (first | (with_reducible exact Below.refl _ _) | (with_reducible assumption) | (with_reducible refine Below.setCell ?_ ?_ _) | (with_reducible refine Below.al ?_ _) | (with_reducible refine Below.drew ?_) | (with_reducible refine Below.drN ?_ _) | (with_reducible refine Below.step ?_ (by assumption)) | (with_reducible refine Below.alloc ?_ ?_ _))); all_goals (simp; try omega))⟩
  · have hx := ext_shape hv
    by_cases hc : (vs.length : Int) = prod xs
    · have HR := Lib.hid (show tensB xs vs = allB (-1000000) 1000000 vs by simp [tensB, hv, hc])
      go_enter Try.func88, Try.ntmps88
      go_wp2_with fail
      go_quiet ((first | (go_at_call 77; exact Calls.quiet_of_same ((validShape_same _ _ _ _ (hr.drewN _) hl).mono fun _ _ h => ⟨h.1.trans (by rw [hv]), h.2.symm⟩)) | (go_at_call 79; exact Calls.quiet_of_same ((count_any _ _ _ _ _ (hr.drewN _) hx).mono fun _ _ h => ⟨h.1, h.2.symm⟩)) | (go_at_call 100; exact Calls.quiet_of_same ((allIn_same _ _ _ _ _ _ _ (hr'.drewN _) hl').mono fun _ _ h => ⟨h.1, h.2.symm⟩))))
      go_wp2_with fail
      go_ret
      exact ⟨ret_bool (by rw [HR.out]), (by (repeat' (first | (with_reducible exact Below.refl _ _) | (with_reducible assumption) | (with_reducible refine Below.setCell ?_ ?_ _) | (with_reducible refine Below.al ?_ _) | (with_reducible refine Below.drew ?_) | (with_reducible refine Below.drN ?_ _) | (with_reducible refine Below.step ?_ (by assumption)) | (with_reducible refine Below.alloc ?_ ?_ _))); all_goals (simp; try omega))⟩
    · have HR := Lib.hid (show tensB xs vs = false by simp [tensB, hc])
      have hd : decide ((vs.length : Int) = prod xs) = false := by simp [hc]
      have hd' : ((vs.length : Int) == prod xs) = false := by simp [hc]
      go_enter Try.func88, Try.ntmps88
      go_wp2_with fail
      go_quiet ((first | (go_at_call 77; exact Calls.quiet_of_same ((validShape_same _ _ _ _ (hr.drewN _) hl).mono fun _ _ h => ⟨h.1.trans (by rw [hv]), h.2.symm⟩)) | (go_at_call 79; exact Calls.quiet_of_same ((count_any _ _ _ _ _ (hr.drewN _) hx).mono fun _ _ h => ⟨h.1, h.2.symm⟩))))
      go_wp2_with fail
      go_ret
      exact ⟨ret_bool (by rw [HR.out]), (by (repeat' (first | (with_reducible exact Below.refl _ _) | (with_reducible assumption) | (with_reducible refine Below.setCell ?_ ?_ _) | (with_reducible refine Below.al ?_ _) | (with_reducible refine Below.drew ?_) | (with_reducible refine Below.drN ?_ _) | (with_reducible refine Below.step ?_ (by assumption)) | (with_reducible refine Below.alloc ?_ ?_ _))); all_goals (simp; try omega))⟩

def badEntry (x : Int) : Bool := decide (x < -1000000 ∨ 1000000 < x)
theorem badEntry_eq : badEntry = outB (-1000000) 1000000 := by
  funext x
  rw [Bool.eq_iff_iff]
  simp [badEntry, outB, inB]
set_option maxHeartbeats 400000 in
theorem isTensor_fn (x : Int) (w : World) : Calls Try.prog 106 #[.int .i64 x] w (Ret w (.bool (badEntry x))) := by
  go_enter Try.func106, Try.ntmps106
  go_wp2
  all_goals (go_ret; exact ⟨ret_bool (by go_light; rw [Bool.eq_iff_iff]; first | (simp [badEntry]; done) | (simp [badEntry]; omega) | (simp [badEntry]; intros; omega)), (by (repeat' (first | (with_reducible exact Below.refl _ _) | (with_reducible assumption) | (with_reducible refine Below.setCell ?_ ?_ _) | (with_reducible refine Below.al ?_ _) | (with_reducible refine Below.drew ?_) | (with_reducible refine Below.drN ?_ _) | (with_reducible refine Below.step ?_ (by assumption)) | (with_reducible refine Below.alloc ?_ ?_ _))); all_goals (simp; try omega))⟩)
set_option maxHeartbeats 800000 in
theorem isTensor_idx (A : Option Addr) (c : Nat) (xs : List Int) (w : World) (hr : Rd w w.heap.size .i64 A xs) (hl : xs.length ≤ maxLen) :
    Calls Try.prog 111 #[.slice A xs.length c, .func (.func 106) #[] #[]] w (Ret w (.int .i64 (findI badEntry xs))) := by
  unfold maxLen at hl
  go_enter Try.func111, Try.ntmps111
  go_wp2
  go_loopw [8] (fun i wr => ∃ k : Nat, k ≤ xs.length ∧ i = .int .i64 k ∧ Below w.heap.size w wr ∧ Before badEntry xs k) (fun i _ => xs.length - (intOf i).toNat)
  case atStart => exact ⟨0, Nat.zero_le _, rfl, Below.refl _ _, fun j hj => absurd hj (by omega)⟩
  case round =>
    obtain ⟨k, hk, rfl, hbl, hbf⟩ := hrel
    by_cases hlt : k < xs.length
    · obtain ⟨ad, y, rfl, _, hcell, HY⟩ := (hr.below hbl).get hlt
      have HB := Lib.hid hbf
      clear hbf
      rcases hp : badEntry y with _ | _
      · go_wp2_with (go_at_call 106; refine (isTensor_fn _ _).mono ?_; rintro e w1 ⟨rfl, hb1⟩)
        have HP := Lib.hid hp
        go_roundw
        case rel => exact ⟨k + 1, hlt, by go_num, hbl.step hb1, HB.out.succ HY HP.out⟩
        case measure => simp [intOf]; omega
      · have HR := Lib.hid (findI_hit hlt HY HB.out hp)
        go_wp2_with (go_at_call 106; refine (isTensor_fn _ _).mono ?_; rintro e w1 ⟨rfl, hb1⟩)
        go_ret
        exact ⟨ret_int (by rw [HR.out]), hbl.step hb1⟩
    · obtain rfl : k = xs.length := by omega
      have HR := Lib.hid (findI_miss hbf)
      clear hbf
      go_wp2
      go_ret
      exact ⟨ret_int (by rw [HR.out]), hbl⟩

set_option maxHeartbeats 400000 in
theorem isTensor_has (A : Option Addr) (c : Nat) (xs : List Int) (w : World) (hr : Rd w w.heap.size .i64 A xs) (hl : xs.length ≤ maxLen) :
    Calls Try.prog 97 #[.slice A xs.length c, .func (.func 106) #[] #[]] w (Ret w (.bool (xs.any badEntry))) := by
  have HA := Lib.hid (findI_any badEntry xs)
  go_enter Try.func97, Try.ntmps97
  go_wp2_with (go_at_call 111; refine (isTensor_idx _ _ _ _ hr hl).mono ?_; rintro e w1 ⟨rfl, hb1⟩)
  go_ret
  exact ⟨ret_bool (by rw [HA.out]), (by (repeat' (first | (with_reducible exact Below.refl _ _) | (with_reducible assumption) | (with_reducible refine Below.setCell ?_ ?_ _) | (with_reducible refine Below.al ?_ _) | (with_reducible refine Below.drew ?_) | (with_reducible refine Below.drN ?_ _) | (with_reducible refine Below.step ?_ (by assumption)) | (with_reducible refine Below.alloc ?_ ?_ _))); all_goals (simp; try omega))⟩

set_option maxHeartbeats 1600000 in
theorem isTensor_any (A A' : Option Addr) (c c' : Nat) (xs vs : List Int) (w : World) (h0 : Rd w w.heap.size .i64 A xs) (h0' : Rd w w.heap.size .i64 A' vs) (hl : xs.length ≤ maxLen) (hl' : vs.length ≤ maxLen) :
    Calls Try.prog 87 #[.agg #[.slice A xs.length c, .slice A' vs.length c']] w (Ret w (.bool (tensB xs vs))) := by
  have hl2 := hl
  have hl2' := hl'
  unfold maxLen at hl2 hl2'
  have hr := (h0.alloc (Nat.le_refl _) (.cells #[.slice A xs.length c, .slice A' vs.length c'] 49)).more (B' := (w.alloc (.cells #[.slice A xs.length c, .slice A' vs.length c'] 49)).heap.size) (by simp)
  have hr' := (h0'.alloc (Nat.le_refl _) (.cells #[.slice A xs.length c, .slice A' vs.length c'] 49)).more (B' := (w.alloc (.cells #[.slice A xs.length c, .slice A' vs.length c'] 49)).heap.size) (by simp)
  rcases hv : shapeB xs with _ | _
  · have HR := Lib.hid (show tensB xs vs = false by simp [tensB, hv])
    go_enter Try.func87, Try.ntmps87
    go_wp2_with fail
    go_quiet ((first | (go_at_call 76; exact Calls.quiet_of_same ((isShape_any _ _ _ _ _ (hr.drewN _) hl).mono fun _ _ h => ⟨h.1.trans (by rw [hv]), h.2.symm⟩))))
    go_wp2_with fail
    go_ret
    exact ⟨ret_bool (by rw [HR.out]), (by (repeat' (first | (with_reducible exact Below.refl _ _) | (with_reducible assumption) | (with_reducible refine Below.setCell ?_ ?_ _) | (with_reducible refine Below.al ?_ _) | (with_reducible refine Below.drew ?_) | (with_reducible refine Below.drN ?_ _) | (with_reducible refine Below.step ?_ (by assumption)) | (with_reducible refine Below.alloc ?_ ?_ _))); all_goals (simp; try omega))⟩
  · have hx := ext_shape hv
    by_cases hc : (vs.length : Int) = prod xs
    · have HR := Lib.hid (show tensB xs vs = !vs.any badEntry by simp [tensB, hv, hc, allB, badEntry_eq])
      go_enter Try.func87, Try.ntmps87
      go_wp2_with fail
      go_quiet ((first | (go_at_call 76; exact Calls.quiet_of_same ((isShape_any _ _ _ _ _ (hr.drewN _) hl).mono fun _ _ h => ⟨h.1.trans (by rw [hv]), h.2.symm⟩)) | (go_at_call 78; exact Calls.quiet_of_same ((countOf_any _ _ _ _ _ (hr.drewN _) hx).mono fun _ _ h => ⟨h.1, h.2.symm⟩))))
      go_wp2_with (go_at_call 97; refine (isTensor_has _ _ _ _ (hr'.drewN _) hl').mono ?_; rintro e w1 ⟨rfl, hb1⟩)
      go_ret
      exact ⟨ret_bool (by rw [HR.out]), (by (repeat' (first | (with_reducible exact Below.refl _ _) | (with_reducible assumption) | (with_reducible refine Below.setCell ?_ ?_ _) | (with_reducible refine Below.al ?_ _) | (with_reducible refine Below.drew ?_) | (with_reducible refine Below.drN ?_ _) | (with_reducible refine Below.step ?_ (by assumption)) | (with_reducible refine Below.alloc ?_ ?_ _))); all_goals (simp; try omega))⟩
    · have HR := Lib.hid (show tensB xs vs = false by simp [tensB, hc])
      have hd : decide ((vs.length : Int) = prod xs) = false := by simp [hc]
      have hd' : ((vs.length : Int) != prod xs) = true := by simp [hc]
      go_enter Try.func87, Try.ntmps87
      go_wp2_with fail
      go_quiet ((first | (go_at_call 76; exact Calls.quiet_of_same ((isShape_any _ _ _ _ _ (hr.drewN _) hl).mono fun _ _ h => ⟨h.1.trans (by rw [hv]), h.2.symm⟩)) | (go_at_call 78; exact Calls.quiet_of_same ((countOf_any _ _ _ _ _ (hr.drewN _) hx).mono fun _ _ h => ⟨h.1, h.2.symm⟩))))
      go_wp2_with fail
      go_ret
      exact ⟨ret_bool (by rw [HR.out]), (by (repeat' (first | (with_reducible exact Below.refl _ _) | (with_reducible assumption) | (with_reducible refine Below.setCell ?_ ?_ _) | (with_reducible refine Below.al ?_ _) | (with_reducible refine Below.drew ?_) | (with_reducible refine Below.drN ?_ _) | (with_reducible refine Below.step ?_ (by assumption)) | (with_reducible refine Below.alloc ?_ ?_ _))); all_goals (simp; try omega))⟩
end Go.Proofs.Ytdhhdkncglhgfaa
