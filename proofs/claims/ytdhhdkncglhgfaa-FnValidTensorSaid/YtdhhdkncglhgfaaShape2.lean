/- The walks over shapes, further: the exported functions that tell of a shape. -/
import Derived.Test.YtdhhdkncglhgfaaShape1
set_option linter.unusedVariables false
namespace Go.Proofs.Ytdhhdkncglhgfaa
open Go.RowKit

def cntS (xs : List Int) : Int := if shapeB xs = true then prod xs else -1
set_option maxHeartbeats 400000 in
theorem sValidShape_any (A : Option Addr) (c : Nat) (xs : List Int) (w : World) (hr : Rd w w.heap.size .i64 A xs) (hl : xs.length ≤ maxLen) : Calls Try.prog 30 #[.slice A xs.length c] w (Ret w (.bool (shapeB xs))) := by
  go_enter Try.func30, Try.ntmps30
  go_wp2_with fail
  (refine (validShape_any _ _ _ _ hr hl).mono ?_; rintro e w1 ⟨rfl, hb1⟩; have r1 := hr.to hb1)
  go_wp2_with fail
  go_ret
  exact ⟨rfl, (by (repeat' (first | (with_reducible exact Below.refl _ _) | (with_reducible assumption) | (with_reducible refine Below.setCell ?_ ?_ _) | (with_reducible refine Below.al ?_ _) | (with_reducible refine Below.drew ?_) | (with_reducible refine Below.drN ?_ _) | (with_reducible refine Below.step ?_ (by assumption)) | (with_reducible refine Below.alloc ?_ ?_ _))); all_goals (simp; try omega))⟩
set_option maxHeartbeats 400000 in
theorem iValidShape_any (A : Option Addr) (c : Nat) (xs : List Int) (w : World) (hr : Rd w w.heap.size .i64 A xs) (hl : xs.length ≤ maxLen) : Calls Try.prog 29 #[.slice A xs.length c] w (Ret w (.bool (shapeB xs))) := by
  go_enter Try.func29, Try.ntmps29
  go_wp2_with fail
  (refine (isShape_any _ _ _ _ _ hr hl).mono ?_; rintro e w1 ⟨rfl, rfl⟩; have r1 := hr)
  go_wp2_with fail
  go_ret
  exact ⟨rfl, (by (repeat' (first | (with_reducible exact Below.refl _ _) | (with_reducible assumption) | (with_reducible refine Below.setCell ?_ ?_ _) | (with_reducible refine Below.al ?_ _) | (with_reducible refine Below.drew ?_) | (with_reducible refine Below.drN ?_ _) | (with_reducible refine Below.step ?_ (by assumption)) | (with_reducible refine Below.alloc ?_ ?_ _))); all_goals (simp; try omega))⟩
set_option maxHeartbeats 400000 in
theorem sCountOf_any (A : Option Addr) (c : Nat) (xs : List Int) (w : World) (hr : Rd w w.heap.size .i64 A xs) (hl : xs.length ≤ maxLen) : Calls Try.prog 34 #[.slice A xs.length c] w (Ret w (.int .i64 (cntS xs))) := by
  rcases hv : shapeB xs with _ | _
  · have HR := Lib.hid (show cntS xs = -1 by simp [cntS, hv])
    go_enter Try.func34, Try.ntmps34
    go_wp2_with fail
    (refine (validShape_any _ _ _ _ hr hl).mono ?_; rintro e w1 ⟨rfl, hb1⟩; have r1 := hr.to hb1)
    rw [hv]
    go_wp2_with fail
    go_ret
    exact ⟨ret_int (by rw [HR.out]), (by (repeat' (first | (with_reducible exact Below.refl _ _) | (with_reducible assumption) | (with_reducible refine Below.setCell ?_ ?_ _) | (with_reducible refine Below.al ?_ _) | (with_reducible refine Below.drew ?_) | (with_reducible refine Below.drN ?_ _) | (with_reducible refine Below.step ?_ (by assumption)) | (with_reducible refine Below.alloc ?_ ?_ _))); all_goals (simp; try omega))⟩
  · have hx := ext_shape hv
    have HR := Lib.hid (show cntS xs = prod xs by simp [cntS, hv])
    go_enter Try.func34, Try.ntmps34
    go_wp2_with fail
    (refine (validShape_any _ _ _ _ hr hl).mono ?_; rintro e w1 ⟨rfl, hb1⟩; have r1 := hr.to hb1)
    rw [hv]
    go_wp2_with fail
    refine (count_any _ _ _ _ _ r1 hx).mono ?_; rintro e w2 ⟨rfl, rfl⟩
    go_wp2_with fail
    go_ret
    exact ⟨ret_int (by rw [HR.out]), (by (repeat' (first | (with_reducible exact Below.refl _ _) | (with_reducible assumption) | (with_reducible refine Below.setCell ?_ ?_ _) | (with_reducible refine Below.al ?_ _) | (with_reducible refine Below.drew ?_) | (with_reducible refine Below.drN ?_ _) | (with_reducible refine Below.step ?_ (by assumption)) | (with_reducible refine Below.alloc ?_ ?_ _))); all_goals (simp; try omega))⟩
set_option maxHeartbeats 400000 in
theorem iCountOf_any (A : Option Addr) (c : Nat) (xs : List Int) (w : World) (hr : Rd w w.heap.size .i64 A xs) (hl : xs.length ≤ maxLen) : Calls Try.prog 31 #[.slice A xs.length c] w (Ret w (.int .i64 (cntS xs))) := by
  rcases hv : shapeB xs with _ | _
  · have HR := Lib.hid (show cntS xs = -1 by simp [cntS, hv])
    go_enter Try.func31, Try.ntmps31
    go_wp2_with fail
    (refine (isShape_any _ _ _ _ _ hr hl).mono ?_; rintro e w1 ⟨rfl, rfl⟩; have r1 := hr)
    rw [hv]
    go_wp2_with fail
    go_ret
    exact ⟨ret_int (by rw [HR.out]), (by (repeat' (first | (with_reducible exact Below.refl _ _) | (with_reducible assumption) | (with_reducible refine Below.setCell ?_ ?_ _) | (with_reducible refine Below.al ?_ _) | (with_reducible refine Below.drew ?_) | (with_reducible refine Below.drN ?_ _) | (with_reducible refine Below.step ?_ (by assumption)) | (with_reducible refine Below.alloc ?_ ?_ _))); all_goals (simp; try omega))⟩
  · have hx := ext_shape hv
    have HR := Lib.hid (show cntS xs = prod xs by simp [cntS, hv])
    go_enter Try.func31, Try.ntmps31
    go_wp2_with fail
    (refine (isShape_any _ _ _ _ _ hr hl).mono ?_; rintro e w1 ⟨rfl, rfl⟩; have r1 := hr)
    rw [hv]
    go_wp2_with fail
    refine (countOf_any _ _ _ _ _ r1 hx).mono ?_; rintro e w2 ⟨rfl, rfl⟩
    go_wp2_with fail
    go_ret
    exact ⟨ret_int (by rw [HR.out]), (by (repeat' (first | (with_reducible exact Below.refl _ _) | (with_reducible assumption) | (with_reducible refine Below.setCell ?_ ?_ _) | (with_reducible refine Below.al ?_ _) | (with_reducible refine Below.drew ?_) | (with_reducible refine Below.drN ?_ _) | (with_reducible refine Below.step ?_ (by assumption)) | (with_reducible refine Below.alloc ?_ ?_ _))); all_goals (simp; try omega))⟩
end Go.Proofs.Ytdhhdkncglhgfaa
