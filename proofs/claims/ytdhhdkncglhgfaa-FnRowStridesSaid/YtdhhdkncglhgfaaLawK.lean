/- The walks of the exact laws over shapes that return strides. -/
import Derived.Test.YtdhhdkncglhgfaaShape3
set_option linter.unusedVariables false
namespace Go.Proofs.Ytdhhdkncglhgfaa
open Go.RowKit

def rowR (xs : List Int) : List Int := if shapeB xs = true then rowS xs else []
def colR (xs : List Int) : List Int := if shapeB xs = true then colS xs else []
set_option maxHeartbeats 800000 in
theorem sRowStrides_any (A : Option Addr) (c : Nat) (xs : List Int) (w : World) (hr : Rd w w.heap.size .i64 A xs) (hl : xs.length ≤ maxLen) (hcap : xs.length ≤ c) : Calls Try.prog 47 #[.slice A xs.length c] w (RetInts w (rowR xs)) := by
  rcases hv : shapeB xs with _ | _
  · have HR := Lib.hid (show rowR xs = [] by simp [rowR, hv])
    rw [HR.out]
    go_enter Try.func47, Try.ntmps47
    go_wp2_with fail
    (refine (validShape_any _ _ _ _ hr hl).mono ?_; rintro e w1 ⟨rfl, hb1⟩; have r1 := hr.to hb1)
    rw [hv]
    go_wp2_with fail
    go_ret
    exact ⟨none, 0, rfl, Own.nil _ _, (by (repeat' (first | (with_reducible exact Below.refl _ _) | (with_reducible assumption) | (with_reducible refine Below.setCell ?_ ?_ _) | (with_reducible refine Below.al ?_ _) | (with_reducible refine Below.drew ?_) | (with_reducible refine Below.drN ?_ _) | (with_reducible refine Below.step ?_ (by assumption)) | (with_reducible refine Below.alloc ?_ ?_ _))); all_goals (simp; try omega))⟩
  · have hx := ext_shape hv
    have HR := Lib.hid (show rowR xs = rowS xs by simp [rowR, hv])
    rw [HR.out]
    go_enter Try.func47, Try.ntmps47
    go_wp2_with fail
    (refine (validShape_any _ _ _ _ hr hl).mono ?_; rintro e w1 ⟨rfl, hb1⟩; have r1 := hr.to hb1)
    rw [hv]
    go_wp2_with fail
    refine (sRowStrides_in _ _ _ _ r1 hx hcap).mono ?_; rintro e w2 ⟨A2, c2, rfl, ho2, hb2⟩
    have hz := hb1.size
    go_wp2_with fail
    go_ret
    exact ⟨A2, c2, rfl, ho2.mono hz, (by (repeat' (first | (with_reducible exact Below.refl _ _) | (with_reducible assumption) | (with_reducible refine Below.setCell ?_ ?_ _) | (with_reducible refine Below.al ?_ _) | (with_reducible refine Below.drew ?_) | (with_reducible refine Below.drN ?_ _) | (with_reducible refine Below.step ?_ (by assumption)) | (with_reducible refine Below.alloc ?_ ?_ _))); all_goals (simp; try omega))⟩
set_option maxHeartbeats 800000 in
theorem iRowStrides_any (A : Option Addr) (c : Nat) (xs : List Int) (w : World) (hr : Rd w w.heap.size .i64 A xs) (hl : xs.length ≤ maxLen) (hcap : xs.length ≤ c) : Calls Try.prog 46 #[.slice A xs.length c] w (RetInts w (rowR xs)) := by
  rcases hv : shapeB xs with _ | _
  · have HR := Lib.hid (show rowR xs = [] by simp [rowR, hv])
    rw [HR.out]
    go_enter Try.func46, Try.ntmps46
    go_wp2_with fail
    (refine (isShape_any _ _ _ _ _ hr hl).mono ?_; rintro e w1 ⟨rfl, rfl⟩; have hb1 := Below.refl w.heap.size w; have r1 := hr)
    rw [hv]
    go_wp2_with fail
    go_ret
    exact ⟨none, 0, rfl, Own.nil _ _, (by (repeat' (first | (with_reducible exact Below.refl _ _) | (with_reducible assumption) | (with_reducible refine Below.setCell ?_ ?_ _) | (with_reducible refine Below.al ?_ _) | (with_reducible refine Below.drew ?_) | (with_reducible refine Below.drN ?_ _) | (with_reducible refine Below.step ?_ (by assumption)) | (with_reducible refine Below.alloc ?_ ?_ _))); all_goals (simp; try omega))⟩
  · have hx := ext_shape hv
    have HR := Lib.hid (show rowR xs = rowS xs by simp [rowR, hv])
    rw [HR.out]
    go_enter Try.func46, Try.ntmps46
    go_wp2_with fail
    (refine (isShape_any _ _ _ _ _ hr hl).mono ?_; rintro e w1 ⟨rfl, rfl⟩; have hb1 := Below.refl w.heap.size w; have r1 := hr)
    rw [hv]
    go_wp2_with fail
    refine (iRowStrides_in _ _ _ _ r1 hx hcap).mono ?_; rintro e w2 ⟨A2, c2, rfl, ho2, hb2⟩
    have hz := hb1.size
    go_wp2_with fail
    go_ret
    exact ⟨A2, c2, rfl, ho2.mono hz, (by (repeat' (first | (with_reducible exact Below.refl _ _) | (with_reducible assumption) | (with_reducible refine Below.setCell ?_ ?_ _) | (with_reducible refine Below.al ?_ _) | (with_reducible refine Below.drew ?_) | (with_reducible refine Below.drN ?_ _) | (with_reducible refine Below.step ?_ (by assumption)) | (with_reducible refine Below.alloc ?_ ?_ _))); all_goals (simp; try omega))⟩
set_option maxHeartbeats 800000 in
theorem sColStrides_any (A : Option Addr) (c : Nat) (xs : List Int) (w : World) (hr : Rd w w.heap.size .i64 A xs) (hl : xs.length ≤ maxLen) (hcap : xs.length ≤ c) : Calls Try.prog 53 #[.slice A xs.length c] w (RetInts w (colR xs)) := by
  rcases hv : shapeB xs with _ | _
  · have HR := Lib.hid (show colR xs = [] by simp [colR, hv])
    rw [HR.out]
    go_enter Try.func53, Try.ntmps53
    go_wp2_with fail
    (refine (validShape_any _ _ _ _ hr hl).mono ?_; rintro e w1 ⟨rfl, hb1⟩; have r1 := hr.to hb1)
    rw [hv]
    go_wp2_with fail
    go_ret
    exact ⟨none, 0, rfl, Own.nil _ _, (by (repeat' (first | (with_reducible exact Below.refl _ _) | (with_reducible assumption) | (with_reducible refine Below.setCell ?_ ?_ _) | (with_reducible refine Below.al ?_ _) | (with_reducible refine Below.drew ?_) | (with_reducible refine Below.drN ?_ _) | (with_reducible refine Below.step ?_ (by assumption)) | (with_reducible refine Below.alloc ?_ ?_ _))); all_goals (simp; try omega))⟩
  · have hx := ext_shape hv
    have HR := Lib.hid (show colR xs = colS xs by simp [colR, hv])
    rw [HR.out]
    go_enter Try.func53, Try.ntmps53
    go_wp2_with fail
    (refine (validShape_any _ _ _ _ hr hl).mono ?_; rintro e w1 ⟨rfl, hb1⟩; have r1 := hr.to hb1)
    rw [hv]
    go_wp2_with fail
    refine (sColStrides_in _ _ _ _ r1 hx hcap).mono ?_; rintro e w2 ⟨A2, c2, rfl, ho2, hb2⟩
    have hz := hb1.size
    go_wp2_with fail
    go_ret
    exact ⟨A2, c2, rfl, ho2.mono hz, (by (repeat' (first | (with_reducible exact Below.refl _ _) | (with_reducible assumption) | (with_reducible refine Below.setCell ?_ ?_ _) | (with_reducible refine Below.al ?_ _) | (with_reducible refine Below.drew ?_) | (with_reducible refine Below.drN ?_ _) | (with_reducible refine Below.step ?_ (by assumption)) | (with_reducible refine Below.alloc ?_ ?_ _))); all_goals (simp; try omega))⟩
set_option maxHeartbeats 800000 in
theorem iColStrides_any (A : Option Addr) (c : Nat) (xs : List Int) (w : World) (hr : Rd w w.heap.size .i64 A xs) (hl : xs.length ≤ maxLen) (hcap : xs.length ≤ c) : Calls Try.prog 52 #[.slice A xs.length c] w (RetInts w (colR xs)) := by
  rcases hv : shapeB xs with _ | _
  · have HR := Lib.hid (show colR xs = [] by simp [colR, hv])
    rw [HR.out]
    go_enter Try.func52, Try.ntmps52
    go_wp2_with fail
    (refine (isShape_any _ _ _ _ _ hr hl).mono ?_; rintro e w1 ⟨rfl, rfl⟩; have hb1 := Below.refl w.heap.size w; have r1 := hr)
    rw [hv]
    go_wp2_with fail
    go_ret
    exact ⟨none, 0, rfl, Own.nil _ _, (by (repeat' (first | (with_reducible exact Below.refl _ _) | (with_reducible assumption) | (with_reducible refine Below.setCell ?_ ?_ _) | (with_reducible refine Below.al ?_ _) | (with_reducible refine Below.drew ?_) | (with_reducible refine Below.drN ?_ _) | (with_reducible refine Below.step ?_ (by assumption)) | (with_reducible refine Below.alloc ?_ ?_ _))); all_goals (simp; try omega))⟩
  · have hx := ext_shape hv
    have HR := Lib.hid (show colR xs = colS xs by simp [colR, hv])
    rw [HR.out]
    go_enter Try.func52, Try.ntmps52
    go_wp2_with fail
    (refine (isShape_any _ _ _ _ _ hr hl).mono ?_; rintro e w1 ⟨rfl, rfl⟩; have hb1 := Below.refl w.heap.size w; have r1 := hr)
    rw [hv]
    go_wp2_with fail
    refine (iColStrides_in _ _ _ _ r1 hx hcap).mono ?_; rintro e w2 ⟨A2, c2, rfl, ho2, hb2⟩
    have hz := hb1.size
    go_wp2_with fail
    go_ret
    exact ⟨A2, c2, rfl, ho2.mono hz, (by (repeat' (first | (with_reducible exact Below.refl _ _) | (with_reducible assumption) | (with_reducible refine Below.setCell ?_ ?_ _) | (with_reducible refine Below.al ?_ _) | (with_reducible refine Below.drew ?_) | (with_reducible refine Below.drN ?_ _) | (with_reducible refine Below.step ?_ (by assumption)) | (with_reducible refine Below.alloc ?_ ?_ _))); all_goals (simp; try omega))⟩

end Go.Proofs.Ytdhhdkncglhgfaa
