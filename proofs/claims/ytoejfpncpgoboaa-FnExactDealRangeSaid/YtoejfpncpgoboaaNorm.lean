/- The walks to the normal form of a range: searches in a list, a list in reverse, the normal form of the numbers of a progression. -/
import Derived.Test.YtoejfpncpgoboaaFunc
set_option linter.unusedVariables false
namespace Go.Proofs.Ytoejfpncpgoboaa
open Go.RowKit
attribute [local go_sem] addBlock

def isX (x y : Int) : Bool := decide (y = x)

set_option maxHeartbeats 800000 in
theorem index_any (A : Option Addr) (c B : Nat) (xs : List Int) (x : Int) (w : World) (hr : Rd w B .i64 A xs) (hl : xs.length ≤ maxLen) :
    Calls Try.prog 49 #[.slice A xs.length c, .int .i64 x] w fun e w' => e = .returned (.int .i64 (findI (isX x) xs)) ∧ w = w' := by
  unfold maxLen at hl
  go_enter Try.func49, Try.ntmps49
  go_wp2
  go_loop [8] (fun i => ∃ k : Nat, k ≤ xs.length ∧ i = .int .i64 k ∧ Before (isX x) xs k) (fun i => xs.length - (intOf i).toNat)
  case atStart => exact ⟨0, Nat.zero_le _, rfl, fun j hj => absurd hj (by omega)⟩
  case round =>
    obtain ⟨k, hk, rfl, hbf⟩ := hrel
    have HB := Lib.hid hbf
    clear hbf
    by_cases hlt : k < xs.length
    · obtain ⟨ad, y, rfl, _, hcell, HY⟩ := hr.get hlt
      by_cases hp : y = x
      · subst hp
        have HR := Lib.hid (findI_hit (p := isX y) hlt HY HB.out (by simp [isX]))
        go_wp2
        go_ret
        exact ⟨ret_int (by rw [HR.out]), rfl⟩
      · have HP := Lib.hid (show isX x y = false by simp [isX, hp])
        have hq : (x==y) = false := by simp; omega
        clear hp
        go_wp2
        go_round
        case rel => exact ⟨k + 1, hlt, by go_num, HB.out.succ HY HP.out⟩
        case measure => simp [intOf]; omega
    · obtain rfl : k = xs.length := by omega
      have HR := Lib.hid (findI_miss HB.out)
      go_wp2
      go_ret
      exact ⟨ret_int (by rw [HR.out]), rfl⟩
set_option maxHeartbeats 800000 in
theorem placeIn_any (A : Option Addr) (c B : Nat) (xs : List Int) (x : Int) (w : World) (hr : Rd w B .i64 A xs) (hl : xs.length ≤ maxLen) :
    Calls Try.prog 48 #[.slice A xs.length c, .int .i64 x] w fun e w' => e = .returned (.int .i64 (findI (isX x) xs)) ∧ w = w' := by
  unfold maxLen at hl
  go_enter Try.func48, Try.ntmps48
  go_wp2
  go_loop [5] (fun i => ∃ k : Nat, k ≤ xs.length ∧ i = .int .i64 k ∧ Before (isX x) xs k) (fun i => xs.length - (intOf i).toNat)
  case atStart => exact ⟨0, Nat.zero_le _, rfl, fun j hj => absurd hj (by omega)⟩
  case round =>
    obtain ⟨k, hk, rfl, hbf⟩ := hrel
    have HB := Lib.hid hbf
    clear hbf
    by_cases hlt : k < xs.length
    · obtain ⟨ad, y, rfl, _, hcell, HY⟩ := hr.get hlt
      by_cases hp : y = x
      · subst hp
        have HR := Lib.hid (findI_hit (p := isX y) hlt HY HB.out (by simp [isX]))
        go_wp2
        go_ret
        exact ⟨ret_int (by rw [HR.out]), rfl⟩
      · have HP := Lib.hid (show isX x y = false by simp [isX, hp])
        have hq : (y==x) = false := by simp; omega
        clear hp
        go_wp2
        go_round
        case rel => exact ⟨k + 1, hlt, by go_num, HB.out.succ HY HP.out⟩
        case measure => simp [intOf]; omega
    · obtain rfl : k = xs.length := by omega
      have HR := Lib.hid (findI_miss HB.out)
      go_wp2
      go_ret
      exact ⟨ret_int (by rw [HR.out]), rfl⟩

/-- The normal form of the range with some numbers, which are a progression. -/
def nrmA (xs : List Int) : Int := if xs.length = 0 then 0 else xs.getD 0 0
def nrmB (xs : List Int) : Int := if xs.length = 0 then 0 else if xs.length = 1 then xs.getD 0 0 + 1 else if xs.getD 1 0 - xs.getD 0 0 < 0 then xs.getD (xs.length - 1) 0 - 1 else xs.getD (xs.length - 1) 0 + 1
def nrmC (xs : List Int) : Int := if xs.length < 2 then 1 else xs.getD 1 0 - xs.getD 0 0
/-- Numbers that are small enough for sums. -/
def SmallL (xs : List Int) : Prop := ∀ j, j < xs.length → -1000000000 ≤ xs.getD j 0 ∧ xs.getD j 0 ≤ 1000000000
theorem SmallL.get {xs : List Int} (h : SmallL xs) {j : Nat} {y : Int} (hj : j < xs.length) (hy : Hid (y = xs.getD j 0)) : -1000000000 ≤ y ∧ y ≤ 1000000000 := by rw [hy.out]; exact h j hj

set_option maxHeartbeats 800000 in
theorem normalOf_any (A : Option Addr) (c : Nat) (xs : List Int) (w : World) (hr : Rd w w.heap.size .i64 A xs) (hl : xs.length ≤ 2000000000) (hs : SmallL xs) :
    Calls Try.prog 55 #[.slice A xs.length c] w (Ret w (.agg #[.int .i64 (nrmA xs), .int .i64 (nrmB xs), .int .i64 (nrmC xs)])) := by
  rcases (show xs.length = 0 ∨ xs.length = 1 ∨ 2 ≤ xs.length by omega) with h | h | h
  · have HA : Hid (nrmA xs = 0) := by show _ = _; simp [nrmA, h]
    have HB : Hid (nrmB xs = 0) := by show _ = _; simp [nrmB, h]
    have HC : Hid (nrmC xs = 1) := by show _ = _; simp [nrmC, h]
    generalize nrmA xs = a at *
    generalize nrmB xs = b at *
    generalize nrmC xs = cc at *
    obtain rfl := HA.out
    obtain rfl := HB.out
    obtain rfl := HC.out
    rw [h]
    clear h hr hs
    go_enter Try.func55, Try.ntmps55
    go_wp2
    exact bodyPost_ret (v := .agg #[.int .i64 0, .int .i64 0, .int .i64 1]) (by simp [results, Try.results55, go_sem]) rfl ⟨rfl, (by (repeat' (first | (with_reducible exact Below.refl _ _) | (with_reducible assumption) | (with_reducible refine Below.setCell ?_ ?_ _) | (with_reducible refine Below.al ?_ _) | (with_reducible refine Below.drew ?_) | (with_reducible refine Below.drN ?_ _) | (with_reducible refine Below.step ?_ (by assumption)) | (with_reducible refine Below.alloc ?_ ?_ _))); all_goals (simp; try omega))⟩
  · obtain ⟨ad, y, rfl, hbk, hcell, HY⟩ := hr.get (j := 0) (by omega)
    rw [addZero] at hcell
    have bd := hs.get (by omega) HY
    have HA : Hid (nrmA xs = y) := by show _ = _; rw [HY.out]; simp [nrmA, h]
    have HB : Hid (nrmB xs = y + 1) := by show _ = _; rw [HY.out]; simp [nrmB, h]
    have HC : Hid (nrmC xs = 1) := by show _ = _; simp [nrmC, h]
    generalize nrmA xs = a at *
    generalize nrmB xs = b at *
    generalize nrmC xs = cc at *
    obtain rfl := HA.out
    obtain rfl := HB.out
    obtain rfl := HC.out
    rw [h]
    clear h hr hs
    go_enter Try.func55, Try.ntmps55
    go_wp2
    go_region
    all_goals go_wp2
    all_goals exact bodyPost_ret (v := .agg #[.int .i64 a, .int .i64 (a + 1), .int .i64 1]) (by simp [results, Try.results55, go_sem]) rfl ⟨rfl, (by (repeat' (first | (with_reducible exact Below.refl _ _) | (with_reducible assumption) | (with_reducible refine Below.setCell ?_ ?_ _) | (with_reducible refine Below.al ?_ _) | (with_reducible refine Below.drew ?_) | (with_reducible refine Below.drN ?_ _) | (with_reducible refine Below.step ?_ (by assumption)) | (with_reducible refine Below.alloc ?_ ?_ _))); all_goals (simp; try omega))⟩
  · obtain ⟨ad, y, rfl, hbk, hcell, HY⟩ := hr.get (j := 0) (by omega)
    obtain ⟨_, y1, e1, _, hcell1, HY1⟩ := hr.get (j := 1) (by omega)
    obtain ⟨_, y2, e2, _, hcell2, HY2⟩ := hr.get (j := xs.length - 1) (by omega)
    obtain rfl := Option.some.inj e1
    obtain rfl := Option.some.inj e2
    clear e1 e2
    rw [addZero] at hcell
    have hcell1' := hcell1
    rw [addLit] at hcell1
    have bd := hs.get (by omega) HY
    have bd1 := hs.get (by omega) HY1
    have bd2 := hs.get (by omega) HY2
    have HA : Hid (nrmA xs = y) := by show _ = _; rw [HY.out, nrmA, if_neg (by omega)]
    have HB : Hid (nrmB xs = if y1 - y < 0 then y2 - 1 else y2 + 1) := by show _ = _; rw [HY.out, HY1.out, HY2.out, nrmB, if_neg (by omega), if_neg (by omega)]
    have HC : Hid (nrmC xs = y1 - y) := by show _ = _; rw [HY.out, HY1.out, nrmC, if_neg (by omega)]
    generalize nrmA xs = a at *
    generalize nrmB xs = b at *
    generalize nrmC xs = cc at *
    obtain rfl := HA.out
    obtain ⟨n, hn⟩ : ∃ n, n = xs.length := ⟨_, rfl⟩
    rw [← hn] at hcell2 h hl ⊢
    clear hr hs hn HY HY1 HY2
    obtain ⟨q, hq⟩ : ∃ q, w = q := ⟨_, rfl⟩
    have i1 : (0 : Int) ≤ (n : Int) - 1 := by omega
    have i2 : (n : Int) - 1 < (n : Int) := by omega
    have i3 : (1 : Int) < (n : Int) := by omega
    have i4 : (0 : Int) < (n : Int) := by omega
    have i5 : ((n : Int) - 1).toNat = n - 1 := by omega
    have hc2 : cc = y1 - a := HC.out
    subst hc2
    by_cases hneg : y1 - a < 0
    · have hb2 : b = y2 - 1 := by have := HB.out; rwa [if_pos hneg] at this
      subst hb2
      clear HB HC hq
      go_enter Try.func55, Try.ntmps55
      (go_wp2; go_region; all_goals go_wp2)
      all_goals exact bodyPost_ret (v := .agg #[.int .i64 a, .int .i64 (y2 - 1), .int .i64 (y1 - a)]) (by simp [results, Try.results55, go_sem] <;> omega) rfl ⟨rfl, (by (repeat' (first | (with_reducible exact Below.refl _ _) | (with_reducible assumption) | (with_reducible refine Below.setCell ?_ ?_ _) | (with_reducible refine Below.al ?_ _) | (with_reducible refine Below.drew ?_) | (with_reducible refine Below.drN ?_ _) | (with_reducible refine Below.step ?_ (by assumption)) | (with_reducible refine Below.alloc ?_ ?_ _))); all_goals (simp; try omega))⟩
    · have hb2 : b = y2 + 1 := by have := HB.out; rwa [if_neg hneg] at this
      subst hb2
      clear HB HC hq
      go_enter Try.func55, Try.ntmps55
      (go_wp2; go_region; all_goals go_wp2)
      all_goals exact bodyPost_ret (v := .agg #[.int .i64 a, .int .i64 (y2 + 1), .int .i64 (y1 - a)]) (by simp [results, Try.results55, go_sem] <;> omega) rfl ⟨rfl, (by (repeat' (first | (with_reducible exact Below.refl _ _) | (with_reducible assumption) | (with_reducible refine Below.setCell ?_ ?_ _) | (with_reducible refine Below.al ?_ _) | (with_reducible refine Below.drew ?_) | (with_reducible refine Below.drN ?_ _) | (with_reducible refine Below.step ?_ (by assumption)) | (with_reducible refine Below.alloc ?_ ?_ _))); all_goals (simp; try omega))⟩
set_option maxHeartbeats 800000 in
theorem normal_any (A : Option Addr) (c : Nat) (xs : List Int) (w : World) (hr : Rd w w.heap.size .i64 A xs) (hl : xs.length ≤ 2000000000) (hs : SmallL xs) :
    Calls Try.prog 54 #[.slice A xs.length c] w (Ret w (.agg #[.int .i64 (nrmA xs), .int .i64 (nrmB xs), .int .i64 (nrmC xs)])) := by
  rcases (show xs.length = 0 ∨ xs.length = 1 ∨ 2 ≤ xs.length by omega) with h | h | h
  · have HA : Hid (nrmA xs = 0) := by show _ = _; simp [nrmA, h]
    have HB : Hid (nrmB xs = 0) := by show _ = _; simp [nrmB, h]
    have HC : Hid (nrmC xs = 1) := by show _ = _; simp [nrmC, h]
    generalize nrmA xs = a at *
    generalize nrmB xs = b at *
    generalize nrmC xs = cc at *
    obtain rfl := HA.out
    obtain rfl := HB.out
    obtain rfl := HC.out
    rw [h]
    clear h hr hs
    go_enter Try.func54, Try.ntmps54
    go_wp2
    exact bodyPost_ret (v := .agg #[.int .i64 0, .int .i64 0, .int .i64 1]) (by simp [results, Try.results54, go_sem]) rfl ⟨rfl, (by (repeat' (first | (with_reducible exact Below.refl _ _) | (with_reducible assumption) | (with_reducible refine Below.setCell ?_ ?_ _) | (with_reducible refine Below.al ?_ _) | (with_reducible refine Below.drew ?_) | (with_reducible refine Below.drN ?_ _) | (with_reducible refine Below.step ?_ (by assumption)) | (with_reducible refine Below.alloc ?_ ?_ _))); all_goals (simp; try omega))⟩
  · obtain ⟨ad, y, rfl, hbk, hcell, HY⟩ := hr.get (j := 0) (by omega)
    rw [addZero] at hcell
    have bd := hs.get (by omega) HY
    have HA : Hid (nrmA xs = y) := by show _ = _; rw [HY.out]; simp [nrmA, h]
    have HB : Hid (nrmB xs = y + 1) := by show _ = _; rw [HY.out]; simp [nrmB, h]
    have HC : Hid (nrmC xs = 1) := by show _ = _; simp [nrmC, h]
    generalize nrmA xs = a at *
    generalize nrmB xs = b at *
    generalize nrmC xs = cc at *
    obtain rfl := HA.out
    obtain rfl := HB.out
    obtain rfl := HC.out
    rw [h]
    clear h hr hs
    go_enter Try.func54, Try.ntmps54
    go_wp2
    go_region
    all_goals go_wp2
    all_goals exact bodyPost_ret (v := .agg #[.int .i64 a, .int .i64 (a + 1), .int .i64 1]) (by simp [results, Try.results54, go_sem]) rfl ⟨rfl, (by (repeat' (first | (with_reducible exact Below.refl _ _) | (with_reducible assumption) | (with_reducible refine Below.setCell ?_ ?_ _) | (with_reducible refine Below.al ?_ _) | (with_reducible refine Below.drew ?_) | (with_reducible refine Below.drN ?_ _) | (with_reducible refine Below.step ?_ (by assumption)) | (with_reducible refine Below.alloc ?_ ?_ _))); all_goals (simp; try omega))⟩
  · obtain ⟨ad, y, rfl, hbk, hcell, HY⟩ := hr.get (j := 0) (by omega)
    obtain ⟨_, y1, e1, _, hcell1, HY1⟩ := hr.get (j := 1) (by omega)
    obtain ⟨_, y2, e2, _, hcell2, HY2⟩ := hr.get (j := xs.length - 1) (by omega)
    obtain rfl := Option.some.inj e1
    obtain rfl := Option.some.inj e2
    clear e1 e2
    rw [addZero] at hcell
    have hcell1' := hcell1
    rw [addLit] at hcell1
    have bd := hs.get (by omega) HY
    have bd1 := hs.get (by omega) HY1
    have bd2 := hs.get (by omega) HY2
    have HA : Hid (nrmA xs = y) := by show _ = _; rw [HY.out, nrmA, if_neg (by omega)]
    have HB : Hid (nrmB xs = if y1 - y < 0 then y2 - 1 else y2 + 1) := by show _ = _; rw [HY.out, HY1.out, HY2.out, nrmB, if_neg (by omega), if_neg (by omega)]
    have HC : Hid (nrmC xs = y1 - y) := by show _ = _; rw [HY.out, HY1.out, nrmC, if_neg (by omega)]
    generalize nrmA xs = a at *
    generalize nrmB xs = b at *
    generalize nrmC xs = cc at *
    obtain rfl := HA.out
    obtain ⟨n, hn⟩ : ∃ n, n = xs.length := ⟨_, rfl⟩
    rw [← hn] at hcell2 h hl ⊢
    clear hr hs hn HY HY1 HY2
    obtain ⟨q, hq⟩ : ∃ q, w = q := ⟨_, rfl⟩
    have i1 : (0 : Int) ≤ (n : Int) - 1 := by omega
    have i2 : (n : Int) - 1 < (n : Int) := by omega
    have i3 : (1 : Int) < (n : Int) := by omega
    have i4 : (0 : Int) < (n : Int) := by omega
    have i5 : ((n : Int) - 1).toNat = n - 1 := by omega
    have hc2 : cc = y1 - a := HC.out
    subst hc2
    by_cases hneg : y1 - a < 0
    · have hb2 : b = y2 - 1 := by have := HB.out; rwa [if_pos hneg] at this
      subst hb2
      clear HB HC hq
      go_enter Try.func54, Try.ntmps54
      (go_wp2; go_quiet (fail); go_wp2)
      all_goals exact bodyPost_ret (v := .agg #[.int .i64 a, .int .i64 (y2 - 1), .int .i64 (y1 - a)]) (by simp [results, Try.results54, go_sem] <;> omega) rfl ⟨rfl, (by (repeat' (first | (with_reducible exact Below.refl _ _) | (with_reducible assumption) | (with_reducible refine Below.setCell ?_ ?_ _) | (with_reducible refine Below.al ?_ _) | (with_reducible refine Below.drew ?_) | (with_reducible refine Below.drN ?_ _) | (with_reducible refine Below.step ?_ (by assumption)) | (with_reducible refine Below.alloc ?_ ?_ _))); all_goals (simp; try omega))⟩
    · have hb2 : b = y2 + 1 := by have := HB.out; rwa [if_neg hneg] at this
      subst hb2
      clear HB HC hq
      go_enter Try.func54, Try.ntmps54
      (go_wp2; go_quiet (fail); go_wp2)
      all_goals exact bodyPost_ret (v := .agg #[.int .i64 a, .int .i64 (y2 + 1), .int .i64 (y1 - a)]) (by simp [results, Try.results54, go_sem] <;> omega) rfl ⟨rfl, (by (repeat' (first | (with_reducible exact Below.refl _ _) | (with_reducible assumption) | (with_reducible refine Below.setCell ?_ ?_ _) | (with_reducible refine Below.al ?_ _) | (with_reducible refine Below.drew ?_) | (with_reducible refine Below.drN ?_ _) | (with_reducible refine Below.step ?_ (by assumption)) | (with_reducible refine Below.alloc ?_ ?_ _))); all_goals (simp; try omega))⟩
end Go.Proofs.Ytoejfpncpgoboaa
