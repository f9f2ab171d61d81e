/- The walks over ranges, further: lengths and sums. -/
import Derived.Test.YtipgopapohigpaaRange1
set_option linter.unusedVariables false
namespace Go.Proofs.Ytipgopapohigpaa
open Go.RowKit

theorem small_of2 {a b c : Int} (h : rangeB a b c = true) : Small a b c := by
  simp [rangeB] at h; unfold Small; omega
def lenR (a b c : Int) : Int := if rangeB a b c = true then (cnt a b c : Int) else -1

set_option maxHeartbeats 400000 in
theorem sLenOf_any (a b c : Int) (w : World) : Calls Try.prog 36 #[.agg #[.int .i64 a, .int .i64 b, .int .i64 c]] w (Ret w (.int .i64 (lenR a b c))) := by
  by_cases hv : rangeB a b c = true
  · have hs := small_of2 hv
    go_enter Try.func36, Try.ntmps36
    go_wp2_with (first
      | (go_at_call 59; refine (validRange_any _ _ _ _).mono ?_; rintro e w1 ⟨rfl, hb1⟩; obtain ⟨hc1, hf1⟩ := bcell hb1)
      | (go_at_call 61; refine (numbers_any _ _ _ hs _).mono ?_; rintro e w2 ⟨A, c', rfl, hown, hb2⟩))
    go_ret
    refine ⟨ret_int (by simp [lenR, hv, nums_length]), (by (repeat' (first | (with_reducible exact Below.refl _ _) | (with_reducible assumption) | (with_reducible refine Below.setCell ?_ ?_ _) | (with_reducible refine Below.al ?_ _) | (with_reducible refine Below.drew ?_) | (with_reducible refine Below.drN ?_ _) | (with_reducible refine Below.step ?_ (by assumption)) | (with_reducible refine Below.alloc ?_ ?_ _))); all_goals (simp; try omega))⟩
  · have hv' : rangeB a b c = false := by simpa using hv
    go_enter Try.func36, Try.ntmps36
    go_wp2_with (go_at_call 59; refine (validRange_any _ _ _ _).mono ?_; rintro e w1 ⟨rfl, hb1⟩; obtain ⟨hc1, hf1⟩ := bcell hb1)
    go_ret
    refine ⟨ret_int (by simp [lenR, hv]), (by (repeat' (first | (with_reducible exact Below.refl _ _) | (with_reducible assumption) | (with_reducible refine Below.setCell ?_ ?_ _) | (with_reducible refine Below.al ?_ _) | (with_reducible refine Below.drew ?_) | (with_reducible refine Below.drN ?_ _) | (with_reducible refine Below.step ?_ (by assumption)) | (with_reducible refine Below.alloc ?_ ?_ _))); all_goals (simp; try omega))⟩
set_option maxHeartbeats 400000 in
theorem iLenOf_any (a b c : Int) (w : World) : Calls Try.prog 21 #[.agg #[.int .i64 a, .int .i64 b, .int .i64 c]] w (Ret w (.int .i64 (lenR a b c))) := by
  by_cases hv : rangeB a b c = true
  · have hs := small_of2 hv
    go_enter Try.func21, Try.ntmps21
    go_wp2_with (first
      | (go_at_call 56; refine (isRange_any _ _ _ _).mono ?_; rintro e w1 ⟨rfl, hb1⟩; obtain ⟨hc1, hf1⟩ := bcell hb1)
      | (go_at_call 58; refine (numbersOf_any _ _ _ hs _).mono ?_; rintro e w2 ⟨A, c', rfl, hown, hb2⟩))
    go_ret
    refine ⟨ret_int (by simp [lenR, hv, nums_length]), (by (repeat' (first | (with_reducible exact Below.refl _ _) | (with_reducible assumption) | (with_reducible refine Below.setCell ?_ ?_ _) | (with_reducible refine Below.al ?_ _) | (with_reducible refine Below.drew ?_) | (with_reducible refine Below.drN ?_ _) | (with_reducible refine Below.step ?_ (by assumption)) | (with_reducible refine Below.alloc ?_ ?_ _))); all_goals (simp; try omega))⟩
  · have hv' : rangeB a b c = false := by simpa using hv
    go_enter Try.func21, Try.ntmps21
    go_wp2_with (go_at_call 56; refine (isRange_any _ _ _ _).mono ?_; rintro e w1 ⟨rfl, hb1⟩; obtain ⟨hc1, hf1⟩ := bcell hb1)
    go_ret
    refine ⟨ret_int (by simp [lenR, hv]), (by (repeat' (first | (with_reducible exact Below.refl _ _) | (with_reducible assumption) | (with_reducible refine Below.setCell ?_ ?_ _) | (with_reducible refine Below.al ?_ _) | (with_reducible refine Below.drew ?_) | (with_reducible refine Below.drN ?_ _) | (with_reducible refine Below.step ?_ (by assumption)) | (with_reducible refine Below.alloc ?_ ?_ _))); all_goals (simp; try omega))⟩

def sumR (a b c : Int) : Int := if rangeB a b c = true then total (nums a b c) else 0

set_option maxHeartbeats 400000 in
theorem sSumOf_any (a b c : Int) (w : World) : Calls Try.prog 42 #[.agg #[.int .i64 a, .int .i64 b, .int .i64 c]] w (Ret w (.int .i64 (sumR a b c))) := by
  by_cases hv : rangeB a b c = true
  · have hs := small_of2 hv
    go_enter Try.func42, Try.ntmps42
    go_wp2_with (first
      | (go_at_call 59; refine (validRange_any _ _ _ _).mono ?_; rintro e w1 ⟨rfl, hb1⟩; obtain ⟨hc1, hf1⟩ := bcell hb1)
      | (go_at_call 61; refine (numbers_any _ _ _ hs _).mono ?_; rintro e w2 ⟨A, c', rfl, hown, hb2⟩))
    have hlen := cnt_le a b c hs
    rw [← nums_length] at hlen
    have hbd := total_take_bd (nums a b c) 2000 (nums_bd a b c hs)
    have hR : sumR a b c = total (nums a b c) := by simp [sumR, hv]
    have HR := Lib.hid hR
    clear hR hc1 hf1 hv
    have hrd := hown.rd
    have hgt := nums_bd a b c hs
    generalize nums a b c = xs at *
    have HG := Lib.hid hgt
    have HB := Lib.hid hbd
    clear hgt hbd
    go_loop [3, 5] (fun n i => ∃ k : Nat, k ≤ xs.length ∧ i = .int .i64 k ∧ n = .int .i64 (total (xs.take k))) (fun _ i => xs.length - (intOf i).toNat)
    case atStart => exact ⟨0, Nat.zero_le _, rfl, rfl⟩
    case round =>
      obtain ⟨k, hk, rfl, rfl⟩ := hrel
      have b1 := HB.out k hk
      by_cases hlt : k < xs.length
      · obtain ⟨ad, y, rfl, _, hcell, HY⟩ := hrd.get hlt
        have b2 := HG.out k hlt
        rw [← HY.out] at b2
        have HS := take_snoc' hlt HY
        go_wp2
        go_round
        case rel => exact ⟨k + 1, hlt, by go_num, by rw [HS.out, total_snoc]⟩
        case measure => simp [intOf]; omega
      · have HT := Lib.hid (take_all xs k (by omega))
        go_wp2
        go_ret
        exact ⟨ret_int (by rw [HR.out, HT.out]), (by (repeat' (first | (with_reducible exact Below.refl _ _) | (with_reducible assumption) | (with_reducible refine Below.setCell ?_ ?_ _) | (with_reducible refine Below.al ?_ _) | (with_reducible refine Below.drew ?_) | (with_reducible refine Below.drN ?_ _) | (with_reducible refine Below.step ?_ (by assumption)) | (with_reducible refine Below.alloc ?_ ?_ _))); all_goals (simp; try omega))⟩
  · have hv' : rangeB a b c = false := by simpa using hv
    go_enter Try.func42, Try.ntmps42
    go_wp2_with (go_at_call 59; refine (validRange_any _ _ _ _).mono ?_; rintro e w1 ⟨rfl, hb1⟩; obtain ⟨hc1, hf1⟩ := bcell hb1)
    go_ret
    exact ⟨ret_int (by simp [sumR, hv]), (by (repeat' (first | (with_reducible exact Below.refl _ _) | (with_reducible assumption) | (with_reducible refine Below.setCell ?_ ?_ _) | (with_reducible refine Below.al ?_ _) | (with_reducible refine Below.drew ?_) | (with_reducible refine Below.drN ?_ _) | (with_reducible refine Below.step ?_ (by assumption)) | (with_reducible refine Below.alloc ?_ ?_ _))); all_goals (simp; try omega))⟩
set_option maxHeartbeats 400000 in
theorem iSumOf_any (a b c : Int) (w : World) : Calls Try.prog 41 #[.agg #[.int .i64 a, .int .i64 b, .int .i64 c]] w (Ret w (.int .i64 (sumR a b c))) := by
  by_cases hv : rangeB a b c = true
  · have hs := small_of2 hv
    go_enter Try.func41, Try.ntmps41
    go_wp2_with (first
      | (go_at_call 56; refine (isRange_any _ _ _ _).mono ?_; rintro e w1 ⟨rfl, hb1⟩; obtain ⟨hc1, hf1⟩ := bcell hb1)
      | (go_at_call 58; refine (numbersOf_any _ _ _ hs _).mono ?_; rintro e w2 ⟨A, c', rfl, hown, hb2⟩))
    have hlen := cnt_le a b c hs
    rw [← nums_length] at hlen
    have hbd := total_take_bd (nums a b c) 2000 (nums_bd a b c hs)
    have hR : sumR a b c = total (nums a b c) := by simp [sumR, hv]
    have HR := Lib.hid hR
    clear hR hc1 hf1 hv
    have hrd := hown.rd
    have hgt := nums_bd a b c hs
    generalize nums a b c = xs at *
    have HG := Lib.hid hgt
    have HB := Lib.hid hbd
    clear hgt hbd
    go_loop [3, 12] (fun n i => ∃ k : Nat, k ≤ xs.length ∧ i = .int .i64 k ∧ n = .int .i64 (total (xs.take k))) (fun _ i => xs.length - (intOf i).toNat)
    case atStart => exact ⟨0, Nat.zero_le _, rfl, rfl⟩
    case round =>
      obtain ⟨k, hk, rfl, rfl⟩ := hrel
      have b1 := HB.out k hk
      by_cases hlt : k < xs.length
      · obtain ⟨ad, y, rfl, _, hcell, HY⟩ := hrd.get hlt
        have b2 := HG.out k hlt
        rw [← HY.out] at b2
        have HS := take_snoc' hlt HY
        go_wp2
        go_round
        case rel => exact ⟨k + 1, hlt, by go_num, by rw [HS.out, total_snoc]⟩
        case measure => simp [intOf]; omega
      · have HT := Lib.hid (take_all xs k (by omega))
        go_wp2
        go_ret
        exact ⟨ret_int (by rw [HR.out, HT.out]), (by (repeat' (first | (with_reducible exact Below.refl _ _) | (with_reducible assumption) | (with_reducible refine Below.setCell ?_ ?_ _) | (with_reducible refine Below.al ?_ _) | (with_reducible refine Below.drew ?_) | (with_reducible refine Below.drN ?_ _) | (with_reducible refine Below.step ?_ (by assumption)) | (with_reducible refine Below.alloc ?_ ?_ _))); all_goals (simp; try omega))⟩
  · have hv' : rangeB a b c = false := by simpa using hv
    go_enter Try.func41, Try.ntmps41
    go_wp2_with (go_at_call 56; refine (isRange_any _ _ _ _).mono ?_; rintro e w1 ⟨rfl, hb1⟩; obtain ⟨hc1, hf1⟩ := bcell hb1)
    go_ret
    exact ⟨ret_int (by simp [sumR, hv]), (by (repeat' (first | (with_reducible exact Below.refl _ _) | (with_reducible assumption) | (with_reducible refine Below.setCell ?_ ?_ _) | (with_reducible refine Below.al ?_ _) | (with_reducible refine Below.drew ?_) | (with_reducible refine Below.drN ?_ _) | (with_reducible refine Below.step ?_ (by assumption)) | (with_reducible refine Below.alloc ?_ ?_ _))); all_goals (simp; try omega))⟩
end Go.Proofs.Ytipgopapohigpaa
