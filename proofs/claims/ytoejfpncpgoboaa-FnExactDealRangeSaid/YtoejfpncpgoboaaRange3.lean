/- The walks over ranges, further: the number at an index, the place of a number, the numbers, the normal form. -/
import Derived.Test.YtoejfpncpgoboaaRange1
import Derived.Test.YtoejfpncpgoboaaNorm
set_option linter.unusedVariables false
namespace Go.Proofs.Ytoejfpncpgoboaa
open Go.RowKit

theorem small_of {a b c : Int} (h : rangeB a b c = true) : Small a b c := by
  simp [rangeB] at h; unfold Small; omega
theorem nums_small {a b c : Int} (hs : Small a b c) : SmallL (nums a b c) := fun j hj => by have := nums_bd a b c hs j hj; omega

/-- The number of a list with an index from the beginning or the end. -/
def atR (xs : List Int) (i : Int) : Int := if 0 ≤ i ∧ i < (xs.length : Int) then xs.getD i.toNat 0 else if i < 0 ∧ 0 ≤ i + (xs.length : Int) then xs.getD (i + (xs.length : Int)).toNat 0 else 0
def inR (xs : List Int) (i : Int) : Bool := decide (-(xs.length : Int) ≤ i ∧ i < (xs.length : Int))
def numA (a b c i : Int) : Int := if rangeB a b c = true then atR (nums a b c) i else 0
def numK (a b c i : Int) : Bool := rangeB a b c && inR (nums a b c) i
def plcR (a b c x : Int) : Int := if rangeB a b c = true then findI (isX x) (nums a b c) else -1

set_option maxHeartbeats 400000 in
theorem sNumbersOf_any (a b c : Int) (w : World) : Calls Try.prog 18 #[.agg #[.int .i64 a, .int .i64 b, .int .i64 c]] w (RetInts w (if rangeB a b c = true then nums a b c else [])) := by
  by_cases hv : rangeB a b c = true
  · have hs := small_of hv
    rw [if_pos hv]
    go_enter Try.func18, Try.ntmps18
    go_wp2_with fail
    (refine (validRange_any _ _ _ _).mono ?_; rintro e w1 ⟨rfl, hb1⟩; obtain ⟨hc1, hf1⟩ := bcell hb1)
    go_wp2_with fail
    refine (numbers_any _ _ _ hs _).mono ?_; rintro e w2 ⟨A, c', rfl, hown, hb2⟩
    go_wp2_with fail
    go_ret
    have hz := hb1.size
    simp at hz
    exact ⟨A, c', rfl, hown.mono (by omega), (by (repeat' (first | (with_reducible exact Below.refl _ _) | (with_reducible assumption) | (with_reducible refine Below.setCell ?_ ?_ _) | (with_reducible refine Below.al ?_ _) | (with_reducible refine Below.drew ?_) | (with_reducible refine Below.drN ?_ _) | (with_reducible refine Below.step ?_ (by assumption)) | (with_reducible refine Below.alloc ?_ ?_ _))); all_goals (simp; try omega))⟩
  · have hv' : rangeB a b c = false := by simpa using hv
    rw [if_neg hv]
    go_enter Try.func18, Try.ntmps18
    go_wp2_with fail
    (refine (validRange_any _ _ _ _).mono ?_; rintro e w1 ⟨rfl, hb1⟩; obtain ⟨hc1, hf1⟩ := bcell hb1)
    go_wp2_with fail
    go_ret
    exact ⟨none, 0, rfl, Own.nil _ _, (by (repeat' (first | (with_reducible exact Below.refl _ _) | (with_reducible assumption) | (with_reducible refine Below.setCell ?_ ?_ _) | (with_reducible refine Below.al ?_ _) | (with_reducible refine Below.drew ?_) | (with_reducible refine Below.drN ?_ _) | (with_reducible refine Below.step ?_ (by assumption)) | (with_reducible refine Below.alloc ?_ ?_ _))); all_goals (simp; try omega))⟩
set_option maxHeartbeats 400000 in
theorem iNumbersOf_any (a b c : Int) (w : World) : Calls Try.prog 19 #[.agg #[.int .i64 a, .int .i64 b, .int .i64 c]] w (RetInts w (if rangeB a b c = true then nums a b c else [])) := by
  by_cases hv : rangeB a b c = true
  · have hs := small_of hv
    rw [if_pos hv]
    go_enter Try.func19, Try.ntmps19
    go_wp2_with fail
    (refine (isRange_any _ _ _ _).mono ?_; rintro e w1 ⟨rfl, hb1⟩; obtain ⟨hc1, hf1⟩ := bcell hb1)
    go_wp2_with fail
    refine (numbersOf_any _ _ _ hs _).mono ?_; rintro e w2 ⟨A, c', rfl, hown, hb2⟩
    go_wp2_with fail
    go_ret
    have hz := hb1.size
    simp at hz
    exact ⟨A, c', rfl, hown.mono (by omega), (by (repeat' (first | (with_reducible exact Below.refl _ _) | (with_reducible assumption) | (with_reducible refine Below.setCell ?_ ?_ _) | (with_reducible refine Below.al ?_ _) | (with_reducible refine Below.drew ?_) | (with_reducible refine Below.drN ?_ _) | (with_reducible refine Below.step ?_ (by assumption)) | (with_reducible refine Below.alloc ?_ ?_ _))); all_goals (simp; try omega))⟩
  · have hv' : rangeB a b c = false := by simpa using hv
    rw [if_neg hv]
    go_enter Try.func19, Try.ntmps19
    go_wp2_with fail
    (refine (isRange_any _ _ _ _).mono ?_; rintro e w1 ⟨rfl, hb1⟩; obtain ⟨hc1, hf1⟩ := bcell hb1)
    go_wp2_with fail
    go_ret
    exact ⟨none, 0, rfl, Own.nil _ _, (by (repeat' (first | (with_reducible exact Below.refl _ _) | (with_reducible assumption) | (with_reducible refine Below.setCell ?_ ?_ _) | (with_reducible refine Below.al ?_ _) | (with_reducible refine Below.drew ?_) | (with_reducible refine Below.drN ?_ _) | (with_reducible refine Below.step ?_ (by assumption)) | (with_reducible refine Below.alloc ?_ ?_ _))); all_goals (simp; try omega))⟩

set_option maxHeartbeats 400000 in
theorem sPlaceOf_any (a b c x : Int) (w : World) : Calls Try.prog 16 #[.agg #[.int .i64 a, .int .i64 b, .int .i64 c], .int .i64 x] w (Ret w (.int .i64 (plcR a b c x))) := by
  by_cases hv : rangeB a b c = true
  · have hs := small_of hv
    have HR := Lib.hid (show plcR a b c x = findI (isX x) (nums a b c) by simp [plcR, hv])
    have hl : (nums a b c).length ≤ maxLen := by rw [nums_length]; have := cnt_le a b c hs; simp only [maxLen]; omega
    go_enter Try.func16, Try.ntmps16
    go_wp2_with fail
    (refine (validRange_any _ _ _ _).mono ?_; rintro e w1 ⟨rfl, hb1⟩; obtain ⟨hc1, hf1⟩ := bcell hb1)
    go_wp2_with fail
    refine (numbers_any _ _ _ hs _).mono ?_; rintro e w2 ⟨A, c', rfl, hown, hb2⟩; have r2 := hown.rd
    go_wp2_with fail
    refine (placeIn_any _ _ _ _ _ _ r2 hl).mono ?_; rintro e w3 ⟨rfl, rfl⟩
    go_wp2_with fail
    go_ret
    exact ⟨ret_int (by rw [HR.out]), (by (repeat' (first | (with_reducible exact Below.refl _ _) | (with_reducible assumption) | (with_reducible refine Below.setCell ?_ ?_ _) | (with_reducible refine Below.al ?_ _) | (with_reducible refine Below.drew ?_) | (with_reducible refine Below.drN ?_ _) | (with_reducible refine Below.step ?_ (by assumption)) | (with_reducible refine Below.alloc ?_ ?_ _))); all_goals (simp; try omega))⟩
  · have hv' : rangeB a b c = false := by simpa using hv
    have HR := Lib.hid (show plcR a b c x = -1 by simp [plcR, hv])
    go_enter Try.func16, Try.ntmps16
    go_wp2_with fail
    (refine (validRange_any _ _ _ _).mono ?_; rintro e w1 ⟨rfl, hb1⟩; obtain ⟨hc1, hf1⟩ := bcell hb1)
    go_wp2_with fail
    go_ret
    exact ⟨ret_int (by rw [HR.out]), (by (repeat' (first | (with_reducible exact Below.refl _ _) | (with_reducible assumption) | (with_reducible refine Below.setCell ?_ ?_ _) | (with_reducible refine Below.al ?_ _) | (with_reducible refine Below.drew ?_) | (with_reducible refine Below.drN ?_ _) | (with_reducible refine Below.step ?_ (by assumption)) | (with_reducible refine Below.alloc ?_ ?_ _))); all_goals (simp; try omega))⟩
set_option maxHeartbeats 400000 in
theorem iPlaceOf_any (a b c x : Int) (w : World) : Calls Try.prog 17 #[.agg #[.int .i64 a, .int .i64 b, .int .i64 c], .int .i64 x] w (Ret w (.int .i64 (plcR a b c x))) := by
  by_cases hv : rangeB a b c = true
  · have hs := small_of hv
    have HR := Lib.hid (show plcR a b c x = findI (isX x) (nums a b c) by simp [plcR, hv])
    have hl : (nums a b c).length ≤ maxLen := by rw [nums_length]; have := cnt_le a b c hs; simp only [maxLen]; omega
    go_enter Try.func17, Try.ntmps17
    go_wp2_with fail
    (refine (isRange_any _ _ _ _).mono ?_; rintro e w1 ⟨rfl, hb1⟩; obtain ⟨hc1, hf1⟩ := bcell hb1)
    go_wp2_with fail
    refine (numbersOf_any _ _ _ hs _).mono ?_; rintro e w2 ⟨A, c', rfl, hown, hb2⟩; have r2 := hown.rd
    go_wp2_with fail
    refine (index_any _ _ _ _ _ _ r2 hl).mono ?_; rintro e w3 ⟨rfl, rfl⟩
    go_wp2_with fail
    go_ret
    exact ⟨ret_int (by rw [HR.out]), (by (repeat' (first | (with_reducible exact Below.refl _ _) | (with_reducible assumption) | (with_reducible refine Below.setCell ?_ ?_ _) | (with_reducible refine Below.al ?_ _) | (with_reducible refine Below.drew ?_) | (with_reducible refine Below.drN ?_ _) | (with_reducible refine Below.step ?_ (by assumption)) | (with_reducible refine Below.alloc ?_ ?_ _))); all_goals (simp; try omega))⟩
  · have hv' : rangeB a b c = false := by simpa using hv
    have HR := Lib.hid (show plcR a b c x = -1 by simp [plcR, hv])
    go_enter Try.func17, Try.ntmps17
    go_wp2_with fail
    (refine (isRange_any _ _ _ _).mono ?_; rintro e w1 ⟨rfl, hb1⟩; obtain ⟨hc1, hf1⟩ := bcell hb1)
    go_wp2_with fail
    go_ret
    exact ⟨ret_int (by rw [HR.out]), (by (repeat' (first | (with_reducible exact Below.refl _ _) | (with_reducible assumption) | (with_reducible refine Below.setCell ?_ ?_ _) | (with_reducible refine Below.al ?_ _) | (with_reducible refine Below.drew ?_) | (with_reducible refine Below.drN ?_ _) | (with_reducible refine Below.step ?_ (by assumption)) | (with_reducible refine Below.alloc ?_ ?_ _))); all_goals (simp; try omega))⟩

set_option maxHeartbeats 800000 in
theorem sNormalRange_any (a b c : Int) (w : World) : Calls Try.prog 25 #[.agg #[.int .i64 a, .int .i64 b, .int .i64 c]] w (Ret w (if rangeB a b c = true then .agg #[.int .i64 (nrmA (nums a b c)), .int .i64 (nrmB (nums a b c)), .int .i64 (nrmC (nums a b c))] else .agg #[.int .i64 0, .int .i64 0, .int .i64 0])) := by
  by_cases hv : rangeB a b c = true
  · have hs := small_of hv
    have hl : (nums a b c).length ≤ 2000000000 := by rw [nums_length]; have := cnt_le a b c hs; omega
    have hsm := nums_small hs
    rw [if_pos hv]
    go_enter Try.func25, Try.ntmps25
    go_wp2_with fail
    (refine (validRange_any _ _ _ _).mono ?_; rintro e w1 ⟨rfl, hb1⟩; obtain ⟨hc1, hf1⟩ := bcell hb1)
    go_wp2_with fail
    refine (numbers_any _ _ _ hs _).mono ?_; rintro e w2 ⟨A, c', rfl, hown, hb2⟩; have r2 := hown.rd
    go_wp2_with fail
    refine (normal_any _ _ _ _ r2 hl hsm).mono ?_; rintro e w3 ⟨rfl, hb3⟩; have g3 := (hb1.step hb2).step hb3
    clear hc1 hf1
    obtain ⟨hc3, hf3⟩ := bcell g3
    go_wp2_with fail
    exact bodyPost_ret (v := .agg #[.int .i64 (nrmA (nums a b c)), .int .i64 (nrmB (nums a b c)), .int .i64 (nrmC (nums a b c))]) (by simp [results, Try.results25, go_sem, hc3]) rfl ⟨rfl, (by (repeat' (first | (with_reducible exact Below.refl _ _) | (with_reducible assumption) | (with_reducible refine Below.setCell ?_ ?_ _) | (with_reducible refine Below.al ?_ _) | (with_reducible refine Below.drew ?_) | (with_reducible refine Below.drN ?_ _) | (with_reducible refine Below.step ?_ (by assumption)) | (with_reducible refine Below.alloc ?_ ?_ _))); all_goals (simp; try omega))⟩
  · have hv' : rangeB a b c = false := by simpa using hv
    rw [if_neg hv]
    go_enter Try.func25, Try.ntmps25
    go_wp2_with fail
    (refine (validRange_any _ _ _ _).mono ?_; rintro e w1 ⟨rfl, hb1⟩; obtain ⟨hc1, hf1⟩ := bcell hb1)
    go_wp2_with fail
    exact bodyPost_ret (v := .agg #[.int .i64 0, .int .i64 0, .int .i64 0]) (by simp [results, Try.results25, go_sem, hc1]) rfl ⟨rfl, (by (repeat' (first | (with_reducible exact Below.refl _ _) | (with_reducible assumption) | (with_reducible refine Below.setCell ?_ ?_ _) | (with_reducible refine Below.al ?_ _) | (with_reducible refine Below.drew ?_) | (with_reducible refine Below.drN ?_ _) | (with_reducible refine Below.step ?_ (by assumption)) | (with_reducible refine Below.alloc ?_ ?_ _))); all_goals (simp; try omega))⟩
set_option maxHeartbeats 800000 in
theorem iNormalRange_any (a b c : Int) (w : World) : Calls Try.prog 26 #[.agg #[.int .i64 a, .int .i64 b, .int .i64 c]] w (Ret w (if rangeB a b c = true then .agg #[.int .i64 (nrmA (nums a b c)), .int .i64 (nrmB (nums a b c)), .int .i64 (nrmC (nums a b c))] else .agg #[.int .i64 0, .int .i64 0, .int .i64 0])) := by
  by_cases hv : rangeB a b c = true
  · have hs := small_of hv
    have hl : (nums a b c).length ≤ 2000000000 := by rw [nums_length]; have := cnt_le a b c hs; omega
    have hsm := nums_small hs
    rw [if_pos hv]
    go_enter Try.func26, Try.ntmps26
    go_wp2_with fail
    (refine (isRange_any _ _ _ _).mono ?_; rintro e w1 ⟨rfl, hb1⟩; obtain ⟨hc1, hf1⟩ := bcell hb1)
    go_wp2_with fail
    refine (numbersOf_any _ _ _ hs _).mono ?_; rintro e w2 ⟨A, c', rfl, hown, hb2⟩; have r2 := hown.rd
    go_wp2_with fail
    refine (normalOf_any _ _ _ _ r2 hl hsm).mono ?_; rintro e w3 ⟨rfl, hb3⟩; have g3 := (hb1.step hb2).step hb3
    clear hc1 hf1
    obtain ⟨hc3, hf3⟩ := bcell g3
    go_wp2_with fail
    exact bodyPost_ret (v := .agg #[.int .i64 (nrmA (nums a b c)), .int .i64 (nrmB (nums a b c)), .int .i64 (nrmC (nums a b c))]) (by simp [results, Try.results26, go_sem, hc3]) rfl ⟨rfl, (by (repeat' (first | (with_reducible exact Below.refl _ _) | (with_reducible assumption) | (with_reducible refine Below.setCell ?_ ?_ _) | (with_reducible refine Below.al ?_ _) | (with_reducible refine Below.drew ?_) | (with_reducible refine Below.drN ?_ _) | (with_reducible refine Below.step ?_ (by assumption)) | (with_reducible refine Below.alloc ?_ ?_ _))); all_goals (simp; try omega))⟩
  · have hv' : rangeB a b c = false := by simpa using hv
    rw [if_neg hv]
    go_enter Try.func26, Try.ntmps26
    go_wp2_with fail
    (refine (isRange_any _ _ _ _).mono ?_; rintro e w1 ⟨rfl, hb1⟩; obtain ⟨hc1, hf1⟩ := bcell hb1)
    go_wp2_with fail
    exact bodyPost_ret (v := .agg #[.int .i64 0, .int .i64 0, .int .i64 0]) (by simp [results, Try.results26, go_sem, hc1]) rfl ⟨rfl, (by (repeat' (first | (with_reducible exact Below.refl _ _) | (with_reducible assumption) | (with_reducible refine Below.setCell ?_ ?_ _) | (with_reducible refine Below.al ?_ _) | (with_reducible refine Below.drew ?_) | (with_reducible refine Below.drN ?_ _) | (with_reducible refine Below.step ?_ (by assumption)) | (with_reducible refine Below.alloc ?_ ?_ _))); all_goals (simp; try omega))⟩

theorem atR_pos {xs : List Int} {i : Int} (h : 0 ≤ i) (h2 : i < (xs.length : Int)) : atR xs i = xs.getD i.toNat 0 := by rw [atR, if_pos ⟨h, h2⟩]
theorem atR_neg {xs : List Int} {i : Int} (h : i < 0) (h2 : 0 ≤ i + (xs.length : Int)) : atR xs i = xs.getD (i + (xs.length : Int)).toNat 0 := by rw [atR, if_neg (by omega), if_pos ⟨h, h2⟩]
theorem atR_out {xs : List Int} {i : Int} (h : i + (xs.length : Int) < 0 ∨ (xs.length : Int) ≤ i) : atR xs i = 0 := by rw [atR, if_neg (by omega), if_neg (by omega)]
theorem inR_yes {xs : List Int} {i : Int} (h : 0 ≤ i + (xs.length : Int)) (h2 : i < (xs.length : Int)) : inR xs i = true := by simp [inR]; omega
theorem inR_no {xs : List Int} {i : Int} (h : i + (xs.length : Int) < 0 ∨ (xs.length : Int) ≤ i) : inR xs i = false := by simp [inR]; omega
theorem ret_two {a b : Int} {p q : Bool} (h1 : a = b) (h2 : p = q) : Ending.returned (.tuple #[.int .i64 a, .bool p]) = .returned (.tuple #[.int .i64 b, .bool q]) := by rw [h1, h2]

set_option maxHeartbeats 1600000 in
theorem sNumberAt_any (a b c i : Int) (w : World) (hi : -9223372036854775808 ≤ i) (hi' : i ≤ 9223372036854775807) : Calls Try.prog 13 #[.agg #[.int .i64 a, .int .i64 b, .int .i64 c], .int .i64 i] w (Ret w (.tuple #[.int .i64 (numA a b c i), .bool (numK a b c i)])) := by
  by_cases hv : rangeB a b c = true
  · have hs := small_of hv
    have HA := Lib.hid (show numA a b c i = atR (nums a b c) i by simp [numA, hv])
    have HK := Lib.hid (show numK a b c i = inR (nums a b c) i by simp [numK, hv])
    have hl : (nums a b c).length ≤ 3000 := by rw [nums_length]; exact cnt_le a b c hs
    have inr1 : ∀ l : Nat, i + (l : Int) < 0 ∨ (l : Int) ≤ i → l ≤ 3000 → inB i (-(l : Int)) ((l : Int) - 1) = false := fun l h _ => by simp [inB]; omega
    have inr2 : ∀ l : Nat, 0 ≤ i + (l : Int) → i < (l : Int) → inB i (-(l : Int)) ((l : Int) - 1) = true := fun l h h2 => by simp [inB]; omega
    have I1 := Lib.hid inr1
    have I2 := Lib.hid inr2
    clear inr1 inr2
    go_enter Try.func13, Try.ntmps13
    go_wp2_with fail
    (refine (validRange_any _ _ _ _).mono ?_; rintro e w1 ⟨rfl, hb1⟩; obtain ⟨hc1, hf1⟩ := bcell hb1)
    go_wp2_with fail
    refine (numbers_any _ _ _ hs _).mono ?_; rintro e w2 ⟨A, c', rfl, hown, hb2⟩; have r2 := hown.rd
    clear hc1 hf1 hv
    generalize nums a b c = xs at *
    have hbw : Below w.heap.size w w2 := (by (repeat' (first | (with_reducible exact Below.refl _ _) | (with_reducible assumption) | (with_reducible refine Below.setCell ?_ ?_ _) | (with_reducible refine Below.al ?_ _) | (with_reducible refine Below.drew ?_) | (with_reducible refine Below.drN ?_ _) | (with_reducible refine Below.step ?_ (by assumption)) | (with_reducible refine Below.alloc ?_ ?_ _))); all_goals (simp; try omega))
    clear hb1 hb2 hown
    rcases (show i + (xs.length : Int) < 0 ∨ (xs.length : Int) ≤ i ∨ (0 ≤ i ∧ i < (xs.length : Int)) ∨ (i < 0 ∧ 0 ≤ i + (xs.length : Int)) by omega) with h | h | ⟨h, h2⟩ | ⟨h, h2⟩
    · have j1 := I1.out xs.length (.inl h) hl
      go_wp2_with (go_at_call 45; refine (inRange_any _ _ _ _).mono ?_; rintro e w' ⟨rfl, rfl⟩)
      go_ret2
      exact ⟨ret_two (by rw [HA.out, atR_out (.inl h)]) (by rw [HK.out, inR_no (.inl h)]), hbw⟩
    · have j1 := I1.out xs.length (.inr h) hl
      go_wp2_with (go_at_call 45; refine (inRange_any _ _ _ _).mono ?_; rintro e w' ⟨rfl, rfl⟩)
      go_ret2
      exact ⟨ret_two (by rw [HA.out, atR_out (.inr h)]) (by rw [HK.out, inR_no (.inr h)]), hbw⟩
    · have j1 := I2.out xs.length (by omega) h2
      obtain ⟨ad, y, rfl, _, hcell, HY⟩ := r2.get (j := i.toNat) (by omega)
      go_wp2_with (go_at_call 45; refine (inRange_any _ _ _ _).mono ?_; rintro e w' ⟨rfl, rfl⟩)
      go_ret2
      exact ⟨ret_two (by rw [HA.out, atR_pos h h2]; exact HY.out) (by rw [HK.out, inR_yes (by omega) h2]), hbw⟩
    · have j1 := I2.out xs.length h2 (by omega)
      obtain ⟨ad, y, rfl, _, hcell, HY⟩ := r2.get (j := (i + (xs.length : Int)).toNat) (by omega)
      go_wp2_with (go_at_call 45; refine (inRange_any _ _ _ _).mono ?_; rintro e w' ⟨rfl, rfl⟩)
      go_ret2
      exact ⟨ret_two (by rw [HA.out, atR_neg h h2]; exact HY.out) (by rw [HK.out, inR_yes h2 (by omega)]), hbw⟩
  · have hv' : rangeB a b c = false := by simpa using hv
    have HA := Lib.hid (show numA a b c i = 0 by simp [numA, hv])
    have HK := Lib.hid (show numK a b c i = false by simp [numK, hv'])
    go_enter Try.func13, Try.ntmps13
    go_wp2_with fail
    (refine (validRange_any _ _ _ _).mono ?_; rintro e w1 ⟨rfl, hb1⟩; obtain ⟨hc1, hf1⟩ := bcell hb1)
    go_wp2_with fail
    go_ret2
    exact ⟨ret_two (by rw [HA.out]) (by rw [HK.out]), (by (repeat' (first | (with_reducible exact Below.refl _ _) | (with_reducible assumption) | (with_reducible refine Below.setCell ?_ ?_ _) | (with_reducible refine Below.al ?_ _) | (with_reducible refine Below.drew ?_) | (with_reducible refine Below.drN ?_ _) | (with_reducible refine Below.step ?_ (by assumption)) | (with_reducible refine Below.alloc ?_ ?_ _))); all_goals (simp; try omega))⟩
set_option maxHeartbeats 1600000 in
theorem iNumberAt_any (a b c i : Int) (w : World) (hi : -9223372036854775808 ≤ i) (hi' : i ≤ 9223372036854775807) : Calls Try.prog 15 #[.agg #[.int .i64 a, .int .i64 b, .int .i64 c], .int .i64 i] w (Ret w (.tuple #[.int .i64 (numA a b c i), .bool (numK a b c i)])) := by
  by_cases hv : rangeB a b c = true
  · have hs := small_of hv
    have HA := Lib.hid (show numA a b c i = atR (nums a b c) i by simp [numA, hv])
    have HK := Lib.hid (show numK a b c i = inR (nums a b c) i by simp [numK, hv])
    have hl : (nums a b c).length ≤ 3000 := by rw [nums_length]; exact cnt_le a b c hs
    have inr1 : ∀ l : Nat, i + (l : Int) < 0 ∨ (l : Int) ≤ i → l ≤ 3000 → inB i (-(l : Int)) ((l : Int) - 1) = false := fun l h _ => by simp [inB]; omega
    have inr2 : ∀ l : Nat, 0 ≤ i + (l : Int) → i < (l : Int) → inB i (-(l : Int)) ((l : Int) - 1) = true := fun l h h2 => by simp [inB]; omega
    have I1 := Lib.hid inr1
    have I2 := Lib.hid inr2
    clear inr1 inr2
    go_enter Try.func15, Try.ntmps15
    go_wp2_with fail
    (refine (isRange_any _ _ _ _).mono ?_; rintro e w1 ⟨rfl, hb1⟩; obtain ⟨hc1, hf1⟩ := bcell hb1)
    go_wp2_with fail
    refine (numbersOf_any _ _ _ hs _).mono ?_; rintro e w2 ⟨A, c', rfl, hown, hb2⟩; have r2 := hown.rd
    clear hc1 hf1 hv
    generalize nums a b c = xs at *
    have hbw : Below w.heap.size w w2 := (by (repeat' (first | (with_reducible exact Below.refl _ _) | (with_reducible assumption) | (with_reducible refine Below.setCell ?_ ?_ _) | (with_reducible refine Below.al ?_ _) | (with_reducible refine Below.drew ?_) | (with_reducible refine Below.drN ?_ _) | (with_reducible refine Below.step ?_ (by assumption)) | (with_reducible refine Below.alloc ?_ ?_ _))); all_goals (simp; try omega))
    clear hb1 hb2 hown
    rcases (show i + (xs.length : Int) < 0 ∨ (xs.length : Int) ≤ i ∨ (0 ≤ i ∧ i < (xs.length : Int)) ∨ (i < 0 ∧ 0 ≤ i + (xs.length : Int)) by omega) with h | h | ⟨h, h2⟩ | ⟨h, h2⟩
    · have j1 := I1.out xs.length (.inl h) hl
      go_wp2_with (go_at_call 45; refine (inRange_any _ _ _ _).mono ?_; rintro e w' ⟨rfl, rfl⟩)
      go_ret2
      exact ⟨ret_two (by rw [HA.out, atR_out (.inl h)]) (by rw [HK.out, inR_no (.inl h)]), hbw⟩
    · have j1 := I1.out xs.length (.inr h) hl
      go_wp2_with (go_at_call 45; refine (inRange_any _ _ _ _).mono ?_; rintro e w' ⟨rfl, rfl⟩)
      go_ret2
      exact ⟨ret_two (by rw [HA.out, atR_out (.inr h)]) (by rw [HK.out, inR_no (.inr h)]), hbw⟩
    · have j1 := I2.out xs.length (by omega) h2
      obtain ⟨ad, y, rfl, _, hcell, HY⟩ := r2.get (j := i.toNat) (by omega)
      go_wp2_with (go_at_call 45; refine (inRange_any _ _ _ _).mono ?_; rintro e w' ⟨rfl, rfl⟩)
      go_ret2
      exact ⟨ret_two (by rw [HA.out, atR_pos h h2]; exact HY.out) (by rw [HK.out, inR_yes (by omega) h2]), hbw⟩
    · have j1 := I2.out xs.length h2 (by omega)
      obtain ⟨ad, y, rfl, _, hcell, HY⟩ := r2.get (j := (i + (xs.length : Int)).toNat) (by omega)
      go_wp2_with (go_at_call 45; refine (inRange_any _ _ _ _).mono ?_; rintro e w' ⟨rfl, rfl⟩)
      go_ret2
      exact ⟨ret_two (by rw [HA.out, atR_neg h h2]; exact HY.out) (by rw [HK.out, inR_yes h2 (by omega)]), hbw⟩
  · have hv' : rangeB a b c = false := by simpa using hv
    have HA := Lib.hid (show numA a b c i = 0 by simp [numA, hv])
    have HK := Lib.hid (show numK a b c i = false by simp [numK, hv'])
    go_enter Try.func15, Try.ntmps15
    go_wp2_with fail
    (refine (isRange_any _ _ _ _).mono ?_; rintro e w1 ⟨rfl, hb1⟩; obtain ⟨hc1, hf1⟩ := bcell hb1)
    go_wp2_with fail
    go_ret2
    exact ⟨ret_two (by rw [HA.out]) (by rw [HK.out]), (by (repeat' (first | (with_reducible exact Below.refl _ _) | (with_reducible assumption) | (with_reducible refine Below.setCell ?_ ?_ _) | (with_reducible refine Below.al ?_ _) | (with_reducible refine Below.drew ?_) | (with_reducible refine Below.drN ?_ _) | (with_reducible refine Below.step ?_ (by assumption)) | (with_reducible refine Below.alloc ?_ ?_ _))); all_goals (simp; try omega))⟩
end Go.Proofs.Ytoejfpncpgoboaa
