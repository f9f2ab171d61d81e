/- The walks of the laws over lengths and sums. -/
import Derived.Test.YtipgopapohigpaaRdr3
import Derived.Test.YtipgopapohigpaaPrgs
import Derived.Test.YtipgopapohigpaaRange4
import Derived.Test.YtipgopapohigpaaRange2
set_option linter.unusedVariables false
namespace Go.Proofs.Ytipgopapohigpaa
open Go.RowKit

theorem rev_range {a b c : Int} (h : rangeB a b c = true) : rangeB (rv1 a b c) (rv2 a b c) (rv3 a b c) = true := by
  obtain ⟨_, _, _, _, h5, h6, h7⟩ := range_get h
  rw [rv1, rv2, rv3, if_pos h, if_pos h, if_pos h, nums_prg, prg_rev]
  exact range_nrm _ (-c) _ (by omega) (by omega) (by omega) (rv_at (fun x => -100 ≤ x ∧ x ≤ 100) (num_in h))
theorem rev_nums {a b c : Int} (h : rangeB a b c = true) : nums (rv1 a b c) (rv2 a b c) (rv3 a b c) = prg (a + ((cnt a b c : Int) - 1) * c) (-c) (cnt a b c) := by
  obtain ⟨_, _, _, _, h5, h6, h7⟩ := range_get h
  rw [rv1, rv2, rv3, if_pos h, if_pos h, if_pos h, nums_prg a b c, prg_rev]
  exact nums_nrm _ (-c) _ (by omega)
theorem rev_len {a b c : Int} (h : rangeB a b c = true) : lenR (rv1 a b c) (rv2 a b c) (rv3 a b c) = lenR a b c := by
  rw [lenR, if_pos (rev_range h), lenR, if_pos h, ← nums_length, rev_nums h, prg_length]
theorem rev_sum {a b c : Int} (h : rangeB a b c = true) : sumR (rv1 a b c) (rv2 a b c) (rv3 a b c) = sumR a b c := by
  rw [sumR, if_pos (rev_range h), sumR, if_pos h, rev_nums h, nums_prg]
  have e1 := total_prg (a + ((cnt a b c : Int) - 1) * c) (-c) (cnt a b c)
  have e2 := total_prg a c (cnt a b c)
  have e3 : 2 * (a + ((cnt a b c : Int) - 1) * c) + ((cnt a b c : Int) - 1) * -c = 2 * a + ((cnt a b c : Int) - 1) * c := by
    rw [Int.mul_neg]; omega
  rw [e3] at e1
  omega
theorem len_up {a b c : Int} (hc : 0 < c) (h : a < b) : (cnt a b c : Int) = (b - a - 1) / c + 1 := by
  unfold cnt
  rw [if_pos hc, show b - a + c - 1 = (b - a - 1) + 1 * c by omega, Int.add_mul_ediv_right _ _ (by omega)]
  have : 0 ≤ (b - a - 1) / c := Int.ediv_nonneg (by omega) (by omega)
  omega
theorem len_up0 {a b c : Int} (hc : 0 < c) (h : b ≤ a) : (cnt a b c : Int) = 0 := by
  have h1 := (up_lt a b c 0 hc).2
  have : ¬ 0 < cnt a b c := fun h2 => by have := h1 h2; simp at this; omega
  omega
theorem len_down {a b c : Int} (hc : c < 0) (h : b < a) : (cnt a b c : Int) = (a - b - 1) / (0 - c) + 1 := by
  unfold cnt
  rw [if_neg (by omega), show a - b - c - 1 = (a - b - 1) + 1 * (0 - c) by omega, show -c = 0 - c by omega, Int.add_mul_ediv_right _ _ (by omega)]
  have : 0 ≤ (a - b - 1) / (0 - c) := Int.ediv_nonneg (by omega) (by omega)
  omega
theorem len_down0 {a b c : Int} (hc : c < 0) (h : a ≤ b) : (cnt a b c : Int) = 0 := by
  have h1 := (down_lt a b c 0 hc).2
  have : ¬ 0 < cnt a b c := fun h2 => by have := h1 h2; simp at this; omega
  omega

set_option maxHeartbeats 3200000 in
theorem FnLenOf_walk (A : Option Addr) (n : Nat) (bs : List Int) (w : World) (hr : Rd w w.heap.size .u8 A bs) (hl : bs.length ≤ maxLen) (hn : bs.length ≤ n) (hb : ∀ x ∈ bs, 0 ≤ x ∧ x ≤ 255) :
    Calls Try.prog 8 #[.slice A bs.length n] w (Ret w (.bool true)) := by
  by_cases hbig : bs.length > 1048576
  · go_enter Try.func8, Try.ntmps8
    go_wp2_with fail
    go_ret
    exact ⟨rfl, (by (repeat' (first | (with_reducible exact Below.refl _ _) | (with_reducible assumption) | (with_reducible refine Below.setCell ?_ ?_ _) | (with_reducible refine Below.al ?_ _) | (with_reducible refine Below.drew ?_) | (with_reducible refine Below.drN ?_ _) | (with_reducible refine Below.step ?_ (by assumption)) | (with_reducible refine Below.alloc ?_ ?_ _))); all_goals (simp; try omega))⟩
  go_enter Try.func8, Try.ntmps8
  go_wp2_with fail
  refine (DrawLenOf_any A n bs _ hr hl hn hb).mono ?_; rintro e w1 ⟨a, b, c, rfl, ha, hb', hc, hb1⟩
  clear hr hb
  go_wp2_with fail
  refine (iLenOf_any _ _ _ _).mono ?_; rintro e w2 ⟨rfl, g2⟩
  have hc2 := bcel g2
  go_wp2_with fail
  refine (sLenOf_any _ _ _ _).mono ?_; rintro e w3 ⟨rfl, hb3⟩; have g3 := g2.step hb3; clear hc2; have hc3 := bcel g3
  by_cases hv : rangeB a b c = true
  · have HR := Lib.hid (rev_len hv)
    have HL : Hid (lenR a b c = (cnt a b c : Int)) := by rw [lenR, if_pos hv]; rfl
    rw [HL.out]
    have hcz := ne_zero hv
    have hnn : ¬ ((cnt a b c : Int) < 0) := by omega
    rcases (show (0 < c ∧ a < b) ∨ (0 < c ∧ b ≤ a) ∨ (c < 0 ∧ b < a) ∨ (c < 0 ∧ a ≤ b) by omega) with ⟨h1, h2⟩ | ⟨h1, h2⟩ | ⟨h1, h2⟩ | ⟨h1, h2⟩
    · have hq := len_up h1 h2
      have q0 : 0 ≤ (b - a - 1) / c := Int.ediv_nonneg (by omega) (by omega)
      have q1 : (b - a - 1) / c ≤ b - a - 1 := Int.ediv_le_self _ (by omega)
      go_wp2_with fail
      (refine (iNumbersOf_any _ _ _ _).mono ?_; rw [if_pos hv]; rintro e w4 ⟨A4, c4, rfl, ho4, hb4⟩; have g4 := g3.step hb4; clear hc3; have hc4 := bcel g4; rw [nums_length]; go_wp2_with fail; refine (iReverseRange_any _ _ _ _).mono ?_; rintro e w5 ⟨rfl, hb5⟩; go_wp2_with fail; refine (iLenOf_any _ _ _ _).mono ?_; rw [HR.out, HL.out]; rintro e w6 ⟨rfl, hb6⟩; go_wp2_with fail; go_ret; exact ⟨rfl, (by (repeat' (first | (with_reducible exact Below.refl _ _) | (with_reducible assumption) | (with_reducible refine Below.setCell ?_ ?_ _) | (with_reducible refine Below.al ?_ _) | (with_reducible refine Below.drew ?_) | (with_reducible refine Below.drN ?_ _) | (with_reducible refine Below.step ?_ (by assumption)) | (with_reducible refine Below.alloc ?_ ?_ _))); all_goals (simp; try omega))⟩)
    · have hq := len_up0 h1 h2
      go_wp2_with fail
      (refine (iNumbersOf_any _ _ _ _).mono ?_; rw [if_pos hv]; rintro e w4 ⟨A4, c4, rfl, ho4, hb4⟩; have g4 := g3.step hb4; clear hc3; have hc4 := bcel g4; rw [nums_length]; go_wp2_with fail; refine (iReverseRange_any _ _ _ _).mono ?_; rintro e w5 ⟨rfl, hb5⟩; go_wp2_with fail; refine (iLenOf_any _ _ _ _).mono ?_; rw [HR.out, HL.out]; rintro e w6 ⟨rfl, hb6⟩; go_wp2_with fail; go_ret; exact ⟨rfl, (by (repeat' (first | (with_reducible exact Below.refl _ _) | (with_reducible assumption) | (with_reducible refine Below.setCell ?_ ?_ _) | (with_reducible refine Below.al ?_ _) | (with_reducible refine Below.drew ?_) | (with_reducible refine Below.drN ?_ _) | (with_reducible refine Below.step ?_ (by assumption)) | (with_reducible refine Below.alloc ?_ ?_ _))); all_goals (simp; try omega))⟩)
    · obtain ⟨d, hd⟩ : ∃ d, d = -c := ⟨_, rfl⟩
      obtain rfl : c = -d := by omega
      clear hd
      have hq := len_down h1 h2
      rw [show (0 : Int) - -d = d by omega] at hq
      have hd0 : 0 < d := by omega
      have hd1 : ¬ d < 0 := by omega
      have q0 : 0 ≤ (a - b - 1) / d := Int.ediv_nonneg (by omega) (by omega)
      have q1 : (a - b - 1) / d ≤ a - b - 1 := Int.ediv_le_self _ (by omega)
      go_wp2_with fail
      (refine (iNumbersOf_any _ _ _ _).mono ?_; rw [if_pos hv]; rintro e w4 ⟨A4, c4, rfl, ho4, hb4⟩; have g4 := g3.step hb4; clear hc3; have hc4 := bcel g4; rw [nums_length]; go_wp2_with fail; refine (iReverseRange_any _ _ _ _).mono ?_; rintro e w5 ⟨rfl, hb5⟩; go_wp2_with fail; refine (iLenOf_any _ _ _ _).mono ?_; rw [HR.out, HL.out]; rintro e w6 ⟨rfl, hb6⟩; go_wp2_with fail; go_ret; exact ⟨rfl, (by (repeat' (first | (with_reducible exact Below.refl _ _) | (with_reducible assumption) | (with_reducible refine Below.setCell ?_ ?_ _) | (with_reducible refine Below.al ?_ _) | (with_reducible refine Below.drew ?_) | (with_reducible refine Below.drN ?_ _) | (with_reducible refine Below.step ?_ (by assumption)) | (with_reducible refine Below.alloc ?_ ?_ _))); all_goals (simp; try omega))⟩)
    · have hq := len_down0 h1 h2
      go_wp2_with fail
      (refine (iNumbersOf_any _ _ _ _).mono ?_; rw [if_pos hv]; rintro e w4 ⟨A4, c4, rfl, ho4, hb4⟩; have g4 := g3.step hb4; clear hc3; have hc4 := bcel g4; rw [nums_length]; go_wp2_with fail; refine (iReverseRange_any _ _ _ _).mono ?_; rintro e w5 ⟨rfl, hb5⟩; go_wp2_with fail; refine (iLenOf_any _ _ _ _).mono ?_; rw [HR.out, HL.out]; rintro e w6 ⟨rfl, hb6⟩; go_wp2_with fail; go_ret; exact ⟨rfl, (by (repeat' (first | (with_reducible exact Below.refl _ _) | (with_reducible assumption) | (with_reducible refine Below.setCell ?_ ?_ _) | (with_reducible refine Below.al ?_ _) | (with_reducible refine Below.drew ?_) | (with_reducible refine Below.drN ?_ _) | (with_reducible refine Below.step ?_ (by assumption)) | (with_reducible refine Below.alloc ?_ ?_ _))); all_goals (simp; try omega))⟩)
  · have HL : lenR a b c = -1 := by rw [lenR, if_neg hv]
    rw [HL]
    go_wp2_with fail
    refine (sLenOf_any _ _ _ _).mono ?_; rw [HL]; rintro e w4 ⟨rfl, hb4⟩
    go_wp2_with fail
    go_ret
    exact ⟨rfl, (by (repeat' (first | (with_reducible exact Below.refl _ _) | (with_reducible assumption) | (with_reducible refine Below.setCell ?_ ?_ _) | (with_reducible refine Below.al ?_ _) | (with_reducible refine Below.drew ?_) | (with_reducible refine Below.drN ?_ _) | (with_reducible refine Below.step ?_ (by assumption)) | (with_reducible refine Below.alloc ?_ ?_ _))); all_goals (simp; try omega))⟩
end Go.Proofs.Ytipgopapohigpaa
