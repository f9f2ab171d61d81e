/- The walk of the law over sums. -/
import Derived.Test.YtipgopapohigpaaLawBC
set_option linter.unusedVariables false
namespace Go.Proofs.Ytipgopapohigpaa
open Go.RowKit

theorem at_first {a b c : Int} (h : rangeB a b c = true) (hp : 0 < cnt a b c) : numA a b c 0 = a := by
  rw [numA, if_pos h, atR_pos (by omega) (by rw [nums_length]; omega), nums_prg]
  have := prg_get a c (cnt a b c) 0 hp
  simpa using this
theorem at_last {a b c : Int} (h : rangeB a b c = true) (hp : 0 < cnt a b c) : numA a b c (-1) = a + ((cnt a b c : Int) - 1) * c := by
  rw [numA, if_pos h, atR_neg (by omega) (by rw [nums_length]; omega), nums_length, nums_prg, show (-1 + (cnt a b c : Int)).toNat = cnt a b c - 1 by omega, prg_get _ _ _ _ (by omega)]
  rw [show ((cnt a b c - 1 : Nat) : Int) = (cnt a b c : Int) - 1 by omega]
theorem sum_ends {a b c : Int} (h : rangeB a b c = true) : 2 * sumR a b c = (cnt a b c : Int) * (a + (a + ((cnt a b c : Int) - 1) * c)) := by
  rw [sumR, if_pos h, nums_prg, total_prg, show 2 * a + ((cnt a b c : Int) - 1) * c = a + (a + ((cnt a b c : Int) - 1) * c) by omega]
theorem ends_in {a b c : Int} (h : rangeB a b c = true) (hp : 0 < cnt a b c) : -100 ≤ a + ((cnt a b c : Int) - 1) * c ∧ a + ((cnt a b c : Int) - 1) * c ≤ 100 := by
  have := num_in h (cnt a b c - 1) (by omega)
  rwa [show ((cnt a b c - 1 : Nat) : Int) = (cnt a b c : Int) - 1 by omega] at this

set_option maxHeartbeats 3200000 in
theorem FnSumOf_walk (A : Option Addr) (n : Nat) (bs : List Int) (w : World) (hr : Rd w w.heap.size .u8 A bs) (hl : bs.length ≤ maxLen) (hn : bs.length ≤ n) (hb : ∀ x ∈ bs, 0 ≤ x ∧ x ≤ 255) :
    Calls Try.prog 10 #[.slice A bs.length n] w (Ret w (.bool true)) := by
  by_cases hbig : bs.length > 1048576
  · go_enter Try.func10, Try.ntmps10
    go_wp2_with fail
    go_ret
    exact ⟨rfl, (by (repeat' (first | (with_reducible exact Below.refl _ _) | (with_reducible assumption) | (with_reducible refine Below.setCell ?_ ?_ _) | (with_reducible refine Below.al ?_ _) | (with_reducible refine Below.drew ?_) | (with_reducible refine Below.drN ?_ _) | (with_reducible refine Below.step ?_ (by assumption)) | (with_reducible refine Below.alloc ?_ ?_ _))); all_goals (simp; try omega))⟩
  go_enter Try.func10, Try.ntmps10
  go_wp2_with fail
  refine (DrawSumOf_any A n bs _ hr hl hn hb).mono ?_; rintro e w1 ⟨a, b, c, rfl, ha, hb', hc, hb1⟩
  clear hr hb
  go_wp2_with fail
  refine (iSumOf_any _ _ _ _).mono ?_; rintro e w2 ⟨rfl, g2⟩
  have hc2 := bcel g2
  go_wp2_with fail
  refine (sSumOf_any _ _ _ _).mono ?_; rintro e w3 ⟨rfl, hb3⟩; have g3 := g2.step hb3; clear hc2; have hc3 := bcel g3
  go_wp2_with fail
  refine (iLenOf_any _ _ _ _).mono ?_; rintro e w4 ⟨rfl, hb4⟩; have g4 := g3.step hb4; clear hc3; have hc4 := bcel g4
  by_cases hp : lenR a b c ≤ 0
  · go_wp2_with fail
    refine (sSumOf_any _ _ _ _).mono ?_; rintro e w5 ⟨rfl, hb5⟩
    go_wp2_with fail
    go_ret
    exact ⟨rfl, (by (repeat' (first | (with_reducible exact Below.refl _ _) | (with_reducible assumption) | (with_reducible refine Below.setCell ?_ ?_ _) | (with_reducible refine Below.al ?_ _) | (with_reducible refine Below.drew ?_) | (with_reducible refine Below.drN ?_ _) | (with_reducible refine Below.step ?_ (by assumption)) | (with_reducible refine Below.alloc ?_ ?_ _))); all_goals (simp; try omega))⟩
  · have hv : rangeB a b c = true := by
      rcases hx : rangeB a b c with _ | _
      · rw [lenR, hx] at hp; simp at hp
      · rfl
    have hL : lenR a b c = (cnt a b c : Int) := by rw [lenR, if_pos hv]
    have HL := Lib.hid hL
    rw [hL] at hp
    have hp0 : 0 < cnt a b c := by omega
    have H0 := Lib.hid (at_first hv hp0)
    have H1 := Lib.hid (at_last hv hp0)
    have HS := Lib.hid (sum_ends hv)
    have HR := Lib.hid (rev_sum hv)
    have hend := ends_in hv hp0
    have hle := cnt_le a b c (small_of hv)
    obtain ⟨h1, h2, _⟩ := range_get hv
    rw [HL.out]
    clear hL
    obtain ⟨l, hll⟩ : ∃ l, l = a + ((cnt a b c : Int) - 1) * c := ⟨_, rfl⟩
    have H1 : Hid (numA a b c (-1) = l) := by rw [hll]; exact H1
    have HS : Hid (2 * sumR a b c = (cnt a b c : Int) * (a + l)) := by rw [hll]; exact HS
    rw [← hll] at hend
    clear hll
    have b1 : (cnt a b c : Int) * (a + l) ≤ (cnt a b c : Int) * 200 := Int.mul_le_mul_of_nonneg_left (by omega) (by omega)
    have b2 : (cnt a b c : Int) * (-200) ≤ (cnt a b c : Int) * (a + l) := Int.mul_le_mul_of_nonneg_left (by omega) (by omega)
    have hq : ¬ ((cnt a b c : Int) ≤ 0) := hp
    obtain ⟨S, hSS⟩ : ∃ S, S = sumR a b c := ⟨_, rfl⟩
    have HS : Hid (2 * S = (cnt a b c : Int) * (a + l)) := by rw [hSS]; exact HS
    rw [← hSS]
    have HR : Hid (sumR (rv1 a b c) (rv2 a b c) (rv3 a b c) = S) := by rw [hSS]; exact HR
    clear hSS
    have b3 : -1000000 ≤ 2 * S ∧ 2 * S ≤ 1000000 := by rw [HS.out]; omega
    go_wp2_with fail
    refine (iNumberAt_any _ _ _ _ _ (by omega) (by omega)).mono ?_; rw [H0.out]; rintro e w5 ⟨rfl, hb5⟩; have g5 := g4.step hb5; clear hc4; have hc5 := bcel g5
    go_wp2_with fail
    refine (iNumberAt_any _ _ _ _ _ (by omega) (by omega)).mono ?_; rw [H1.out]; rintro e w6 ⟨rfl, hb6⟩; have g6 := g5.step hb6; clear hc5; have hc6 := bcel g6
    go_wp2_with fail
    refine (iLenOf_any _ _ _ _).mono ?_; rw [HL.out]; rintro e w7 ⟨rfl, hb7⟩; have g7 := g6.step hb7; clear hc6; have hc7 := bcel g7
    have hE := HS.out
    go_wp2_with fail
    refine (iReverseRange_any _ _ _ _).mono ?_; rintro e w8 ⟨rfl, hb8⟩
    go_wp2_with fail
    refine (iSumOf_any _ _ _ _).mono ?_; rw [HR.out]; rintro e w9 ⟨rfl, hb9⟩
    go_wp2_with fail
    go_ret
    exact ⟨rfl, (by (repeat' (first | (with_reducible exact Below.refl _ _) | (with_reducible assumption) | (with_reducible refine Below.setCell ?_ ?_ _) | (with_reducible refine Below.al ?_ _) | (with_reducible refine Below.drew ?_) | (with_reducible refine Below.drN ?_ _) | (with_reducible refine Below.step ?_ (by assumption)) | (with_reducible refine Below.alloc ?_ ?_ _))); all_goals (simp; try omega))⟩
end Go.Proofs.Ytipgopapohigpaa
