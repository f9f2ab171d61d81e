/- The walks over ranges, further: a range in reverse order; what a range covers. -/
import Derived.Test.YtipgopapohigpaaRange3
import Derived.Test.YtipgopapohigpaaRev
set_option linter.unusedVariables false
namespace Go.Proofs.Ytipgopapohigpaa
open Go.RowKit

theorem rev_small {xs : List Int} (h : SmallL xs) : SmallL xs.reverse := fun j hj => by
  rw [List.length_reverse] at hj
  rw [rev_get xs j hj]
  exact h _ (by omega)
def rvV (a b c : Int) : List Int := if rangeB a b c = true then (nums a b c).reverse else []
def rv1 (a b c : Int) : Int := if rangeB a b c = true then nrmA (nums a b c).reverse else 0
def rv2 (a b c : Int) : Int := if rangeB a b c = true then nrmB (nums a b c).reverse else 0
def rv3 (a b c : Int) : Int := if rangeB a b c = true then nrmC (nums a b c).reverse else 0

set_option maxHeartbeats 800000 in
theorem sReverseRange_any (a b c : Int) (w : World) : Calls Try.prog 44 #[.agg #[.int .i64 a, .int .i64 b, .int .i64 c]] w (Ret w (.agg #[.int .i64 (rv1 a b c), .int .i64 (rv2 a b c), .int .i64 (rv3 a b c)])) := by
  by_cases hv : rangeB a b c = true
  · have hs := small_of hv
    have hl : (nums a b c).length ≤ 2000000000 := by rw [nums_length]; have := cnt_le a b c hs; omega
    have hsm := rev_small (nums_small hs)
    rw [rv1, rv2, rv3, if_pos hv, if_pos hv, if_pos hv]
    go_enter Try.func44, Try.ntmps44
    go_wp2_with fail
    refine (validRange_any _ _ _ _).mono ?_; rintro e w1 ⟨rfl, hb1⟩; have hc1 := bcel hb1
    rw [hv]
    go_wp2_with fail
    refine (numbers_any _ _ _ hs _).mono ?_; rintro e w2 ⟨A, c', rfl, ho2, hb2⟩; have g2 := hb1.step hb2
    clear hc1 hv
    have hlr : (nums a b c).reverse.length = (nums a b c).length := List.length_reverse
    have HLR := Lib.hid hlr
    clear hlr
    generalize nums a b c = xs at *
    have hc2 := bcel g2
    go_wp2_with fail
    (refine (reversed_any _ _ _ _ ho2.rd hl).mono ?_; rintro e w3 ⟨A3, c3, rfl, ho3, hb3⟩; have g3 := g2.step hb3; have r3 := ho3.rd; go_wp2_with fail)
    rw [← HLR.out] at hl ⊢
    refine (normal_any _ _ _ _ r3 hl hsm).mono ?_; rintro e w4 ⟨rfl, hb4⟩; have g4 := g3.step hb4
    clear hc2
    obtain ⟨hc4, hf4⟩ := bcell g4
    go_wp2_with fail
    exact bodyPost_ret (v := .agg #[.int .i64 (nrmA xs.reverse), .int .i64 (nrmB xs.reverse), .int .i64 (nrmC xs.reverse)]) (by simp [results, Try.results44, go_sem, hc4]) rfl ⟨rfl, (by (repeat' (first | (with_reducible exact Below.refl _ _) | (with_reducible assumption) | (with_reducible refine Below.setCell ?_ ?_ _) | (with_reducible refine Below.al ?_ _) | (with_reducible refine Below.drew ?_) | (with_reducible refine Below.drN ?_ _) | (with_reducible refine Below.step ?_ (by assumption)) | (with_reducible refine Below.alloc ?_ ?_ _))); all_goals (simp; try omega))⟩
  · have hv' : rangeB a b c = false := by simpa using hv
    rw [rv1, rv2, rv3, if_neg hv, if_neg hv, if_neg hv]
    go_enter Try.func44, Try.ntmps44
    go_wp2_with fail
    refine (validRange_any _ _ _ _).mono ?_; rintro e w1 ⟨rfl, hb1⟩; obtain ⟨hc1, hf1⟩ := bcell hb1
    rw [hv']
    go_wp2_with fail
    exact bodyPost_ret (v := .agg #[.int .i64 0, .int .i64 0, .int .i64 0]) (by simp [results, Try.results44, go_sem, hc1]) rfl ⟨rfl, (by (repeat' (first | (with_reducible exact Below.refl _ _) | (with_reducible assumption) | (with_reducible refine Below.setCell ?_ ?_ _) | (with_reducible refine Below.al ?_ _) | (with_reducible refine Below.drew ?_) | (with_reducible refine Below.drN ?_ _) | (with_reducible refine Below.step ?_ (by assumption)) | (with_reducible refine Below.alloc ?_ ?_ _))); all_goals (simp; try omega))⟩
set_option maxHeartbeats 800000 in
theorem iReverseRange_any (a b c : Int) (w : World) : Calls Try.prog 31 #[.agg #[.int .i64 a, .int .i64 b, .int .i64 c]] w (Ret w (.agg #[.int .i64 (rv1 a b c), .int .i64 (rv2 a b c), .int .i64 (rv3 a b c)])) := by
  by_cases hv : rangeB a b c = true
  · have hs := small_of hv
    have hl : (nums a b c).length ≤ 2000000000 := by rw [nums_length]; have := cnt_le a b c hs; omega
    have hsm := rev_small (nums_small hs)
    rw [rv1, rv2, rv3, if_pos hv, if_pos hv, if_pos hv]
    go_enter Try.func31, Try.ntmps31
    go_wp2_with fail
    refine (isRange_any _ _ _ _).mono ?_; rintro e w1 ⟨rfl, hb1⟩; have hc1 := bcel hb1
    rw [hv]
    go_wp2_with fail
    refine (numbersOf_any _ _ _ hs _).mono ?_; rintro e w2 ⟨A, c', rfl, ho2, hb2⟩; have g2 := hb1.step hb2
    clear hc1 hv
    have hlr : (nums a b c).reverse.length = (nums a b c).length := List.length_reverse
    have HLR := Lib.hid hlr
    clear hlr
    generalize nums a b c = xs at *
    have hc2 := bcel g2
    go_wp2_with fail
    (refine (reverse_any _ _ _ _ _ ho2 hl).mono ?_; rintro e w3 ⟨rfl, ho3, hg3⟩; have g3 := g2.trans (below_of_grown (B := ((w.alloc (.cells #[.int .i64 a, .int .i64 b, .int .i64 c] 24)).alloc (.cells #[.int .i64 0, .int .i64 0, .int .i64 0] 24)).heap.size) hg3 g2.size (fun k hk => Nat.le_trans hb1.size (ho2.ge k hk).1)); have r3 := ho3.rd; go_wp2_with fail)
    rw [← HLR.out] at hl ⊢
    refine (normalOf_any _ _ _ _ r3 hl hsm).mono ?_; rintro e w4 ⟨rfl, hb4⟩; have g4 := g3.step hb4
    clear hc2
    obtain ⟨hc4, hf4⟩ := bcell g4
    go_wp2_with fail
    exact bodyPost_ret (v := .agg #[.int .i64 (nrmA xs.reverse), .int .i64 (nrmB xs.reverse), .int .i64 (nrmC xs.reverse)]) (by simp [results, Try.results31, go_sem, hc4]) rfl ⟨rfl, (by (repeat' (first | (with_reducible exact Below.refl _ _) | (with_reducible assumption) | (with_reducible refine Below.setCell ?_ ?_ _) | (with_reducible refine Below.al ?_ _) | (with_reducible refine Below.drew ?_) | (with_reducible refine Below.drN ?_ _) | (with_reducible refine Below.step ?_ (by assumption)) | (with_reducible refine Below.alloc ?_ ?_ _))); all_goals (simp; try omega))⟩
  · have hv' : rangeB a b c = false := by simpa using hv
    rw [rv1, rv2, rv3, if_neg hv, if_neg hv, if_neg hv]
    go_enter Try.func31, Try.ntmps31
    go_wp2_with fail
    refine (isRange_any _ _ _ _).mono ?_; rintro e w1 ⟨rfl, hb1⟩; obtain ⟨hc1, hf1⟩ := bcell hb1
    rw [hv']
    go_wp2_with fail
    exact bodyPost_ret (v := .agg #[.int .i64 0, .int .i64 0, .int .i64 0]) (by simp [results, Try.results31, go_sem, hc1]) rfl ⟨rfl, (by (repeat' (first | (with_reducible exact Below.refl _ _) | (with_reducible assumption) | (with_reducible refine Below.setCell ?_ ?_ _) | (with_reducible refine Below.al ?_ _) | (with_reducible refine Below.drew ?_) | (with_reducible refine Below.drN ?_ _) | (with_reducible refine Below.step ?_ (by assumption)) | (with_reducible refine Below.alloc ?_ ?_ _))); all_goals (simp; try omega))⟩
end Go.Proofs.Ytipgopapohigpaa
