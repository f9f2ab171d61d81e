/- The walk of the law over valid ranges. -/
import Derived.Test.YtipgopapohigpaaRdr3
import Derived.Test.YtipgopapohigpaaPrgs
import Derived.Test.YtipgopapohigpaaRange4
set_option linter.unusedVariables false
namespace Go.Proofs.Ytipgopapohigpaa
open Go.RowKit

set_option maxHeartbeats 400000 in
theorem iValidRange_any (a b c : Int) (w : World) : Calls Try.prog 29 #[.agg #[.int .i64 a, .int .i64 b, .int .i64 c]] w (Ret w (.bool (rangeB a b c))) := by
  go_enter Try.func29, Try.ntmps29
  go_wp2_with (go_at_call 56; refine (isRange_any _ _ _ _).mono ?_; rintro e w1 ⟨rfl, hb1⟩; obtain ⟨hc1, hf1⟩ := bcell hb1)
  go_ret
  exact ⟨rfl, (by (repeat' (first | (with_reducible exact Below.refl _ _) | (with_reducible assumption) | (with_reducible refine Below.setCell ?_ ?_ _) | (with_reducible refine Below.al ?_ _) | (with_reducible refine Below.drew ?_) | (with_reducible refine Below.drN ?_ _) | (with_reducible refine Below.step ?_ (by assumption)) | (with_reducible refine Below.alloc ?_ ?_ _))); all_goals (simp; try omega))⟩
set_option maxHeartbeats 400000 in
theorem sValidRange_any (a b c : Int) (w : World) : Calls Try.prog 30 #[.agg #[.int .i64 a, .int .i64 b, .int .i64 c]] w (Ret w (.bool (rangeB a b c))) := by
  go_enter Try.func30, Try.ntmps30
  go_wp2_with (go_at_call 59; refine (validRange_any _ _ _ _).mono ?_; rintro e w1 ⟨rfl, hb1⟩; obtain ⟨hc1, hf1⟩ := bcell hb1)
  go_ret
  exact ⟨rfl, (by (repeat' (first | (with_reducible exact Below.refl _ _) | (with_reducible assumption) | (with_reducible refine Below.setCell ?_ ?_ _) | (with_reducible refine Below.al ?_ _) | (with_reducible refine Below.drew ?_) | (with_reducible refine Below.drN ?_ _) | (with_reducible refine Below.step ?_ (by assumption)) | (with_reducible refine Below.alloc ?_ ?_ _))); all_goals (simp; try omega))⟩
theorem nrm_valid {a b c : Int} (h : rangeB a b c = true) : rangeB (nrmA (nums a b c)) (nrmB (nums a b c)) (nrmC (nums a b c)) = true := by
  obtain ⟨_, _, _, _, h5, h6, h7⟩ := range_get h
  rw [nums_prg]
  exact range_nrm a c _ h7 h5 h6 (num_in h)
theorem rev_valid {a b c : Int} (h : rangeB a b c = true) : rangeB (rv1 a b c) (rv2 a b c) (rv3 a b c) = true := by
  obtain ⟨_, _, _, _, h5, h6, h7⟩ := range_get h
  rw [rv1, rv2, rv3, if_pos h, if_pos h, if_pos h, nums_prg, prg_rev]
  exact range_nrm _ (-c) _ (by omega) (by omega) (by omega) (rv_at (fun x => -100 ≤ x ∧ x ≤ 100) (num_in h))

set_option maxHeartbeats 3200000 in
theorem FnValidRange_walk (A : Option Addr) (n : Nat) (bs : List Int) (w : World) (hr : Rd w w.heap.size .u8 A bs) (hl : bs.length ≤ maxLen) (hn : bs.length ≤ n) (hb : ∀ x ∈ bs, 0 ≤ x ∧ x ≤ 255) :
    Calls Try.prog 6 #[.slice A bs.length n] w (Ret w (.bool true)) := by
  by_cases hbig : bs.length > 1048576
  · go_enter Try.func6, Try.ntmps6
    go_wp2_with fail
    go_ret
    exact ⟨rfl, (by (repeat' (first | (with_reducible exact Below.refl _ _) | (with_reducible assumption) | (with_reducible refine Below.setCell ?_ ?_ _) | (with_reducible refine Below.al ?_ _) | (with_reducible refine Below.drew ?_) | (with_reducible refine Below.drN ?_ _) | (with_reducible refine Below.step ?_ (by assumption)) | (with_reducible refine Below.alloc ?_ ?_ _))); all_goals (simp; try omega))⟩
  go_enter Try.func6, Try.ntmps6
  go_wp2_with fail
  refine (DrawValidRange_any A n bs _ hr hl hn hb).mono ?_; rintro e w1 ⟨a, b, c, rfl, ha, hb', hc, hb1⟩
  clear hr hb
  go_wp2_with fail
  refine (iValidRange_any _ _ _ _).mono ?_; rintro e w2 ⟨rfl, g2⟩
  have hc2 := bcel g2
  go_wp2_with fail
  refine (sValidRange_any _ _ _ _).mono ?_; rintro e w3 ⟨rfl, hb3⟩; have g3 := g2.step hb3; clear hc2; have hc3 := bcel g3
  by_cases hv : rangeB a b c = true
  · have HN := Lib.hid (nrm_valid hv)
    have HR := Lib.hid (rev_valid hv)
    rw [hv]
    go_wp2_with fail
    refine (iNormalRange_any _ _ _ _).mono ?_; rw [if_pos hv]; rintro e w4 ⟨rfl, hb4⟩; have g4 := g3.step hb4; clear hc3; have hc4 := bcel g4
    go_wp2_with fail
    refine (iValidRange_any _ _ _ _).mono ?_; rw [HN.out]; rintro e w5 ⟨rfl, hb5⟩; have g5 := g4.step hb5; clear hc4; have hc5 := bcel g5
    go_wp2_with fail
    refine (iReverseRange_any _ _ _ _).mono ?_; rintro e w6 ⟨rfl, hb6⟩
    go_wp2_with fail
    refine (iValidRange_any _ _ _ _).mono ?_; rw [HR.out]; rintro e w7 ⟨rfl, hb7⟩
    go_wp2_with fail
    go_ret
    exact ⟨rfl, (by (repeat' (first | (with_reducible exact Below.refl _ _) | (with_reducible assumption) | (with_reducible refine Below.setCell ?_ ?_ _) | (with_reducible refine Below.al ?_ _) | (with_reducible refine Below.drew ?_) | (with_reducible refine Below.drN ?_ _) | (with_reducible refine Below.step ?_ (by assumption)) | (with_reducible refine Below.alloc ?_ ?_ _))); all_goals (simp; try omega))⟩
  · have hv' : rangeB a b c = false := by simpa using hv
    rw [hv']
    go_wp2_with fail
    refine (sValidRange_any _ _ _ _).mono ?_; rw [hv']; rintro e w4 ⟨rfl, hb4⟩
    go_wp2_with fail
    go_ret
    exact ⟨rfl, (by (repeat' (first | (with_reducible exact Below.refl _ _) | (with_reducible assumption) | (with_reducible refine Below.setCell ?_ ?_ _) | (with_reducible refine Below.al ?_ _) | (with_reducible refine Below.drew ?_) | (with_reducible refine Below.drN ?_ _) | (with_reducible refine Below.step ?_ (by assumption)) | (with_reducible refine Below.alloc ?_ ?_ _))); all_goals (simp; try omega))⟩
end Go.Proofs.Ytipgopapohigpaa
