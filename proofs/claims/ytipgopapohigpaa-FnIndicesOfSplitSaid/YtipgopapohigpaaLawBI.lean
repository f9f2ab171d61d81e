/- The walk of the law over valid slices. -/
import Derived.Test.YtipgopapohigpaaRdr6
import Derived.Test.YtipgopapohigpaaSlice3
set_option linter.unusedVariables false
namespace Go.Proofs.Ytipgopapohigpaa
open Go.RowKit

theorem slice_by {f t b : Int} {hf ht : Bool} (h : sliceB f t b hf ht = true) : sliceB 0 0 b false false = true ∧ sliceB f 0 b hf false = true := by
  simp [sliceB] at h
  obtain ⟨h1, h2, h3, h4, h5, h6, h7, h8, h9⟩ := h
  constructor
  · simp [sliceB]; omega
  · simp [sliceB]; exact ⟨h1, h2, h5, h6, h7, h8⟩

set_option maxHeartbeats 3200000 in
theorem FnValidSlice_walk (A : Option Addr) (n : Nat) (bs : List Int) (w : World) (hr : Rd w w.heap.size .u8 A bs) (hl : bs.length ≤ maxLen) (hn : bs.length ≤ n) (hb : ∀ x ∈ bs, 0 ≤ x ∧ x ≤ 255) :
    Calls Try.prog 4 #[.slice A bs.length n] w (Ret w (.bool true)) := by
  by_cases hbig : bs.length > 1048576
  · go_enter Try.func4, Try.ntmps4
    go_wp2_with fail
    go_ret
    exact ⟨rfl, (by (repeat' (first | (with_reducible exact Below.refl _ _) | (with_reducible assumption) | (with_reducible refine Below.setCell ?_ ?_ _) | (with_reducible refine Below.al ?_ _) | (with_reducible refine Below.drew ?_) | (with_reducible refine Below.drN ?_ _) | (with_reducible refine Below.step ?_ (by assumption)) | (with_reducible refine Below.alloc ?_ ?_ _))); all_goals (simp; try omega))⟩
  go_enter Try.func4, Try.ntmps4
  go_wp2_with fail
  refine (DrawValidSlice_any A n bs _ hr hl hn hb).mono ?_; rintro e w1 ⟨f, t, b, hf, ht, rfl, mf, mt, mb, hb1⟩
  clear hr hb
  rcases hv : sliceB f t b hf ht with _ | _
  · have HV := Lib.hid hv
    clear hv
    go_wp2_with fail
    refine (iValidSlice_any _ _ _ _ _ _).mono ?_; rw [HV.out]; rintro e w2 ⟨rfl, g2⟩
    have hc2 := bcel g2
    go_wp2_with fail
    refine (sValidSlice_any _ _ _ _ _ _).mono ?_; rw [HV.out]; rintro e w3 ⟨rfl, hb3⟩; have g3 := g2.step hb3; clear hc2; have hc3 := bcel g3
    go_wp2_with fail
    refine (sValidSlice_any _ _ _ _ _ _).mono ?_; rw [HV.out]; rintro e w4 ⟨rfl, hb4⟩
    go_wp2_with fail
    go_ret
    exact ⟨rfl, (by (repeat' (first | (with_reducible exact Below.refl _ _) | (with_reducible assumption) | (with_reducible refine Below.setCell ?_ ?_ _) | (with_reducible refine Below.al ?_ _) | (with_reducible refine Below.drew ?_) | (with_reducible refine Below.drN ?_ _) | (with_reducible refine Below.step ?_ (by assumption)) | (with_reducible refine Below.alloc ?_ ?_ _))); all_goals (simp; try omega))⟩
  · have HV := Lib.hid hv
    have H1 := Lib.hid (slice_by hv).1
    have H2 := Lib.hid (slice_by hv).2
    clear hv
    go_wp2_with fail
    refine (iValidSlice_any _ _ _ _ _ _).mono ?_; rw [HV.out]; rintro e w2 ⟨rfl, g2⟩
    have hc2 := bcel g2
    go_wp2_with fail
    refine (sValidSlice_any _ _ _ _ _ _).mono ?_; rw [HV.out]; rintro e w3 ⟨rfl, hb3⟩; have g3 := g2.step hb3; clear hc2; have hc3 := bcel g3
    go_wp2_with fail
    refine (iValidSlice_any _ _ _ _ _ _).mono ?_; rw [H1.out]; rintro e w4 ⟨rfl, hb4⟩; have g4 := g3.step hb4; clear hc3; have hc4 := bcel g4
    go_wp2_with fail
    refine (iValidSlice_any _ _ _ _ _ _).mono ?_; rw [H2.out]; rintro e w5 ⟨rfl, hb5⟩
    go_wp2_with fail
    go_ret
    exact ⟨rfl, (by (repeat' (first | (with_reducible exact Below.refl _ _) | (with_reducible assumption) | (with_reducible refine Below.setCell ?_ ?_ _) | (with_reducible refine Below.al ?_ _) | (with_reducible refine Below.drew ?_) | (with_reducible refine Below.drN ?_ _) | (with_reducible refine Below.step ?_ (by assumption)) | (with_reducible refine Below.alloc ?_ ?_ _))); all_goals (simp; try omega))⟩
end Go.Proofs.Ytipgopapohigpaa
