/- The walks over slices of a range: what is a valid slice, the conversion of a slice. -/
import Derived.Test.YtipgopapohigpaaRange1
set_option linter.unusedVariables false
namespace Go.Proofs.Ytipgopapohigpaa
open Go.RowKit

def sliceB (f t b : Int) (hf ht : Bool) : Bool := decide (-100 ≤ f ∧ f ≤ 100 ∧ -100 ≤ t ∧ t ≤ 100 ∧ -200 ≤ b ∧ b ≤ 200 ∧ b ≠ 0 ∧ (hf = true ∨ f = 0) ∧ (ht = true ∨ t = 0))
theorem sliceB_eq (f t b : Int) (hf ht : Bool) : sliceB f t b hf ht = (inB f (-100) 100 && (inB t (-100) 100 && (inB b (-200) 200 && ((b != 0) && ((hf || f == 0) && (ht || t == 0)))))) := by
  cases hf <;> cases ht <;> rw [Bool.eq_iff_iff] <;> simp [sliceB, inB] <;> omega

set_option maxHeartbeats 800000 in
theorem isSlice_any (f t b : Int) (hf ht : Bool) (w : World) : Calls Try.prog 62 #[.agg #[.int .i64 f, .int .i64 t, .int .i64 b, .bool hf, .bool ht]] w (Ret w (.bool (sliceB f t b hf ht))) := by
  cases hf <;> cases ht
  all_goals
    go_enter Try.func62, Try.ntmps62
    go_wp2
    all_goals (go_ret; exact ⟨ret_bool (by go_light; rw [Bool.eq_iff_iff]; simp [sliceB] at *; first | omega | (intros; omega)), (by (repeat' (first | (with_reducible exact Below.refl _ _) | (with_reducible assumption) | (with_reducible refine Below.setCell ?_ ?_ _) | (with_reducible refine Below.al ?_ _) | (with_reducible refine Below.drew ?_) | (with_reducible refine Below.drN ?_ _) | (with_reducible refine Below.step ?_ (by assumption)) | (with_reducible refine Below.alloc ?_ ?_ _))); all_goals (simp; try omega))⟩)

set_option maxHeartbeats 800000 in
theorem validSlice_any (f t b : Int) (hf ht : Bool) (w : World) : Calls Try.prog 66 #[.agg #[.int .i64 f, .int .i64 t, .int .i64 b, .bool hf, .bool ht]] w (Ret w (.bool (sliceB f t b hf ht))) := by
  cases hf <;> cases ht
  all_goals
    go_enter Try.func66, Try.ntmps66
    go_wp2_with (go_at_call 72; refine (inRange_any _ _ _ _).mono ?_; rintro e w' ⟨rfl, rfl⟩)
    all_goals (go_ret; exact ⟨ret_bool (by go_light; rw [Bool.eq_iff_iff]; simp [sliceB, inB] at *; first | omega | (intros; omega)), (by (repeat' (first | (with_reducible exact Below.refl _ _) | (with_reducible assumption) | (with_reducible refine Below.setCell ?_ ?_ _) | (with_reducible refine Below.al ?_ _) | (with_reducible refine Below.drew ?_) | (with_reducible refine Below.drN ?_ _) | (with_reducible refine Below.step ?_ (by assumption)) | (with_reducible refine Below.alloc ?_ ?_ _))); all_goals (simp; try omega))⟩)

set_option maxHeartbeats 400000 in
theorem iValidSlice_any (f t b : Int) (hf ht : Bool) (w : World) : Calls Try.prog 24 #[.agg #[.int .i64 f, .int .i64 t, .int .i64 b, .bool hf, .bool ht]] w (Ret w (.bool (sliceB f t b hf ht))) := by
  go_enter Try.func24, Try.ntmps24
  go_wp2_with (go_at_call 62; refine (isSlice_any _ _ _ _ _ _).mono ?_; rintro e w1 ⟨rfl, hb1⟩)
  go_ret
  exact ⟨rfl, (by (repeat' (first | (with_reducible exact Below.refl _ _) | (with_reducible assumption) | (with_reducible refine Below.setCell ?_ ?_ _) | (with_reducible refine Below.al ?_ _) | (with_reducible refine Below.drew ?_) | (with_reducible refine Below.drN ?_ _) | (with_reducible refine Below.step ?_ (by assumption)) | (with_reducible refine Below.alloc ?_ ?_ _))); all_goals (simp; try omega))⟩
set_option maxHeartbeats 400000 in
theorem sValidSlice_any (f t b : Int) (hf ht : Bool) (w : World) : Calls Try.prog 25 #[.agg #[.int .i64 f, .int .i64 t, .int .i64 b, .bool hf, .bool ht]] w (Ret w (.bool (sliceB f t b hf ht))) := by
  go_enter Try.func25, Try.ntmps25
  go_wp2_with (go_at_call 66; refine (validSlice_any _ _ _ _ _ _).mono ?_; rintro e w1 ⟨rfl, hb1⟩)
  go_ret
  exact ⟨rfl, (by (repeat' (first | (with_reducible exact Below.refl _ _) | (with_reducible assumption) | (with_reducible refine Below.setCell ?_ ?_ _) | (with_reducible refine Below.al ?_ _) | (with_reducible refine Below.drew ?_) | (with_reducible refine Below.drN ?_ _) | (with_reducible refine Below.step ?_ (by assumption)) | (with_reducible refine Below.alloc ?_ ?_ _))); all_goals (simp; try omega))⟩
end Go.Proofs.Ytipgopapohigpaa
