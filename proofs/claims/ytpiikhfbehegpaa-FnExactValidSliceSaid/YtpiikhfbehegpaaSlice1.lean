/- The walks over slices of a range: what is a valid slice, the conversion of a slice. -/
import Derived.Test.YtpiikhfbehegpaaRange1
namespace Go.Proofs.Ytpiikhfbehegpaa
open Go.RowKit

def sliceB (f t b : Int) (hf ht : Bool) : Bool := decide (-100 ≤ f ∧ f ≤ 100 ∧ -100 ≤ t ∧ t ≤ 100 ∧ -200 ≤ b ∧ b ≤ 200 ∧ b ≠ 0 ∧ (hf = true ∨ f = 0) ∧ (ht = true ∨ t = 0))
theorem sliceB_eq (f t b : Int) (hf ht : Bool) : sliceB f t b hf ht = (inB f (-100) 100 && (inB t (-100) 100 && (inB b (-200) 200 && ((b != 0) && ((hf || f == 0) && (ht || t == 0)))))) := by
  cases hf <;> cases ht <;> rw [Bool.eq_iff_iff] <;> simp [sliceB, inB] <;> omega

set_option maxHeartbeats 800000 in
theorem isSlice_any (f t b : Int) (hf ht : Bool) (w : World) : Calls Try.prog 26 #[.agg #[.int .i64 f, .int .i64 t, .int .i64 b, .bool hf, .bool ht]] w (Ret w (.bool (sliceB f t b hf ht))) := by
  cases hf <;> cases ht
  all_goals
    go_enter Try.func26, Try.ntmps26
    go_wp2
    all_goals (go_ret; exact ⟨ret_bool (by go_light; rw [Bool.eq_iff_iff]; simp [sliceB] at *; first | omega | (intros; omega)), (by repeat (first | exact Below.refl _ _ | assumption | refine Below.al ?_ _ | refine Below.step ?_ (by assumption) | refine Below.drew ?_ | refine Below.setCell ?_ (by simp; try omega) _ | refine Below.alloc ?_ (by simp; try omega) _))⟩)

set_option maxHeartbeats 800000 in
theorem validSlice_any (f t b : Int) (hf ht : Bool) (w : World) : Calls Try.prog 25 #[.agg #[.int .i64 f, .int .i64 t, .int .i64 b, .bool hf, .bool ht]] w (Ret w (.bool (sliceB f t b hf ht))) := by
  cases hf <;> cases ht
  all_goals
    go_enter Try.func25, Try.ntmps25
    go_wp2_with (go_at_call 31; refine (inRange_any _ _ _ _).mono ?_; rintro e w' ⟨rfl, rfl⟩)
    all_goals (go_ret; exact ⟨ret_bool (by go_light; rw [Bool.eq_iff_iff]; simp [sliceB, inB] at *; first | omega | (intros; omega)), (by repeat (first | exact Below.refl _ _ | assumption | refine Below.al ?_ _ | refine Below.step ?_ (by assumption) | refine Below.drew ?_ | refine Below.setCell ?_ (by simp; try omega) _ | refine Below.alloc ?_ (by simp; try omega) _))⟩)

set_option maxHeartbeats 400000 in
theorem toSlice_any (f t b : Int) (hf ht : Bool) (w : World) : Calls Try.prog 13 #[.agg #[.int .i64 f, .int .i64 t, .int .i64 b, .bool hf, .bool ht]] w (Ret w (.agg #[.int .i64 f, .int .i64 t, .int .i64 b, .bool hf, .bool ht])) := by
  go_enter Try.func13, Try.ntmps13
  go_wp2
  exact bodyPost_ret (v := .agg #[.int .i64 f, .int .i64 t, .int .i64 b, .bool hf, .bool ht]) (by simp [results, Try.results13, go_sem]) rfl ⟨rfl, (by repeat (first | exact Below.refl _ _ | assumption | refine Below.al ?_ _ | refine Below.step ?_ (by assumption) | refine Below.drew ?_ | refine Below.setCell ?_ (by simp; try omega) _ | refine Below.alloc ?_ (by simp; try omega) _))⟩

set_option maxHeartbeats 400000 in
theorem iValidSlice_any (f t b : Int) (hf ht : Bool) (w : World) : Calls Try.prog 14 #[.agg #[.int .i64 f, .int .i64 t, .int .i64 b, .bool hf, .bool ht]] w (Ret w (.bool (sliceB f t b hf ht))) := by
  go_enter Try.func14, Try.ntmps14
  go_wp2_with (go_at_call 26; refine (isSlice_any _ _ _ _ _ _).mono ?_; rintro e w1 ⟨rfl, hb1⟩)
  go_ret
  exact ⟨rfl, (by repeat (first | exact Below.refl _ _ | assumption | refine Below.al ?_ _ | refine Below.step ?_ (by assumption) | refine Below.drew ?_ | refine Below.setCell ?_ (by simp; try omega) _ | refine Below.alloc ?_ (by simp; try omega) _))⟩
set_option maxHeartbeats 400000 in
theorem sValidSlice_any (f t b : Int) (hf ht : Bool) (w : World) : Calls Try.prog 12 #[.agg #[.int .i64 f, .int .i64 t, .int .i64 b, .bool hf, .bool ht]] w (Ret w (.bool (sliceB f t b hf ht))) := by
  go_enter Try.func12, Try.ntmps12
  go_wp2_with (go_at_call 25; refine (validSlice_any _ _ _ _ _ _).mono ?_; rintro e w1 ⟨rfl, hb1⟩)
  go_ret
  exact ⟨rfl, (by repeat (first | exact Below.refl _ _ | assumption | refine Below.al ?_ _ | refine Below.step ?_ (by assumption) | refine Below.drew ?_ | refine Below.setCell ?_ (by simp; try omega) _ | refine Below.alloc ?_ (by simp; try omega) _))⟩
end Go.Proofs.Ytpiikhfbehegpaa
