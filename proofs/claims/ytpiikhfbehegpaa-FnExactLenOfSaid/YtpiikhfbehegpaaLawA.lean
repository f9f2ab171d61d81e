/- The walks of the exact laws over ranges. -/
import Derived.Test.YtpiikhfbehegpaaRange2
namespace Go.Proofs.Ytpiikhfbehegpaa
open Go.RowKit

set_option maxHeartbeats 400000 in
theorem iValidRange_any (a b c : Int) (w : World) : Calls Try.prog 11 #[.agg #[.int .i64 a, .int .i64 b, .int .i64 c]] w (Ret w (.bool (rangeB a b c))) := by
  go_enter Try.func11, Try.ntmps11
  go_wp2_with (go_at_call 24; refine (isRange_any _ _ _ _).mono ?_; rintro e w1 ⟨rfl, hb1⟩; obtain ⟨hc1, hf1⟩ := bcell hb1)
  go_ret
  exact ⟨rfl, (by repeat (first | exact Below.refl _ _ | assumption | refine Below.al ?_ _ | refine Below.step ?_ (by assumption) | refine Below.drew ?_ | refine Below.setCell ?_ (by simp; try omega) _ | refine Below.alloc ?_ (by simp; try omega) _))⟩
set_option maxHeartbeats 400000 in
theorem sValidRange_any (a b c : Int) (w : World) : Calls Try.prog 9 #[.agg #[.int .i64 a, .int .i64 b, .int .i64 c]] w (Ret w (.bool (rangeB a b c))) := by
  go_enter Try.func9, Try.ntmps9
  go_wp2_with (go_at_call 23; refine (validRange_any _ _ _ _).mono ?_; rintro e w1 ⟨rfl, hb1⟩; obtain ⟨hc1, hf1⟩ := bcell hb1)
  go_ret
  exact ⟨rfl, (by repeat (first | exact Below.refl _ _ | assumption | refine Below.al ?_ _ | refine Below.step ?_ (by assumption) | refine Below.drew ?_ | refine Below.setCell ?_ (by simp; try omega) _ | refine Below.alloc ?_ (by simp; try omega) _))⟩

set_option maxHeartbeats 400000 in
theorem FnExactValidRange_walk (a b c : Int) (w : World) : Calls Try.prog 4 #[.agg #[.int .i64 a, .int .i64 b, .int .i64 c]] w (Ret w (.bool true)) := by
  go_enter Try.func4, Try.ntmps4
  go_wp2_with fail
  refine (toRange_any _ _ _ _).mono ?_; rintro e w1 ⟨rfl, g1⟩
  go_wp2_with fail
  refine (sValidRange_any _ _ _ _).mono ?_; rintro e w2 ⟨rfl, hb2⟩; have g2 := g1.step hb2; have hc2 := bcel g2
  go_wp2_with fail
  refine (toRange_any _ _ _ _).mono ?_; rintro e w3 ⟨rfl, hb3⟩; have g3 := g2.step hb3
  go_wp2_with fail
  refine (iValidRange_any _ _ _ _).mono ?_; rintro e w4 ⟨rfl, hb4⟩; have g4 := g3.step hb4
  go_wp2_with fail
  go_ret
  exact ⟨rfl, (by repeat (first | exact Below.refl _ _ | assumption | refine Below.al ?_ _ | refine Below.step ?_ (by assumption) | refine Below.drew ?_ | refine Below.setCell ?_ (by simp; try omega) _ | refine Below.alloc ?_ (by simp; try omega) _))⟩
set_option maxHeartbeats 400000 in
theorem FnExactLenOf_walk (a b c : Int) (w : World) : Calls Try.prog 6 #[.agg #[.int .i64 a, .int .i64 b, .int .i64 c]] w (Ret w (.bool true)) := by
  go_enter Try.func6, Try.ntmps6
  go_wp2_with fail
  refine (toRange_any _ _ _ _).mono ?_; rintro e w1 ⟨rfl, g1⟩
  go_wp2_with fail
  refine (sLenOf_any _ _ _ _).mono ?_; rintro e w2 ⟨rfl, hb2⟩; have g2 := g1.step hb2; have hc2 := bcel g2
  go_wp2_with fail
  refine (toRange_any _ _ _ _).mono ?_; rintro e w3 ⟨rfl, hb3⟩; have g3 := g2.step hb3
  go_wp2_with fail
  refine (iLenOf_any _ _ _ _).mono ?_; rintro e w4 ⟨rfl, hb4⟩; have g4 := g3.step hb4
  go_wp2_with fail
  go_ret
  exact ⟨rfl, (by repeat (first | exact Below.refl _ _ | assumption | refine Below.al ?_ _ | refine Below.step ?_ (by assumption) | refine Below.drew ?_ | refine Below.setCell ?_ (by simp; try omega) _ | refine Below.alloc ?_ (by simp; try omega) _))⟩
set_option maxHeartbeats 400000 in
theorem FnExactSumOf_walk (a b c : Int) (w : World) : Calls Try.prog 7 #[.agg #[.int .i64 a, .int .i64 b, .int .i64 c]] w (Ret w (.bool true)) := by
  go_enter Try.func7, Try.ntmps7
  go_wp2_with fail
  refine (toRange_any _ _ _ _).mono ?_; rintro e w1 ⟨rfl, g1⟩
  go_wp2_with fail
  refine (sSumOf_any _ _ _ _).mono ?_; rintro e w2 ⟨rfl, hb2⟩; have g2 := g1.step hb2; have hc2 := bcel g2
  go_wp2_with fail
  refine (toRange_any _ _ _ _).mono ?_; rintro e w3 ⟨rfl, hb3⟩; have g3 := g2.step hb3
  go_wp2_with fail
  refine (iSumOf_any _ _ _ _).mono ?_; rintro e w4 ⟨rfl, hb4⟩; have g4 := g3.step hb4
  go_wp2_with fail
  go_ret
  exact ⟨rfl, (by repeat (first | exact Below.refl _ _ | assumption | refine Below.al ?_ _ | refine Below.step ?_ (by assumption) | refine Below.drew ?_ | refine Below.setCell ?_ (by simp; try omega) _ | refine Below.alloc ?_ (by simp; try omega) _))⟩
end Go.Proofs.Ytpiikhfbehegpaa
