/- The walk of the exact law over valid slices. -/
import Derived.Test.YtpiikhfbehegpaaSlice1
namespace Go.Proofs.Ytpiikhfbehegpaa
open Go.RowKit
set_option maxHeartbeats 400000 in
theorem FnExactValidSlice_walk (f t b : Int) (hf ht : Bool) (w : World) : Calls Try.prog 5 #[.agg #[.int .i64 f, .int .i64 t, .int .i64 b, .bool hf, .bool ht]] w (Ret w (.bool true)) := by
  go_enter Try.func5, Try.ntmps5
  go_wp2_with fail
  refine (toSlice_any _ _ _ _ _ _).mono ?_; rintro e w1 ⟨rfl, g1⟩
  go_wp2_with fail
  refine (sValidSlice_any _ _ _ _ _ _).mono ?_; rintro e w2 ⟨rfl, hb2⟩; have g2 := g1.step hb2; have hc2 := bcel g2
  go_wp2_with fail
  refine (toSlice_any _ _ _ _ _ _).mono ?_; rintro e w3 ⟨rfl, hb3⟩; have g3 := g2.step hb3
  go_wp2_with fail
  refine (iValidSlice_any _ _ _ _ _ _).mono ?_; rintro e w4 ⟨rfl, hb4⟩; have g4 := g3.step hb4
  go_wp2_with fail
  go_ret
  exact ⟨rfl, (by repeat (first | exact Below.refl _ _ | assumption | refine Below.al ?_ _ | refine Below.step ?_ (by assumption) | refine Below.drew ?_ | refine Below.setCell ?_ (by simp; try omega) _ | refine Below.alloc ?_ (by simp; try omega) _))⟩
end Go.Proofs.Ytpiikhfbehegpaa
