/- The walk of the exact law over the dealing of a range. -/
import Derived.Test.YtoejfpncpgoboaaDeal5
set_option linter.unusedSimpArgs false
set_option linter.unusedVariables false
namespace Go.Proofs.Ytoejfpncpgoboaa
open Go.RowKit
set_option maxHeartbeats 3200000 in
theorem FnExactDealRange_walk (a b c x : Int) (w : World) : Calls Try.prog 10 #[.agg #[.int .i64 a, .int .i64 b, .int .i64 c], .int .i64 x] w (Ret w (.bool true)) := by
  obtain ⟨rs, HR, hrl⟩ : ∃ rs : List Rg, Hid (dealR a b c x = rs) ∧ rs.length ≤ 6 := by
    refine ⟨_, rfl, ?_⟩
    unfold dealR
    split
    · rename_i h
      rw [dealL_length]; omega
    · simp
  have rl : rs.length ≤ 1000 := by omega
  obtain ⟨M, HM⟩ : ∃ M : Int, Hid (1 + ((rs.length * 3 : Nat) : Int) = M) := ⟨_, rfl⟩
  have hM : ¬ M < 0 := by have := HM.out; omega
  go_enter Try.func10, Try.ntmps10
  go_wp2_with fail
  refine (toRange_any _ _ _ _).mono ?_; rintro e w1 ⟨rfl, g1⟩
  go_wp2_with fail
  refine (sDealRange_any _ _ _ _ _).mono ?_; rw [HR.out]; rintro e w2 ⟨Aw, cw, rfl, how, hb2⟩; have g2 := g1.step hb2; have hc2 := bcel g2
  have z1 := g1.size
  simp at z1
  have z2 := hb2.size
  have v2 := how.rd
  go_wp2_with fail
  refine (toRange_any _ _ _ _).mono ?_; rintro e w3 ⟨rfl, hb3⟩; have g3 := g2.step hb3
  have z3 := hb3.size
  have v3 := v2.to hb3
  go_wp2_with fail
  refine (iDealRange_any _ _ _ _ _).mono ?_; rw [HR.out]; rintro e w4 ⟨A4, c4, rfl, ho4, hb4⟩; have g4 := g3.step hb4
  have z4 := hb4.size
  have v4 := v3.to hb4
  have hA := ho4.ge
  have hwg := how.ge
  clear hc2
  go_wp2_with fail
  refine (eqRangeS_same _ _ _ _ _ _ ho4.rd v4 rl).mono ?_; rintro e w5 ⟨rfl, hb5⟩; have g5 := g4.step hb5
  have z5 := hb5.size
  have v5 := v4.to hb5
  have k5 := (ho4.mka 1).below hb5 fun k hk => (hA k hk).2
  have hd : blk Aw = none ∨ blk Aw ≠ blk A4 := by
    rcases h : blk Aw with _ | k
    · exact .inl rfl
    · refine .inr fun e => ?_
      have := (hwg _ h).2
      have := (hA _ e.symm).1
      omega
  go_wp2_with fail
  refine (markRangeS_any _ _ _ _ _ k5 rl (by omega) (by omega)).mono ?_; rw [HM.out]; rintro e w6 ⟨rfl, k6, hg6⟩
  have z6 := hg6.size
  have v6 := (v5.kept hg6 hd).more z6
  have g6 := g5.trans (below_of_grown hg6 g5.size (fun k hk => by have := hA k hk; simp; omega))
  go_wp2_with fail
  refine (heldRangeS_any _ _ _ _ _ k6 rl (by omega) (by omega)).mono ?_; rw [HM.out]; rintro e w7 ⟨rfl, rfl⟩
  have hc6 := bcel g6
  go_wp2_with fail
  refine (toRange_any _ _ _ _).mono ?_; rintro e w8 ⟨rfl, hb8⟩; have g8 := g6.step hb8
  have z8 := hb8.size
  have v8 := v6.to hb8
  have k8 := k6.below hb8 fun k hk => by have := hA k hk; omega
  go_wp2_with fail
  refine (iDealRange_any _ _ _ _ _).mono ?_; rw [HR.out]; rintro e w9 ⟨A9, c9, rfl, ho9, hb9⟩; have g9 := g8.step hb9
  have z9 := hb9.size
  have v9 := v8.to hb9
  have k9 := k8.below hb9 fun k hk => by have := hA k hk; omega
  go_wp2_with fail
  refine (eqRangeS_same _ _ _ _ _ _ ho9.rd v9 rl).mono ?_; rintro e w10 ⟨rfl, hb10⟩; have g10 := g9.step hb10
  have k10 := k9.below hb10 fun k hk => by have := hA k hk; omega
  go_wp2_with fail
  refine (heldRangeS_any _ _ _ _ _ k10 rl (by omega) (by omega)).mono ?_; rw [HM.out]; rintro e w11 ⟨rfl, rfl⟩
  go_wp2_with fail
  go_ret
  exact ⟨rfl, (by (repeat' (first | (with_reducible exact Below.refl _ _) | (with_reducible assumption) | (with_reducible refine Below.setCell ?_ ?_ _) | (with_reducible refine Below.al ?_ _) | (with_reducible refine Below.drew ?_) | (with_reducible refine Below.drN ?_ _) | (with_reducible refine Below.step ?_ (by assumption)) | (with_reducible refine Below.alloc ?_ ?_ _))); all_goals (simp; try omega))⟩
end Go.Proofs.Ytoejfpncpgoboaa
