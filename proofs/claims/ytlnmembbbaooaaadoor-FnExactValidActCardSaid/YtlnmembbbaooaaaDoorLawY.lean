/- The walks of the exact laws over what is an act. -/
import Derived.Test.YtlnmembbbaooaaaDoorAct1
import Derived.Test.YtlnmembbbaooaaaDoorStep
import Derived.Deep.DeepCutAuto
set_option linter.unusedVariables false
namespace Go.Proofs.YtlnmembbbaooaaaDoor
open Go.RowKit
set_option maxHeartbeats 3200000 in
theorem FnExactValidAct_walk (k : Int) (A : Option Addr) (c : Nat) (xs : List Int) (w : World) (h0 : Rd w w.heap.size .i64 A xs) (hl : xs.length ≤ maxLen) (ht : Tab w) : Calls Tryd.prog 3 #[.agg #[.int .i64 k, .slice A xs.length c]] w (Ret w (.bool true)) := by
  have HT := Lib.hid ht
  clear ht
  by_cases hbig : 1048576 < xs.length
  · have HS := Lib.hid (sz1_hi hbig)
    clear hbig
    go_enter Tryd.func3, Tryd.ntmps3
    go_wp2_with fail
    refine (szAct_any _ _ _ _ 0 _ hl).mono ?_; rintro e w1 ⟨rfl, hb1⟩
    rw [HS.out]
    go_wp2_with fail
    go_ret
    exact ⟨rfl, (by (repeat' (first | (with_reducible exact Below.refl _ _) | (with_reducible assumption) | (with_reducible refine Below.setCell ?_ ?_ _) | (with_reducible refine Below.al ?_ _) | (with_reducible refine Below.drew ?_) | (with_reducible refine Below.drN ?_ _) | (with_reducible refine Below.step ?_ (by assumption)) | (with_reducible refine Below.alloc ?_ ?_ _))); all_goals (simp; try omega))⟩
  · have HS := Lib.hid (sz1_lo (n := xs.length) (by omega))
    have h3 : ¬ (1048576 - (xs.length : Int) < 0) := by omega
    have ll : xs.length ≤ 2000000000 := by omega
    clear hbig
    go_enter Tryd.func3, Tryd.ntmps3
    go_wp2_with fail
    refine (szAct_any _ _ _ _ 0 _ hl).mono ?_; rintro e w1 ⟨rfl, hb1⟩
    rw [HS.out]
    have g1 := (Below.refl w.heap.size w).alloc (Nat.le_refl _) (.cells #[.int .i64 k, .slice A xs.length c] 24) |>.step hb1
    have hc1 := bcel hb1
    have z1 := hb1.size
    simp at z1
    have z1x := Nat.lt_of_succ_le z1
    go_wp2_with fail
    refine (toAct_any _ _ _ _ _ (h0.to g1) ll).mono ?_; rintro e w2 ⟨A2, c2, rfl, ho2, hb2⟩
    go_wp2_with fail
    refine (sValidAct_any _ _ _ _ _ ho2.rd hl (HT.out.to (g1.step hb2))).mono ?_; rintro e w3 ⟨rfl, hb3⟩
    have hb13 := hb2.step hb3
    have g3 := g1.step hb13
    have hc3 := bcel hb13
    have z3 := hb13.size
    have z3x := Nat.lt_of_lt_of_le z1x z3
    go_wp2_with fail
    refine (toAct_any _ _ _ _ _ (h0.to g3) ll).mono ?_; rintro e w4 ⟨A4, c4, rfl, ho4, hb4⟩
    have g4 := g3.step hb4
    have hc4 := bcel hb4
    have z4 := hb4.size
    have z4x := Nat.lt_of_lt_of_le z3x z4
    have r4 := ho4.rd
    go_wp2_with fail
    refine (iValidAct_any _ _ _ _ _ ((r4.alloc (Nat.le_refl _) _).more (by simp <;> omega)) hl ((HT.out.to g4).alloc _)).mono ?_; rintro e w5 ⟨rfl, hb5⟩
    have hb45 := ((Below.refl w4.heap.size w4).al _).step hb5
    have g5 := g4.step hb45
    have hc5 := bcel hb5
    have z5 := hb5.size
    simp at z5
    have z5x := Nat.lt_of_succ_le z5
    have r5 := r4.to hb45
    have q5 := h0.to g5
    have p0 : ∀ o, w5.cell? ⟨w.heap.size, o, none⟩ = (w.alloc (.cells #[.int .i64 k, .slice A xs.length c] 24)).cell? ⟨w.heap.size, o, none⟩ := fun o => by
      rw [hc5 _ _ (by simp; omega), World.cell?_alloc_lt _ _ _ (by simp; omega), hc4 _ _ (by omega), hc3 _ _ (by omega), hc1 _ _ (by simp)]
    have p1 : ∀ o, w5.cell? ⟨w4.heap.size, o, none⟩ = (w4.alloc (.cells #[.int .i64 k, .slice A4 xs.length c4] 27)).cell? ⟨w4.heap.size, o, none⟩ := fun o => hc5 _ _ (by simp)
    have p00 := p0 0
    have p01 := p0 1
    have p10 := p1 0
    have p11 := p1 1
    simp [go_sem] at p00 p01 p10 p11
    have zz0 : w.heap.size < w5.heap.size := by omega
    have zz4 : w4.heap.size < w5.heap.size := by omega
    clear hc5 hc4 hc3 hc1 p0 p1
    go_upto_region 10 with fail
    go_cut [26] (fun s26 wx => s26 = .bool false ∧ Below w5.heap.size w5 wx)
    case first =>
      go_region_held3 (fun w' => Below w5.heap.size w5 w' ∧ ∀ bb oo, bb < w5.heap.size → w'.cell? ⟨bb, oo, none⟩ = w5.cell? ⟨bb, oo, none⟩) ((refine keepB ?_) <;> (repeat' (first | (with_reducible assumption) | (with_reducible exact And.left (by assumption)) | (with_reducible exact Below.refl _ _) | (with_reducible exact Below.size (And.left (by assumption))) | (with_reducible refine Below.drew ?_) | (with_reducible refine Below.drN ?_ _) | (with_reducible refine Below.al ?_ _) | (with_reducible refine Below.step ?_ (by assumption)) | (with_reducible refine Below.setCell ?_ ?_ _) | (with_reducible refine Below.alloc ?_ ?_ _) | (simp <;> omega))))
        (first
          | (go_at_call 6; refine (toAct_any _ _ _ _ _ q5.drew ll).mono ?_; rintro e w6 ⟨A6, c6, rfl, ho6, hb6⟩; have r6 := r5.drew.to hb6)
          | (go_at_call 8; refine (eqAct_same _ _ _ _ _ _ _ r6 ho6.rd hl).mono ?_; rintro e w7 ⟨rfl, hb7⟩)
          | fail)
      all_goals go_wp2_with fail
      all_goals go_meet
      all_goals (refine ⟨rfl, ?_⟩)
      all_goals (repeat' (first | (with_reducible assumption) | (with_reducible exact And.left (by assumption)) | (with_reducible exact Below.refl _ _) | (with_reducible exact Below.size (And.left (by assumption))) | (with_reducible refine Below.drew ?_) | (with_reducible refine Below.drN ?_ _) | (with_reducible refine Below.al ?_ _) | (with_reducible refine Below.step ?_ (by assumption)) | (with_reducible refine Below.setCell ?_ ?_ _) | (with_reducible refine Below.alloc ?_ ?_ _) | (simp <;> omega)))
    case rest =>
      obtain ⟨rfl, hbw⟩ := hcut
      go_wp2_with fail
      go_ret
      exact ⟨rfl, g5.step hbw⟩
end Go.Proofs.YtlnmembbbaooaaaDoor
