/- The walk of the exact law over the cells with different values. -/
import Derived.Test.YtlnmembbbaooaaaChg1
import Derived.Test.YtlnmembbbaooaaaLists
set_option linter.unusedVariables false
namespace Go.Proofs.Ytlnmembbbaooaaa
open Go.RowKit
theorem blk_ne' {w w' : World} {B B' c c' : Nat} {A A' : Option Addr} {xs ys : List Int} (h : Own w B A c xs) (h' : Own w' B' A' c' ys) (hB : w.heap.size ≤ B') : blk A' = none ∨ blk A' ≠ blk A := by
  rcases hb : blk A' with _ | k
  · exact .inl rfl
  · refine .inr fun e => ?_
    have h1 := (h'.ge _ hb).1
    have h2 := (h.ge _ e.symm).2
    omega
set_option maxHeartbeats 6400000 in
theorem FnExactChangedBy_walk (A : Option Addr) (c : Nat) (ls : List Int) (A' : Option Addr) (c' : Nat) (bs : List Int) (w : World) (hr : Rd w w.heap.size .i64 A ls) (hl : ls.length ≤ maxLen) (hr' : Rd w w.heap.size .i64 A' bs) (hl' : bs.length ≤ maxLen) : Calls Try.prog 4 #[.slice A ls.length c, .slice A' bs.length c'] w (Ret w (.bool true)) := by
  have hl2 := hl
  have hl2' := hl'
  unfold maxLen at hl2 hl2'
  by_cases hbig : 1048576 < ls.length
  · go_enter Try.func4, Try.ntmps4
    go_wp2_with fail
    go_ret
    exact ⟨rfl, (by (repeat' (first | (with_reducible exact Below.refl _ _) | (with_reducible assumption) | (with_reducible refine Below.setCell ?_ ?_ _) | (with_reducible refine Below.al ?_ _) | (with_reducible refine Below.drew ?_) | (with_reducible refine Below.drN ?_ _) | (with_reducible refine Below.step ?_ (by assumption)) | (with_reducible refine Below.alloc ?_ ?_ _))); all_goals (simp; try omega))⟩
  by_cases hbig' : 1048576 < bs.length
  · go_enter Try.func4, Try.ntmps4
    go_wp2_with fail
    go_ret
    exact ⟨rfl, (by (repeat' (first | (with_reducible exact Below.refl _ _) | (with_reducible assumption) | (with_reducible refine Below.setCell ?_ ?_ _) | (with_reducible refine Below.al ?_ _) | (with_reducible refine Below.drew ?_) | (with_reducible refine Below.drN ?_ _) | (with_reducible refine Below.step ?_ (by assumption)) | (with_reducible refine Below.alloc ?_ ?_ _))); all_goals (simp; try omega))⟩
  have hxl := chg_le ls bs
  obtain ⟨xs, hxs⟩ : ∃ xs, xs = chg ls bs := ⟨_, rfl⟩
  have HXS := Lib.hid hxs
  rw [← hxs] at hxl
  clear hxs
  have HEa := Lib.hid (show eqB ls ls = true by simp [eqB])
  have HEb := Lib.hid (show eqB bs bs = true by simp [eqB])
  have HEx := Lib.hid (show eqB xs xs = true by simp [eqB])
  have al2 : ls.length ≤ maxLen := by simp only [maxLen]; omega
  have al : ls.length ≤ 2000000000 := by omega
  have bl2 : bs.length ≤ maxLen := by simp only [maxLen]; omega
  have bl : bs.length ≤ 2000000000 := by omega
  have xl2 : xs.length ≤ maxLen := by simp only [maxLen]; omega
  have xl : xs.length ≤ 2000000000 := by omega
  have hk : ¬ (1 + (ls.length : Int) + (bs.length : Int) < 0) := by omega
  go_enter Try.func4, Try.ntmps4
  go_wp2_with fail
  refine (toIntS_any _ _ _ _ hr al).mono ?_; rintro e w1 ⟨A1, c1, rfl, ho1, hb1⟩
  go_wp2_with fail
  refine (toIntS_any _ _ _ _ (hr'.to hb1) bl).mono ?_; rintro e w2 ⟨A2, c2, rfl, ho2, hb2⟩
  have g2 := hb1.step hb2
  have o12 := ho1.below hb2 (Nat.le_refl _)
  go_wp2_with fail
  refine (sChangedBy_any _ _ _ _ _ _ _ o12.rd ho2.rd al2 bl2).mono ?_; rw [← HXS.out]; rintro e w3 ⟨Aw, cw, rfl, how, hb3⟩
  have g3 := g2.step hb3
  have z3 := g3.size
  have v3 := how.rd
  go_wp2_with fail
  refine (toIntS_any _ _ _ _ (hr.to g3) al).mono ?_; rintro e w4 ⟨A4, c4, rfl, ho4, hb4⟩
  have g4 := g3.step hb4
  have z4 := hb4.size
  go_wp2_with fail
  refine (toIntS_any _ _ _ _ (hr'.to g4) bl).mono ?_; rintro e w5 ⟨A5, c5, rfl, ho5, hb5⟩
  have g5 := g4.step hb5
  have z5 := hb5.size
  have o45 := ho4.below hb5 (Nat.le_refl _)
  have hb35 := hb4.step hb5
  have v5 := v3.below hb35
  go_wp2_with fail
  refine (iChangedBy_any _ _ _ _ _ _ _ o45.rd ho5.rd al2 bl2).mono ?_; rw [← HXS.out]; rintro e w6 ⟨Ag, cg, rfl, hog, hb6⟩
  have z6 := hb6.size
  have v6 := v5.below (hb6.mono (by omega))
  have o46 := o45.below hb6 (Nat.le_refl _)
  have o56 := ho5.below hb6 (Nat.le_refl _)
  have g6 := g5.step hb6
  go_wp2_with fail
  refine (eqIntS_any _ _ _ _ _ _ _ _ _ hog.rd v6 xl2 xl2).mono ?_; rw [HEx.out]; rintro e w7 ⟨rfl, hb7⟩
  have g7 := g6.step hb7
  go_wp2_with fail
  refine (toIntS_any _ _ _ _ (hr.to g7) al).mono ?_; rintro e w8 ⟨A8, c8, rfl, ho8, hb8⟩
  have hb68 := hb7.step hb8
  go_wp2_with fail
  refine (eqIntS_any _ _ _ _ _ _ _ _ _ (o46.below hb68 (Nat.le_refl _)).rd ho8.rd al2 al2).mono ?_; rw [HEa.out]; rintro e w9 ⟨rfl, hb9⟩
  have hb69 := hb68.step hb9
  go_wp2_with fail
  refine (toIntS_any _ _ _ _ (hr'.to (g6.step hb69)) bl).mono ?_; rintro e w10 ⟨A10, c10, rfl, ho10, hb10⟩
  have hb610 := hb69.step hb10
  go_wp2_with fail
  refine (eqIntS_any _ _ _ _ _ _ _ _ _ (o56.below hb610 (Nat.le_refl _)).rd ho10.rd bl2 bl2).mono ?_; rw [HEb.out]; rintro e w11 ⟨rfl, hb11⟩
  have hb611 := hb610.step hb11
  have z11 := hb611.size
  have g11 := g6.step hb611
  have v11 := v6.below (hb611.mono (by omega))
  have o411 := o46.below hb611 (Nat.le_refl _)
  have o511 := o56.below hb611 (Nat.le_refl _)
  have og11 := hog.below hb611 (Nat.le_refl _)
  go_wp2_with fail
  refine (markIntS_any _ _ _ _ _ _ o411 al (by omega) (by omega)).mono ?_; rintro e w12 ⟨rfl, _, hg12⟩
  have z12 := hg12.size
  have hb12 : Below w3.heap.size w11 w12 := below_of_grown hg12 (by omega) (fun k hk => (ho4.ge k hk).1)
  have o512 := o511.kept hg12 (blk_ne' ho4 ho5 (Nat.le_refl _))
  have og12 := og11.kept hg12 (blk_ne' ho4 hog (by omega))
  have v12 := v11.below hb12
  have g12 : Below w.heap.size w w12 := g11.trans (hb12.mono (by omega))
  go_wp2_with fail
  refine (markIntS_any _ _ _ _ _ _ o512 bl (by omega) (by omega)).mono ?_; rintro e w13 ⟨rfl, _, hg13⟩
  have z13 := hg13.size
  have hb13 : Below w4.heap.size w12 w13 := below_of_grown hg13 (by omega) (fun k hk => (ho5.ge k hk).1)
  have og13 := og12.kept hg13 (blk_ne' ho5 hog (Nat.le_refl _))
  have v13 := v12.below (hb13.mono (by omega))
  have g13 : Below w.heap.size w w13 := g12.trans (hb13.mono (by omega))
  go_wp2_with fail
  refine (eqIntS_any _ _ _ _ _ _ _ _ _ og13.rd v13 xl2 xl2).mono ?_; rw [HEx.out]; rintro e w14 ⟨rfl, hb14⟩
  have z14 := hb14.size
  have og14 := og13.below hb14 (Nat.le_refl _)
  have v14 := v13.below (hb14.mono (by omega))
  have g14 := g13.step hb14
  go_wp2_with fail
  refine (markIntS_any _ _ _ _ _ _ og14 xl (by omega) (by omega)).mono ?_; rintro e w15 ⟨rfl, om15, hg15⟩
  have z15 := hg15.size
  have hb15 : Below w5.heap.size w14 w15 := below_of_grown hg15 (by omega) (fun k hk => (hog.ge k hk).1)
  have v15 := v14.below (hb15.mono (by omega))
  have g15 : Below w.heap.size w w15 := g14.trans (hb15.mono (by omega))
  have u15 : Rd w15 w15.heap.size .i64 Ag (upF 1 xs.length) := om15.rd
  go_wp2_with fail
  refine (heldIntS_any _ _ _ _ _ _ u15 xl (by omega) (by omega)).mono ?_; rintro e w15' ⟨rfl, rfl⟩
  go_wp2_with fail
  refine (toIntS_any _ _ _ _ (hr.to g15) al).mono ?_; rintro e w16 ⟨A16, c16, rfl, ho16, hb16⟩
  have g16 := g15.step hb16
  go_wp2_with fail
  refine (toIntS_any _ _ _ _ (hr'.to g16) bl).mono ?_; rintro e w17 ⟨A17, c17, rfl, ho17, hb17⟩
  have hb157 := hb16.step hb17
  have o167 := ho16.below hb17 (Nat.le_refl _)
  go_wp2_with fail
  refine (iChangedBy_any _ _ _ _ _ _ _ o167.rd ho17.rd al2 bl2).mono ?_; rw [← HXS.out]; rintro e w18 ⟨Ah, ch, rfl, hoh, hb18⟩
  have hb158 := hb157.step hb18
  have z18 := hb158.size
  have v18 := v15.below (hb158.mono (by omega))
  have u18 := u15.to hb158
  have g18 := g15.step hb158
  go_wp2_with fail
  refine (eqIntS_any _ _ _ _ _ _ _ _ _ hoh.rd v18 xl2 xl2).mono ?_; rw [HEx.out]; rintro e w19 ⟨rfl, hb19⟩
  have u19 := u18.to hb19
  have g19 := g18.step hb19
  go_wp2_with fail
  refine (heldIntS_any _ _ _ _ _ _ u19 xl (by omega) (by omega)).mono ?_; rintro e w19' ⟨rfl, rfl⟩
  go_wp2_with fail
  go_ret
  exact ⟨rfl, g19⟩
end Go.Proofs.Ytlnmembbbaooaaa
