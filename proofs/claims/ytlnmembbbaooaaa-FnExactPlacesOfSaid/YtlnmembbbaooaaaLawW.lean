/- The walk of the exact law over the places of the fields of an item. -/
import Derived.Test.YtlnmembbbaooaaaForm4
import Derived.Test.YtlnmembbbaooaaaBox
import Derived.Test.YtlnmembbbaooaaaLists
set_option linter.unusedVariables false
namespace Go.Proofs.Ytlnmembbbaooaaa
open Go.RowKit
set_option maxHeartbeats 800000 in
theorem markFormat_any (A : Option Addr) (c B : Nat) (bg al : Bool) (xs : List Int) (m : Int) (w : World) (hown : Own w B A c xs) (hl : xs.length ≤ 2000000000) (hm : 0 ≤ m) (hm' : m ≤ 1000000000) :
    Calls Try.prog 22 #[.agg #[.slice A xs.length c, .bool bg, .bool al], .int .i64 m] w fun e w' => e = .returned (.int .i64 (m + (xs.length : Int))) ∧ w.grownBy w' (blk A) := by
  go_enter Try.func22, Try.ntmps22
  go_wp2_with fail
  refine (markIntS_any _ _ _ _ _ _ (hown.alloc _) hl hm (by omega)).mono ?_; rintro e w1 ⟨rfl, _, hg1⟩
  go_wp2_with fail
  go_ret
  exact ⟨rfl, grown_trans (grown_alloc (World.grownBy.refl _ _) _) hg1⟩
set_option maxHeartbeats 6400000 in
theorem FnExactPlacesOf_walk (A : Option Addr) (c : Nat) (xs : List Int) (bg al : Bool) (w : World) (h0 : Rd w w.heap.size .i64 A xs) (hl : xs.length ≤ maxLen) : Calls Try.prog 6 #[.agg #[.slice A xs.length c, .bool bg, .bool al]] w (Ret w (.bool true)) := by
  by_cases hbig : 1048576 < xs.length
  · have HS := Lib.hid (sz1_hi hbig)
    clear hbig
    go_enter Try.func6, Try.ntmps6
    go_wp2_with fail
    refine (szFormat_any _ _ _ _ _ _ hl).mono ?_; rintro e w1 ⟨rfl, hb1⟩
    rw [HS.out]
    go_wp2_with fail
    go_ret
    exact ⟨rfl, (by (repeat' (first | (with_reducible exact Below.refl _ _) | (with_reducible assumption) | (with_reducible refine Below.setCell ?_ ?_ _) | (with_reducible refine Below.al ?_ _) | (with_reducible refine Below.drew ?_) | (with_reducible refine Below.drN ?_ _) | (with_reducible refine Below.step ?_ (by assumption)) | (with_reducible refine Below.alloc ?_ ?_ _))); all_goals (simp; try omega))⟩
  have HS := Lib.hid (sz1_lo (n := xs.length) (by omega))
  have h3 : ¬ (1048576 - (xs.length : Int) < 0) := by omega
  have ll : xs.length ≤ 2000000000 := by omega
  have hk : ¬ (1 + (xs.length : Int) < 0) := by omega
  have hpl := plA_len al xs
  obtain ⟨ps, hps⟩ : ∃ ps, ps = plA al xs := ⟨_, rfl⟩
  have HPS := Lib.hid hps
  rw [← hps] at hpl
  have pl : ps.length ≤ 2000000000 := by omega
  have pl2 : ps.length ≤ maxLen := by simp only [maxLen]; omega
  have HE := Lib.hid (show eqB ps ps = true by simp [eqB])
  clear hbig hps
  go_enter Try.func6, Try.ntmps6
  go_wp2_with fail
  refine (szFormat_any _ _ _ _ _ _ hl).mono ?_; rintro e w1 ⟨rfl, hb1⟩
  rw [HS.out]
  have a0 := (Below.refl w.heap.size w).al (.cells #[.slice A xs.length c, .bool bg, .bool al] 24)
  have g1 := a0.step hb1
  have BL1 := (Bq.made w (.slice A xs.length c) (.bool bg) (.bool al) 24).to hb1
  obtain ⟨zl, l0, l1, l2⟩ := BL1
  go_wp2_with fail
  refine (toFormat_any _ _ _ _ _ _ (h0.to g1) ll).mono ?_; rintro e w2 ⟨A2, c2, rfl, ho2, hb2⟩
  go_wp2_with fail
  refine (sPlacesOf_any _ _ _ _ _ _ ho2.rd hl).mono ?_; rw [← HPS.out]; rintro e w3 ⟨Aw, cw, rfl, how, hb3⟩
  have hb13 := hb2.step hb3
  have g3 := g1.step hb13
  have z13 := hb13.size
  have BL3 := (show Bq w1 w.heap.size (.slice A xs.length c) (.bool bg) (.bool al) from ⟨zl, l0, l1, l2⟩).to hb13
  clear zl l0 l1 l2
  have v3 := how.rd
  obtain ⟨zl, l0, l1, l2⟩ := BL3
  go_wp2_with fail
  refine (toFormat_any _ _ _ _ _ _ (h0.to g3) ll).mono ?_; rintro e w4 ⟨A4, c4, rfl, ho4, hb4⟩
  have g4 := g3.step hb4
  have z4 := hb4.size
  have BL4 := (show Bq w3 w.heap.size (.slice A xs.length c) (.bool bg) (.bool al) from ⟨zl, l0, l1, l2⟩).to hb4
  clear zl l0 l1 l2
  have v4 := v3.below hb4
  have BX4 := Bq.made w4 (.slice A4 xs.length c4) (.bool bg) (.bool al) 27
  have a4 := (Below.refl w4.heap.size w4).al (.cells #[.slice A4 xs.length c4, .bool bg, .bool al] 27)
  go_wp2_with fail
  refine (iPlacesOf_any _ _ _ _ _ _ (ho4.rd.to a4) hl).mono ?_; rw [← HPS.out]; rintro e w5 ⟨Ag, cg, rfl, hog, hb5⟩
  have z5 := hb5.size
  simp at z5
  have hb45 := a4.step hb5
  have BL5 := BL4.to hb45
  have BX5 := BX4.to hb5
  have v5 := v4.below (hb45.mono z4)
  have o45 := ho4.below hb45 (Nat.le_refl _)
  have g5 := g4.step hb45
  go_wp2_with fail
  refine (eqIntS_any _ _ _ _ _ _ _ _ _ hog.rd v5 pl2 pl2).mono ?_; rw [HE.out]; rintro e w6 ⟨rfl, hb6⟩
  have z6 := hb6.size
  have BL6 := BL5.to hb6
  have BX6 := BX5.to hb6
  have v6 := v5.below (hb6.mono (by omega))
  have o46 := o45.below hb6 (Nat.le_refl _)
  have og6 := hog.below hb6 (Nat.le_refl _)
  have g6 := g5.step hb6
  have r46 : Rd w6.drew w6.drew.heap.size .i64 A4 xs := o46.rd
  have q6 : Rd w6.drew w6.drew.heap.size .i64 A xs := (h0.to g6).drew
  obtain ⟨zl, l0, l1, l2⟩ := BL6
  obtain ⟨zx, x0, x1, x2⟩ := BX6
  go_wp2_with fail
  refine wp_region_noPanic ?_
  refine wp_region_held_drew (S := (fun w' => Below w6.heap.size w6 w' ∧ ∀ bb oo, bb < w6.heap.size → w'.cell? ⟨bb, oo, none⟩ = w6.cell? ⟨bb, oo, none⟩)) (by kernel_rfl) ?_ (fun hHeld => ?_)
  · ((refine keepB ?_) <;> (repeat' (first | (with_reducible assumption) | (with_reducible exact Below.refl _ _) | (with_reducible refine Below.drew ?_) | (with_reducible refine Below.step ?_ (by assumption)))))
  refine wpAnyH_take (i := 0) (oi := ⟨some 27, _, _, _, _, _⟩) (v := ?_) rfl (by kernel_rfl) (by kernel_rfl) (by kernel_rfl) (fun _ _ _ h => h) (Or.inl ⟨by rfl, ?_⟩) (by assumption) ?_
  rotate_left
  · ((intro w hSw; (try dsimp only at hSw); go_simp) <;> (with_reducible rfl))
  (try simp only [Act.put, List.setIfInBounds_toArray, List.set_cons_zero, List.set_cons_succ])
  refine wpAnyH_take (i := 1) (oi := ⟨some 28, _, _, _, _, _⟩) (v := ?_) rfl (by kernel_rfl) (by kernel_rfl) (by kernel_rfl) (fun _ _ _ h => h) (Or.inl ⟨by rfl, ?_⟩) (by assumption) ?_
  rotate_left
  · ((intro w hSw; (try dsimp only at hSw); go_simp) <;> (with_reducible rfl))
  (try simp only [Act.put, List.setIfInBounds_toArray, List.set_cons_zero, List.set_cons_succ])
  refine wpAnyH_ready (rs := [2]) (by kernel_rfl) (by simp) ?_
  refine AllReadyH.cons (o := ⟨some 29, _, _, _, _, _⟩) rfl (fun K hK => ?_) AllReadyH.nil
  go_simp
  (refine (toFormat_any _ _ _ _ _ _ q6 ll).mono ?_; rintro e1 w6a ⟨A6, c6, rfl, ho6, hb6a⟩)
  refine hK.out _ _ ?_ (fun hHeld => ?_)
  · ((refine keepB ?_) <;> (repeat' (first | (with_reducible assumption) | (with_reducible exact Below.refl _ _) | (with_reducible refine Below.drew ?_) | (with_reducible refine Below.step ?_ (by assumption)))))
  clear hK K
  (try simp only [Act.put, List.setIfInBounds_toArray, List.set_cons_zero, List.set_cons_succ])
  refine wpAnyH_ready (rs := [3]) (by kernel_rfl) (by simp) ?_
  refine AllReadyH.cons (o := ⟨some 30, _, _, _, _, _⟩) rfl (fun K hK => ?_) AllReadyH.nil
  go_simp
  (refine (eqFormat_same _ _ _ _ _ _ _ _ (r46.to hb6a) ho6.rd hl).mono ?_; rintro e2 w7 ⟨rfl, hb6b⟩)
  refine hK.out _ _ ?_ (fun hHeld => ?_)
  · ((refine keepB ?_) <;> (repeat' (first | (with_reducible assumption) | (with_reducible exact Below.refl _ _) | (with_reducible refine Below.drew ?_) | (with_reducible refine Below.step ?_ (by assumption)))))
  clear hK K
  (try simp only [Act.put, List.setIfInBounds_toArray, List.set_cons_zero, List.set_cons_succ])
  refine wpAnyH_take (i := 4) (oi := ⟨some 31, _, _, _, _, _⟩) (v := ?_) rfl (by kernel_rfl) (by kernel_rfl) (by kernel_rfl) (fun _ _ _ h => h) (Or.inl ⟨by rfl, ?_⟩) (by assumption) ?_
  rotate_left
  · ((intro w hSw; (try dsimp only at hSw); go_simp) <;> (with_reducible rfl))
  (try simp only [Act.put, List.setIfInBounds_toArray, List.set_cons_zero, List.set_cons_succ])
  refine wpAnyH_done (by kernel_rfl) ?_ _
  refine NoPanic.normal ?_
  have hb7 := hHeld.1
  clear hHeld hb6a hb6b
  have BL7 := (show Bq w6 w.heap.size (.slice A xs.length c) (.bool bg) (.bool al) from ⟨zl, l0, l1, l2⟩).to hb7
  have BX7 := (show Bq w6 w4.heap.size (.slice A4 xs.length c4) (.bool bg) (.bool al) from ⟨zx, x0, x1, x2⟩).to hb7
  clear zl l0 l1 l2 zx x0 x1 x2
  have z7 := hb7.size
  have v7 := v6.below (hb7.mono (by omega))
  have o47 := o46.below hb7 (Nat.le_refl _)
  have og7 := og6.below hb7 (Nat.le_refl _)
  have g7 := g6.step hb7
  obtain ⟨zx, x0, x1, x2⟩ := BX7
  go_wp2_with fail
  refine (markFormat_any _ _ _ _ _ _ _ _ o47 ll (by omega) (by omega)).mono ?_; rintro e w8 ⟨rfl, hg8⟩
  clear zx x0 x1 x2
  have z8 := hg8.size
  have hb8 : Below w3.heap.size w7 w8 := below_of_grown hg8 (by omega) (fun k hk => (ho4.ge k hk).1)
  have BL8 := BL7.lower (by have := BL4.1; have := a0.size; have := g1.size; have z0 := hb1.size; simp at z0; omega) hb8
  have v8 := v7.below hb8
  have og8 := og7.kept hg8 (blk_sep ho4 hog (by simp))
  have g8 : Below w.heap.size w w8 := g7.trans (hb8.mono g3.size)
  go_wp2_with fail
  refine (eqIntS_any _ _ _ _ _ _ _ _ _ og8.rd v8 pl2 pl2).mono ?_; rw [HE.out]; rintro e w9 ⟨rfl, hb9⟩
  have z9 := hb9.size
  have BL9 := BL8.to hb9
  have v9 := v8.below (hb9.mono (by omega))
  have og9 := og8.below hb9 (Nat.le_refl _)
  have g9 := g8.step hb9
  go_wp2_with fail
  refine (markIntS_any _ _ _ _ _ _ og9 pl (by omega) (by omega)).mono ?_; rintro e w10 ⟨rfl, om10, hg10⟩
  have z10 := hg10.size
  have hb10 : Below w4.heap.size w9 w10 := below_of_grown hg10 (by omega) (fun k hk => by have := (hog.ge k hk).1; simp at this; omega)
  have BL10 := BL9.lower (by have := BL4.1; omega) hb10
  have v10 := v9.below (hb10.mono z4)
  have g10 : Below w.heap.size w w10 := g9.trans (hb10.mono g4.size)
  have u10 : Rd w10 w10.heap.size .i64 Ag (upF 1 ps.length) := om10.rd
  go_wp2_with fail
  refine (heldIntS_any _ _ _ _ _ _ u10 pl (by omega) (by omega)).mono ?_; rintro e w10' ⟨rfl, rfl⟩
  obtain ⟨zl, l0, l1, l2⟩ := BL10
  go_wp2_with fail
  refine (toFormat_any _ _ _ _ _ _ (h0.to g10) ll).mono ?_; rintro e w11 ⟨A11, c11, rfl, ho11, hb11⟩
  clear zl l0 l1 l2
  go_wp2_with fail
  refine (iPlacesOf_any _ _ _ _ _ _ ho11.rd hl).mono ?_; rw [← HPS.out]; rintro e w12 ⟨Ah, ch, rfl, hoh, hb12⟩
  have hb102 := hb11.step hb12
  have v12 := v10.below (hb102.mono (by omega))
  have u12 := u10.to hb102
  have g12 := g10.step hb102
  go_wp2_with fail
  refine (eqIntS_any _ _ _ _ _ _ _ _ _ hoh.rd v12 pl2 pl2).mono ?_; rw [HE.out]; rintro e w13 ⟨rfl, hb13'⟩
  have u13 := u12.to hb13'
  have g13 := g12.step hb13'
  go_wp2_with fail
  refine (heldIntS_any _ _ _ _ _ _ u13 pl (by omega) (by omega)).mono ?_; rintro e w13' ⟨rfl, rfl⟩
  go_wp2_with fail
  go_ret
  exact ⟨rfl, g13⟩
end Go.Proofs.Ytlnmembbbaooaaa
