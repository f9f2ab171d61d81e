/- The walks over formats: the size of an item; the places of its fields. -/
import Derived.Test.YtdhhdkncglhgfaaForm3
set_option linter.unusedVariables false
namespace Go.Proofs.Ytdhhdkncglhgfaa
open Go.RowKit
theorem keepB1 {W w1 : World} {p : Addr} {v : Value} (hp : p.block < W.heap.size) (hc : W.cell? p = some v) (h : Below W.heap.size W w1) : Below W.heap.size W w1 ∧ (∀ b o, b < W.heap.size → w1.cell? ⟨b, o, none⟩ = W.cell? ⟨b, o, none⟩) ∧ w1.cell? p = some v := ⟨h, bcel h, (h.cell hp).trans hc⟩
set_option maxHeartbeats 3200000 in
theorem itemSize_t (A : Option Addr) (c : Nat) (bg : Bool) (xs : List Int) (w : World) (h0 : Rd w w.heap.size .i64 A xs) (h1 : 1 ≤ xs.length) (hl : xs.length ≤ 5) (hs : SzL xs) :
    Calls Try.prog 91 #[.agg #[.slice A xs.length c, .bool bg, .bool true]] w (Ret w (.int .i64 (itS true xs))) := by
  have HS := Lib.hid hs
  obtain ⟨m, hm⟩ : ∃ m, xs.length = m + 1 := ⟨xs.length - 1, by omega⟩
  obtain ⟨ad, y, rfl, had, hcell, HY⟩ := h0.get (j := m) (by omega)
  have i1 : (0 : Int) ≤ (xs.length : Int) - 1 := by omega
  have i2 : (xs.length : Int) - 1 < (xs.length : Int) := by omega
  have i3 : ((xs.length : Int) - 1).toNat = m := by omega
  have i4 : (1 : Int) ≤ (xs.length : Int) := by omega
  have hy : Sz y := by rw [HY.out]; exact hs m (by omega)
  have hy2 : 1 ≤ y ∧ y ≤ 4 := by rcases hy with e | e | e <;> omega
  have hb1 := fAt_bd (al := true) hs m (by omega)
  have hb2 := fPl_bd (al := true) hs m (by omega)
  have hb3 := fAt_bd (al := true) hs xs.length (Nat.le_refl _)
  have HLL := Lib.hid (fPs_length true xs xs.length)
  obtain ⟨y1, y2⟩ := hy2
  have HIT : Hid (itS true xs = rup (fAt true xs xs.length) (fMx true xs xs.length)) := rfl
  have HF : Hid (fAt true xs xs.length = fPl true xs m + y) := by show _ = _; rw [hm, fAt_succ, HY.out]
  have HG : Hid ((fPs true xs xs.length).getD m 0 = fPl true xs m) := fPs_get _ _ _ _ (by omega)
  have HMX := Lib.hid (fMx_sz (al := true) hs xs.length (Nat.le_refl _))
  have HML : Hid (mxL xs (xs.length - 1) = fMx true xs xs.length) := by
    have := mxL_eq hs m (by omega)
    show _ = _
    rw [show xs.length - 1 = m by omega, this, hm]
  have HM := Lib.hid hm
  clear hs hy hm
  obtain ⟨r, hr⟩ : ∃ r, r = fPl true xs m := ⟨_, rfl⟩
  rw [← hr] at hb2 HF HG
  rw [HF.out] at hb3
  have ws : IntKind.i64.wrap (r + y) = r + y := IntWalk.i64_in _ (by omega)
  clear hr
  go_enter Try.func91, Try.ntmps91
  go_wp2_with fail
  obtain ⟨W, hW⟩ : ∃ W, W = w.alloc (.cells #[.slice (some ad) xs.length c, .bool bg, .bool true] 37) := ⟨_, rfl⟩
  rw [← hW]
  have zW : W.heap.size = w.heap.size + 1 := by rw [hW]; simp
  have p0 : W.cell? ⟨w.heap.size, 0, none⟩ = some (.slice (some ad) xs.length c) := by rw [hW]; simp [go_sem]
  have p1 : W.cell? ⟨w.heap.size, 1, none⟩ = some (.bool bg) := by rw [hW]; simp [go_sem]
  have p2 : W.cell? ⟨w.heap.size, 2, none⟩ = some (.bool true) := by rw [hW]; simp [go_sem]
  have hpb : (ad.add m).block < W.heap.size := by rw [addBlock]; omega
  have hpc : W.cell? (ad.add m) = some (.int .i64 y) := by rw [hW, World.cell?_alloc_lt _ _ _ (by rw [addBlock]; omega)]; exact hcell
  have rX0 : Rd W W.heap.size .i64 (some ad) xs := by rw [hW]; exact (h0.alloc (Nat.le_refl _) _).more (by simp)
  have rX : Rd W.drew W.drew.heap.size .i64 (some ad) xs := rX0
  have z1 : w.heap.size < W.heap.size := by omega
  have gW : Below w.heap.size w W := by rw [hW]; exact (Below.refl _ _).alloc (Nat.le_refl _) _
  have HZ := Lib.hid zW
  clear hW zW hcell h0
  refine wp_region_noPanic ?_
  refine wp_region_held_drew (S := (fun w' => Below W.heap.size W w' ∧ (∀ bb oo, bb < W.heap.size → w'.cell? ⟨bb, oo, none⟩ = W.cell? ⟨bb, oo, none⟩) ∧ w'.cell? (ad.add m) = some (.int .i64 y))) (by kernel_rfl) ?_ (fun hHeld => ?_)
  · ((refine keepB1 hpb hpc ?_) <;> (repeat' (first | (with_reducible assumption) | (with_reducible exact Below.refl _ _) | (with_reducible refine Below.drew ?_) | (with_reducible refine Below.step ?_ (by assumption)))))
  refine wpAnyH_take (i := 0) (oi := ⟨some 9, _, _, _, _, _⟩) (v := ?_) rfl (by kernel_rfl) (by kernel_rfl) (by kernel_rfl) (fun _ _ _ h => h) (Or.inl ⟨by rfl, ?_⟩) (by assumption) ?_
  rotate_left
  · ((intro w hSw; (try dsimp only at hSw); go_simp) <;> (with_reducible rfl))
  (try simp only [Act.put, List.setIfInBounds_toArray, List.set_cons_zero, List.set_cons_succ])
  refine wpAnyH_take (i := 2) (oi := ⟨some 11, _, _, _, _, _⟩) (v := ?_) rfl (by kernel_rfl) (by kernel_rfl) (by kernel_rfl) (fun _ _ _ h => h) (Or.inl ⟨by rfl, ?_⟩) (by assumption) ?_
  rotate_left
  · ((intro w hSw; (try dsimp only at hSw); go_simp) <;> (with_reducible rfl))
  (try simp only [Act.put, List.setIfInBounds_toArray, List.set_cons_zero, List.set_cons_succ])
  refine wpAnyH_take (i := 5) (oi := ⟨some 14, _, _, _, _, _⟩) (v := ?_) rfl (by kernel_rfl) (by kernel_rfl) (by kernel_rfl) (fun _ _ _ h => h) (Or.inl ⟨by rfl, ?_⟩) (by assumption) ?_
  rotate_left
  · ((intro w hSw; (try dsimp only at hSw); go_simp) <;> (with_reducible rfl))
  (try simp only [Act.put, List.setIfInBounds_toArray, List.set_cons_zero, List.set_cons_succ])
  refine wpAnyH_take (i := 6) (oi := ⟨some 15, _, _, _, _, _⟩) (v := ?_) rfl (by kernel_rfl) (by kernel_rfl) (by kernel_rfl) (fun _ _ _ h => h) (Or.inl ⟨by rfl, ?_⟩) (by assumption) ?_
  rotate_left
  · ((intro w hSw; (try dsimp only at hSw); go_simp) <;> (with_reducible rfl))
  (try simp only [Act.put, List.setIfInBounds_toArray, List.set_cons_zero, List.set_cons_succ])
  refine wpAnyH_take (i := 7) (oi := ⟨some 16, _, _, _, _, _⟩) (v := ?_) rfl (by kernel_rfl) (by kernel_rfl) (by kernel_rfl) (fun _ _ _ h => h) (Or.inl ⟨by rfl, ?_⟩) (by assumption) ?_
  rotate_left
  · ((intro w hSw; (try dsimp only at hSw); go_simp) <;> (with_reducible rfl))
  (try simp only [Act.put, List.setIfInBounds_toArray, List.set_cons_zero, List.set_cons_succ])
  refine wpAnyH_take (i := 8) (oi := ⟨some 17, _, _, _, _, _⟩) (v := ?_) rfl (by kernel_rfl) (by kernel_rfl) (by kernel_rfl) (fun _ _ _ h => h) (Or.inl ⟨by rfl, ?_⟩) (by assumption) ?_
  rotate_left
  · ((intro w hSw; (try dsimp only at hSw); go_simp) <;> (with_reducible rfl))
  (try simp only [Act.put, List.setIfInBounds_toArray, List.set_cons_zero, List.set_cons_succ])
  refine wpAnyH_take (i := 9) (oi := ⟨some 18, _, _, _, _, _⟩) (v := ?_) rfl (by kernel_rfl) (by kernel_rfl) (by kernel_rfl) (fun _ _ _ h => h) (Or.inl ⟨by rfl, ?_⟩) (by assumption) ?_
  rotate_left
  · ((intro w hSw; (try dsimp only at hSw); go_simp) <;> (with_reducible rfl))
  (try simp only [Act.put, List.setIfInBounds_toArray, List.set_cons_zero, List.set_cons_succ])
  refine wpAnyH_ready (rs := [1]) (by kernel_rfl) (by simp) ?_
  refine AllReadyH.cons (o := ⟨some 10, _, _, _, _, _⟩) rfl (fun K hK => ?_) AllReadyH.nil
  go_simp
  (refine (iPlacesOf_t _ _ _ _ _ (rX) hl HS.out).mono ?_; rintro e1 w1 ⟨A4, c4, rfl, ho4, hb1⟩; obtain ⟨g, y', hA4, _, hg2, hcg, _, HY'⟩ := ho4.at_ (j := m) (by rw [HLL.out]; omega); subst hA4; obtain rfl : r = y' := (HY'.out.trans HG.out).symm; rw [HLL.out])
  refine hK.out _ _ ?_ (fun hHeld => ?_)
  · ((refine keepB1 hpb hpc ?_) <;> (repeat' (first | (with_reducible assumption) | (with_reducible exact Below.refl _ _) | (with_reducible refine Below.drew ?_) | (with_reducible refine Below.step ?_ (by assumption)))))
  clear hK K
  (try simp only [Act.put, List.setIfInBounds_toArray, List.set_cons_zero, List.set_cons_succ])
  refine wpAnyH_take (i := 3) (oi := ⟨some 12, _, _, _, _, _⟩) (v := ?_) rfl (by kernel_rfl) (by kernel_rfl) (by kernel_rfl) (fun _ _ _ h => h) (Or.inl ⟨by rfl, ?_⟩) (by assumption) ?_
  rotate_left
  · ((intro w hSw; (try dsimp only at hSw); go_simp) <;> (with_reducible rfl))
  (try simp only [Act.put, List.setIfInBounds_toArray, List.set_cons_zero, List.set_cons_succ])
  refine wpAnyH_ready (rs := [4]) (by kernel_rfl) (by simp) ?_
  refine AllReadyH.cons (o := ⟨some 13, _, _, _, _, _⟩) rfl (fun K hK => ?_) AllReadyH.nil
  go_simp
  refine hK.out _ _ ?_ (fun hHeld => ?_)
  · ((refine keepB1 hpb hpc ?_) <;> (repeat' (first | (with_reducible assumption) | (with_reducible exact Below.refl _ _) | (with_reducible refine Below.drew ?_) | (with_reducible refine Below.step ?_ (by assumption)))))
  clear hK K
  (try simp only [Act.put, List.setIfInBounds_toArray, List.set_cons_zero, List.set_cons_succ])
  refine wpAnyH_take (i := 10) (oi := ⟨some 19, _, _, _, _, _⟩) (v := ?_) rfl (by kernel_rfl) (by kernel_rfl) (by kernel_rfl) (fun _ _ _ h => h) (Or.inl ⟨by rfl, ?_⟩) (by assumption) ?_
  rotate_left
  · ((intro w hSw; (try dsimp only at hSw); go_simp) <;> (with_reducible rfl))
  (try simp only [Act.put, List.setIfInBounds_toArray, List.set_cons_zero, List.set_cons_succ])
  refine wpAnyH_take (i := 11) (oi := ⟨some 4, _, _, _, _, _⟩) (v := ?_) rfl (by kernel_rfl) (by kernel_rfl) (by kernel_rfl) (fun _ _ _ h => h) (Or.inl ⟨by rfl, ?_⟩) (by assumption) ?_
  rotate_left
  · ((intro w hSw; (try dsimp only at hSw); go_simp) <;> (with_reducible rfl))
  (try simp only [Act.put, List.setIfInBounds_toArray, List.set_cons_zero, List.set_cons_succ])
  refine wpAnyH_done (by kernel_rfl) ?_ _
  refine NoPanic.normal ?_
  have gV := hHeld.1
  have cV := hHeld.2.1
  have q0 := (cV _ 0 z1).trans p0
  have q2 := (cV _ 2 z1).trans p2
  have rV := rX0.to gV
  clear hHeld cV
  (go_wp2_with fail; refine (max_any _ _ _ _ _ rV h1 (by omega)).mono ?_; rw [HML.out]; rintro e2 w2 ⟨rfl, rfl⟩; go_wp2_with fail; refine (iRoundUp_any _ _ _ (by omega) (by omega) HMX.out).mono ?_; rw [← HF.out, ← HIT.out]; rintro e3 w3 ⟨rfl, rfl⟩; go_wp2_with fail; go_ret; exact ⟨rfl, gW.step gV⟩)
set_option maxHeartbeats 3200000 in
theorem itemSize_f (A : Option Addr) (c : Nat) (bg : Bool) (xs : List Int) (w : World) (h0 : Rd w w.heap.size .i64 A xs) (h1 : 1 ≤ xs.length) (hl : xs.length ≤ 5) (hs : SzL xs) :
    Calls Try.prog 91 #[.agg #[.slice A xs.length c, .bool bg, .bool false]] w (Ret w (.int .i64 (itS false xs))) := by
  have HS := Lib.hid hs
  obtain ⟨m, hm⟩ : ∃ m, xs.length = m + 1 := ⟨xs.length - 1, by omega⟩
  obtain ⟨ad, y, rfl, had, hcell, HY⟩ := h0.get (j := m) (by omega)
  have i1 : (0 : Int) ≤ (xs.length : Int) - 1 := by omega
  have i2 : (xs.length : Int) - 1 < (xs.length : Int) := by omega
  have i3 : ((xs.length : Int) - 1).toNat = m := by omega
  have i4 : (1 : Int) ≤ (xs.length : Int) := by omega
  have hy : Sz y := by rw [HY.out]; exact hs m (by omega)
  have hy2 : 1 ≤ y ∧ y ≤ 4 := by rcases hy with e | e | e <;> omega
  have hb1 := fAt_bd (al := false) hs m (by omega)
  have hb2 := fPl_bd (al := false) hs m (by omega)
  have hb3 := fAt_bd (al := false) hs xs.length (Nat.le_refl _)
  have HLL := Lib.hid (fPs_length false xs xs.length)
  obtain ⟨y1, y2⟩ := hy2
  have HIT : Hid (itS false xs = rup (fAt false xs xs.length) (fMx false xs xs.length)) := rfl
  have HF : Hid (fAt false xs xs.length = fPl false xs m + y) := by show _ = _; rw [hm, fAt_succ, HY.out]
  have HG : Hid ((fPs false xs xs.length).getD m 0 = fPl false xs m) := fPs_get _ _ _ _ (by omega)
  have HMX := Lib.hid (fMx_sz (al := false) hs xs.length (Nat.le_refl _))
  have HML : Hid (mxL xs (xs.length - 1) = fMx true xs xs.length) := by
    have := mxL_eq hs m (by omega)
    show _ = _
    rw [show xs.length - 1 = m by omega, this, hm]
  have HM := Lib.hid hm
  clear hs hy hm
  obtain ⟨r, hr⟩ : ∃ r, r = fPl false xs m := ⟨_, rfl⟩
  rw [← hr] at hb2 HF HG
  rw [HF.out] at hb3
  have ws : IntKind.i64.wrap (r + y) = r + y := IntWalk.i64_in _ (by omega)
  clear hr
  go_enter Try.func91, Try.ntmps91
  go_wp2_with fail
  obtain ⟨W, hW⟩ : ∃ W, W = w.alloc (.cells #[.slice (some ad) xs.length c, .bool bg, .bool false] 37) := ⟨_, rfl⟩
  rw [← hW]
  have zW : W.heap.size = w.heap.size + 1 := by rw [hW]; simp
  have p0 : W.cell? ⟨w.heap.size, 0, none⟩ = some (.slice (some ad) xs.length c) := by rw [hW]; simp [go_sem]
  have p1 : W.cell? ⟨w.heap.size, 1, none⟩ = some (.bool bg) := by rw [hW]; simp [go_sem]
  have p2 : W.cell? ⟨w.heap.size, 2, none⟩ = some (.bool false) := by rw [hW]; simp [go_sem]
  have hpb : (ad.add m).block < W.heap.size := by rw [addBlock]; omega
  have hpc : W.cell? (ad.add m) = some (.int .i64 y) := by rw [hW, World.cell?_alloc_lt _ _ _ (by rw [addBlock]; omega)]; exact hcell
  have rX0 : Rd W W.heap.size .i64 (some ad) xs := by rw [hW]; exact (h0.alloc (Nat.le_refl _) _).more (by simp)
  have rX : Rd W.drew W.drew.heap.size .i64 (some ad) xs := rX0
  have z1 : w.heap.size < W.heap.size := by omega
  have gW : Below w.heap.size w W := by rw [hW]; exact (Below.refl _ _).alloc (Nat.le_refl _) _
  have HZ := Lib.hid zW
  clear hW zW hcell h0
  refine wp_region_noPanic ?_
  refine wp_region_held_drew (S := (fun w' => Below W.heap.size W w' ∧ (∀ bb oo, bb < W.heap.size → w'.cell? ⟨bb, oo, none⟩ = W.cell? ⟨bb, oo, none⟩) ∧ w'.cell? (ad.add m) = some (.int .i64 y))) (by kernel_rfl) ?_ (fun hHeld => ?_)
  · ((refine keepB1 hpb hpc ?_) <;> (repeat' (first | (with_reducible assumption) | (with_reducible exact Below.refl _ _) | (with_reducible refine Below.drew ?_) | (with_reducible refine Below.step ?_ (by assumption)))))
  refine wpAnyH_take (i := 0) (oi := ⟨some 9, _, _, _, _, _⟩) (v := ?_) rfl (by kernel_rfl) (by kernel_rfl) (by kernel_rfl) (fun _ _ _ h => h) (Or.inl ⟨by rfl, ?_⟩) (by assumption) ?_
  rotate_left
  · ((intro w hSw; (try dsimp only at hSw); go_simp) <;> (with_reducible rfl))
  (try simp only [Act.put, List.setIfInBounds_toArray, List.set_cons_zero, List.set_cons_succ])
  refine wpAnyH_take (i := 2) (oi := ⟨some 11, _, _, _, _, _⟩) (v := ?_) rfl (by kernel_rfl) (by kernel_rfl) (by kernel_rfl) (fun _ _ _ h => h) (Or.inl ⟨by rfl, ?_⟩) (by assumption) ?_
  rotate_left
  · ((intro w hSw; (try dsimp only at hSw); go_simp) <;> (with_reducible rfl))
  (try simp only [Act.put, List.setIfInBounds_toArray, List.set_cons_zero, List.set_cons_succ])
  refine wpAnyH_take (i := 5) (oi := ⟨some 14, _, _, _, _, _⟩) (v := ?_) rfl (by kernel_rfl) (by kernel_rfl) (by kernel_rfl) (fun _ _ _ h => h) (Or.inl ⟨by rfl, ?_⟩) (by assumption) ?_
  rotate_left
  · ((intro w hSw; (try dsimp only at hSw); go_simp) <;> (with_reducible rfl))
  (try simp only [Act.put, List.setIfInBounds_toArray, List.set_cons_zero, List.set_cons_succ])
  refine wpAnyH_take (i := 6) (oi := ⟨some 15, _, _, _, _, _⟩) (v := ?_) rfl (by kernel_rfl) (by kernel_rfl) (by kernel_rfl) (fun _ _ _ h => h) (Or.inl ⟨by rfl, ?_⟩) (by assumption) ?_
  rotate_left
  · ((intro w hSw; (try dsimp only at hSw); go_simp) <;> (with_reducible rfl))
  (try simp only [Act.put, List.setIfInBounds_toArray, List.set_cons_zero, List.set_cons_succ])
  refine wpAnyH_take (i := 7) (oi := ⟨some 16, _, _, _, _, _⟩) (v := ?_) rfl (by kernel_rfl) (by kernel_rfl) (by kernel_rfl) (fun _ _ _ h => h) (Or.inl ⟨by rfl, ?_⟩) (by assumption) ?_
  rotate_left
  · ((intro w hSw; (try dsimp only at hSw); go_simp) <;> (with_reducible rfl))
  (try simp only [Act.put, List.setIfInBounds_toArray, List.set_cons_zero, List.set_cons_succ])
  refine wpAnyH_take (i := 8) (oi := ⟨some 17, _, _, _, _, _⟩) (v := ?_) rfl (by kernel_rfl) (by kernel_rfl) (by kernel_rfl) (fun _ _ _ h => h) (Or.inl ⟨by rfl, ?_⟩) (by assumption) ?_
  rotate_left
  · ((intro w hSw; (try dsimp only at hSw); go_simp) <;> (with_reducible rfl))
  (try simp only [Act.put, List.setIfInBounds_toArray, List.set_cons_zero, List.set_cons_succ])
  refine wpAnyH_take (i := 9) (oi := ⟨some 18, _, _, _, _, _⟩) (v := ?_) rfl (by kernel_rfl) (by kernel_rfl) (by kernel_rfl) (fun _ _ _ h => h) (Or.inl ⟨by rfl, ?_⟩) (by assumption) ?_
  rotate_left
  · ((intro w hSw; (try dsimp only at hSw); go_simp) <;> (with_reducible rfl))
  (try simp only [Act.put, List.setIfInBounds_toArray, List.set_cons_zero, List.set_cons_succ])
  refine wpAnyH_ready (rs := [1]) (by kernel_rfl) (by simp) ?_
  refine AllReadyH.cons (o := ⟨some 10, _, _, _, _, _⟩) rfl (fun K hK => ?_) AllReadyH.nil
  go_simp
  (refine (iPlacesOf_f _ _ _ _ _ (rX) hl HS.out).mono ?_; rintro e1 w1 ⟨A4, c4, rfl, ho4, hb1⟩; obtain ⟨g, y', hA4, _, hg2, hcg, _, HY'⟩ := ho4.at_ (j := m) (by rw [HLL.out]; omega); subst hA4; obtain rfl : r = y' := (HY'.out.trans HG.out).symm; rw [HLL.out])
  refine hK.out _ _ ?_ (fun hHeld => ?_)
  · ((refine keepB1 hpb hpc ?_) <;> (repeat' (first | (with_reducible assumption) | (with_reducible exact Below.refl _ _) | (with_reducible refine Below.drew ?_) | (with_reducible refine Below.step ?_ (by assumption)))))
  clear hK K
  (try simp only [Act.put, List.setIfInBounds_toArray, List.set_cons_zero, List.set_cons_succ])
  refine wpAnyH_take (i := 3) (oi := ⟨some 12, _, _, _, _, _⟩) (v := ?_) rfl (by kernel_rfl) (by kernel_rfl) (by kernel_rfl) (fun _ _ _ h => h) (Or.inl ⟨by rfl, ?_⟩) (by assumption) ?_
  rotate_left
  · ((intro w hSw; (try dsimp only at hSw); go_simp) <;> (with_reducible rfl))
  (try simp only [Act.put, List.setIfInBounds_toArray, List.set_cons_zero, List.set_cons_succ])
  refine wpAnyH_ready (rs := [4]) (by kernel_rfl) (by simp) ?_
  refine AllReadyH.cons (o := ⟨some 13, _, _, _, _, _⟩) rfl (fun K hK => ?_) AllReadyH.nil
  go_simp
  refine hK.out _ _ ?_ (fun hHeld => ?_)
  · ((refine keepB1 hpb hpc ?_) <;> (repeat' (first | (with_reducible assumption) | (with_reducible exact Below.refl _ _) | (with_reducible refine Below.drew ?_) | (with_reducible refine Below.step ?_ (by assumption)))))
  clear hK K
  (try simp only [Act.put, List.setIfInBounds_toArray, List.set_cons_zero, List.set_cons_succ])
  refine wpAnyH_take (i := 10) (oi := ⟨some 19, _, _, _, _, _⟩) (v := ?_) rfl (by kernel_rfl) (by kernel_rfl) (by kernel_rfl) (fun _ _ _ h => h) (Or.inl ⟨by rfl, ?_⟩) (by assumption) ?_
  rotate_left
  · ((intro w hSw; (try dsimp only at hSw); go_simp) <;> (with_reducible rfl))
  (try simp only [Act.put, List.setIfInBounds_toArray, List.set_cons_zero, List.set_cons_succ])
  refine wpAnyH_take (i := 11) (oi := ⟨some 4, _, _, _, _, _⟩) (v := ?_) rfl (by kernel_rfl) (by kernel_rfl) (by kernel_rfl) (fun _ _ _ h => h) (Or.inl ⟨by rfl, ?_⟩) (by assumption) ?_
  rotate_left
  · ((intro w hSw; (try dsimp only at hSw); go_simp) <;> (with_reducible rfl))
  (try simp only [Act.put, List.setIfInBounds_toArray, List.set_cons_zero, List.set_cons_succ])
  refine wpAnyH_done (by kernel_rfl) ?_ _
  refine NoPanic.normal ?_
  have gV := hHeld.1
  have cV := hHeld.2.1
  have q0 := (cV _ 0 z1).trans p0
  have q2 := (cV _ 2 z1).trans p2
  have rV := rX0.to gV
  clear hHeld cV
  (go_wp2_with fail; go_ret; exact ⟨ret_int (by rw [HIT.out, HF.out, fMx_un, rup_one]), gW.step gV⟩)

theorem itemSize_any (A : Option Addr) (c : Nat) (bg al : Bool) (xs : List Int) (w : World) (h0 : Rd w w.heap.size .i64 A xs) (hf : formB xs = true) : Calls Try.prog 91 #[.agg #[.slice A xs.length c, .bool bg, .bool al]] w (Ret w (.int .i64 (itS al xs))) := by
  obtain ⟨h1, h2, h3⟩ := form_szl hf
  cases al
  · exact itemSize_f _ _ _ _ _ h0 h1 h2 h3
  · exact itemSize_t _ _ _ _ _ h0 h1 h2 h3
theorem iPlaces_any (A : Option Addr) (c : Nat) (bg al : Bool) (xs : List Int) (w : World) (h0 : Rd w w.heap.size .i64 A xs) (hf : formB xs = true) : Calls Try.prog 80 #[.agg #[.slice A xs.length c, .bool bg, .bool al]] w (RetInts w (fPs al xs xs.length)) := by
  obtain ⟨h1, h2, h3⟩ := form_szl hf
  cases al
  · exact iPlacesOf_f _ _ _ _ _ h0 h2 h3
  · exact iPlacesOf_t _ _ _ _ _ h0 h2 h3
theorem sPlaces_any (A : Option Addr) (c : Nat) (bg al : Bool) (xs : List Int) (w : World) (h0 : Rd w w.heap.size .i64 A xs) (hf : formB xs = true) : Calls Try.prog 81 #[.agg #[.slice A xs.length c, .bool bg, .bool al]] w (RetPl w (fPs al xs xs.length) (itS al xs)) := by
  obtain ⟨h1, h2, h3⟩ := form_szl hf
  cases al
  · exact sPlaces_f _ _ _ _ _ h0 h2 h3
  · exact sPlaces_t _ _ _ _ _ h0 h2 h3
def itA (al : Bool) (xs : List Int) : Int := if formB xs = true then itS al xs else -1
def plA (al : Bool) (xs : List Int) : List Int := if formB xs = true then fPs al xs xs.length else []
theorem plA_len (al : Bool) (xs : List Int) : (plA al xs).length ≤ 5 := by
  unfold plA
  split
  · rename_i h
    rw [fPs_length]; exact (form_szl h).2.1
  · simp
set_option maxHeartbeats 1600000 in
theorem iItemSize_any (A : Option Addr) (c : Nat) (bg al : Bool) (xs : List Int) (w : World) (h0 : Rd w w.heap.size .i64 A xs) (hl : xs.length ≤ maxLen) : Calls Try.prog 56 #[.agg #[.slice A xs.length c, .bool bg, .bool al]] w (Ret w (.int .i64 (itA al xs))) := by
  rcases hf : formB xs with _ | _
  · have HR := Lib.hid (show itA al xs = -1 by simp [itA, hf])
    go_enter Try.func56, Try.ntmps56
    go_wp2_with fail
    refine (isFormat_any _ _ _ _ _ _ ((h0.alloc (Nat.le_refl _) _).more (by simp)) hl).mono ?_; rw [hf]; rintro e w1 ⟨rfl, hb1⟩
    go_wp2_with fail
    go_ret
    exact ⟨ret_int (by rw [HR.out]), (by (repeat' (first | (with_reducible exact Below.refl _ _) | (with_reducible assumption) | (with_reducible refine Below.setCell ?_ ?_ _) | (with_reducible refine Below.al ?_ _) | (with_reducible refine Below.drew ?_) | (with_reducible refine Below.drN ?_ _) | (with_reducible refine Below.step ?_ (by assumption)) | (with_reducible refine Below.alloc ?_ ?_ _))); all_goals (simp; try omega))⟩
  · have HR := Lib.hid (show itA al xs = itS al xs by simp [itA, hf])
    go_enter Try.func56, Try.ntmps56
    go_wp2_with fail
    refine (isFormat_any _ _ _ _ _ _ ((h0.alloc (Nat.le_refl _) _).more (by simp)) hl).mono ?_; rw [hf]; rintro e w1 ⟨rfl, hb1⟩
    have hc1 := bcel hb1
    have r1 := (((h0.alloc (Nat.le_refl _) _).more (by simp)).to hb1)
    go_wp2_with fail
    (refine (itemSize_any _ _ _ _ _ _ r1 hf).mono ?_; rintro e w2 ⟨rfl, hb2⟩)
    go_wp2_with fail
    go_ret
    exact ⟨ret_int (by rw [HR.out]), (by (repeat' (first | (with_reducible exact Below.refl _ _) | (with_reducible assumption) | (with_reducible refine Below.setCell ?_ ?_ _) | (with_reducible refine Below.al ?_ _) | (with_reducible refine Below.drew ?_) | (with_reducible refine Below.drN ?_ _) | (with_reducible refine Below.step ?_ (by assumption)) | (with_reducible refine Below.alloc ?_ ?_ _))); all_goals (simp; try omega))⟩
set_option maxHeartbeats 1600000 in
theorem sItemSize_any (A : Option Addr) (c : Nat) (bg al : Bool) (xs : List Int) (w : World) (h0 : Rd w w.heap.size .i64 A xs) (hl : xs.length ≤ maxLen) : Calls Try.prog 57 #[.agg #[.slice A xs.length c, .bool bg, .bool al]] w (Ret w (.int .i64 (itA al xs))) := by
  rcases hf : formB xs with _ | _
  · have HR := Lib.hid (show itA al xs = -1 by simp [itA, hf])
    go_enter Try.func57, Try.ntmps57
    go_wp2_with fail
    refine (validFormat_any _ _ _ _ _ _ ((h0.alloc (Nat.le_refl _) _).more (by simp)) hl).mono ?_; rw [hf]; rintro e w1 ⟨rfl, hb1⟩
    go_wp2_with fail
    go_ret
    exact ⟨ret_int (by rw [HR.out]), (by (repeat' (first | (with_reducible exact Below.refl _ _) | (with_reducible assumption) | (with_reducible refine Below.setCell ?_ ?_ _) | (with_reducible refine Below.al ?_ _) | (with_reducible refine Below.drew ?_) | (with_reducible refine Below.drN ?_ _) | (with_reducible refine Below.step ?_ (by assumption)) | (with_reducible refine Below.alloc ?_ ?_ _))); all_goals (simp; try omega))⟩
  · have HR := Lib.hid (show itA al xs = itS al xs by simp [itA, hf])
    go_enter Try.func57, Try.ntmps57
    go_wp2_with fail
    refine (validFormat_any _ _ _ _ _ _ ((h0.alloc (Nat.le_refl _) _).more (by simp)) hl).mono ?_; rw [hf]; rintro e w1 ⟨rfl, hb1⟩
    have hc1 := bcel hb1
    have r1 := (((h0.alloc (Nat.le_refl _) _).more (by simp)).to hb1)
    go_wp2_with fail
    (refine (sPlaces_any _ _ _ _ _ _ r1 hf).mono ?_; rintro e w2 ⟨A2, c2, rfl, _, hb2⟩)
    go_wp2_with fail
    go_ret
    exact ⟨ret_int (by rw [HR.out]), (by (repeat' (first | (with_reducible exact Below.refl _ _) | (with_reducible assumption) | (with_reducible refine Below.setCell ?_ ?_ _) | (with_reducible refine Below.al ?_ _) | (with_reducible refine Below.drew ?_) | (with_reducible refine Below.drN ?_ _) | (with_reducible refine Below.step ?_ (by assumption)) | (with_reducible refine Below.alloc ?_ ?_ _))); all_goals (simp; try omega))⟩
set_option maxHeartbeats 1600000 in
theorem iPlacesOf_any (A : Option Addr) (c : Nat) (bg al : Bool) (xs : List Int) (w : World) (h0 : Rd w w.heap.size .i64 A xs) (hl : xs.length ≤ maxLen) : Calls Try.prog 38 #[.agg #[.slice A xs.length c, .bool bg, .bool al]] w (RetInts w (plA al xs)) := by
  rcases hf : formB xs with _ | _
  · have HR := Lib.hid (show plA al xs = [] by simp [plA, hf])
    rw [HR.out]
    go_enter Try.func38, Try.ntmps38
    go_wp2_with fail
    refine (isFormat_any _ _ _ _ _ _ ((h0.alloc (Nat.le_refl _) _).more (by simp)) hl).mono ?_; rw [hf]; rintro e w1 ⟨rfl, hb1⟩
    go_wp2_with fail
    go_ret
    exact ⟨none, 0, rfl, Own.nil _ _, (by (repeat' (first | (with_reducible exact Below.refl _ _) | (with_reducible assumption) | (with_reducible refine Below.setCell ?_ ?_ _) | (with_reducible refine Below.al ?_ _) | (with_reducible refine Below.drew ?_) | (with_reducible refine Below.drN ?_ _) | (with_reducible refine Below.step ?_ (by assumption)) | (with_reducible refine Below.alloc ?_ ?_ _))); all_goals (simp; try omega))⟩
  · have HR := Lib.hid (show plA al xs = fPs al xs xs.length by simp [plA, hf])
    rw [HR.out]
    go_enter Try.func38, Try.ntmps38
    go_wp2_with fail
    refine (isFormat_any _ _ _ _ _ _ ((h0.alloc (Nat.le_refl _) _).more (by simp)) hl).mono ?_; rw [hf]; rintro e w1 ⟨rfl, hb1⟩
    have hc1 := bcel hb1
    have z1 := hb1.size
    simp at z1
    have r1 := (((h0.alloc (Nat.le_refl _) _).more (by simp)).to hb1)
    go_wp2_with fail
    (refine (iPlaces_any _ _ _ _ _ _ r1 hf).mono ?_; rintro e w2 ⟨A2, c2, rfl, ho2, hb2⟩)
    go_wp2_with fail
    go_ret
    exact ⟨A2, c2, rfl, ho2.mono (by omega), (by (repeat' (first | (with_reducible exact Below.refl _ _) | (with_reducible assumption) | (with_reducible refine Below.setCell ?_ ?_ _) | (with_reducible refine Below.al ?_ _) | (with_reducible refine Below.drew ?_) | (with_reducible refine Below.drN ?_ _) | (with_reducible refine Below.step ?_ (by assumption)) | (with_reducible refine Below.alloc ?_ ?_ _))); all_goals (simp; try omega))⟩
set_option maxHeartbeats 1600000 in
theorem sPlacesOf_any (A : Option Addr) (c : Nat) (bg al : Bool) (xs : List Int) (w : World) (h0 : Rd w w.heap.size .i64 A xs) (hl : xs.length ≤ maxLen) : Calls Try.prog 40 #[.agg #[.slice A xs.length c, .bool bg, .bool al]] w (RetInts w (plA al xs)) := by
  rcases hf : formB xs with _ | _
  · have HR := Lib.hid (show plA al xs = [] by simp [plA, hf])
    rw [HR.out]
    go_enter Try.func40, Try.ntmps40
    go_wp2_with fail
    refine (validFormat_any _ _ _ _ _ _ ((h0.alloc (Nat.le_refl _) _).more (by simp)) hl).mono ?_; rw [hf]; rintro e w1 ⟨rfl, hb1⟩
    go_wp2_with fail
    go_ret
    exact ⟨none, 0, rfl, Own.nil _ _, (by (repeat' (first | (with_reducible exact Below.refl _ _) | (with_reducible assumption) | (with_reducible refine Below.setCell ?_ ?_ _) | (with_reducible refine Below.al ?_ _) | (with_reducible refine Below.drew ?_) | (with_reducible refine Below.drN ?_ _) | (with_reducible refine Below.step ?_ (by assumption)) | (with_reducible refine Below.alloc ?_ ?_ _))); all_goals (simp; try omega))⟩
  · have HR := Lib.hid (show plA al xs = fPs al xs xs.length by simp [plA, hf])
    rw [HR.out]
    go_enter Try.func40, Try.ntmps40
    go_wp2_with fail
    refine (validFormat_any _ _ _ _ _ _ ((h0.alloc (Nat.le_refl _) _).more (by simp)) hl).mono ?_; rw [hf]; rintro e w1 ⟨rfl, hb1⟩
    have hc1 := bcel hb1
    have z1 := hb1.size
    simp at z1
    have r1 := (((h0.alloc (Nat.le_refl _) _).more (by simp)).to hb1)
    go_wp2_with fail
    (refine (sPlaces_any _ _ _ _ _ _ r1 hf).mono ?_; rintro e w2 ⟨A2, c2, rfl, ho2, hb2⟩)
    go_wp2_with fail
    go_ret
    exact ⟨A2, c2, rfl, ho2.mono (by omega), (by (repeat' (first | (with_reducible exact Below.refl _ _) | (with_reducible assumption) | (with_reducible refine Below.setCell ?_ ?_ _) | (with_reducible refine Below.al ?_ _) | (with_reducible refine Below.drew ?_) | (with_reducible refine Below.drN ?_ _) | (with_reducible refine Below.step ?_ (by assumption)) | (with_reducible refine Below.alloc ?_ ?_ _))); all_goals (simp; try omega))⟩
end Go.Proofs.Ytdhhdkncglhgfaa
