/- The walk of the exact law over what a range covers. -/
import Derived.Test.YtoejfpncpgoboaaRange6
set_option linter.unusedVariables false
namespace Go.Proofs.Ytoejfpncpgoboaa
open Go.RowKit
set_option maxHeartbeats 3200000 in
theorem FnExactCoversRange_walk (a b c d e f : Int) (w : World) : Calls Try.prog 6 #[.agg #[.int .i64 a, .int .i64 b, .int .i64 c], .agg #[.int .i64 d, .int .i64 e, .int .i64 f]] w (Ret w (.bool true)) := by
  go_enter Try.func6, Try.ntmps6
  go_wp2_with fail
  obtain ⟨W, hW⟩ : ∃ W, W = ((w.alloc (.cells #[.int .i64 a, .int .i64 b, .int .i64 c] 23)).alloc (.cells #[.int .i64 d, .int .i64 e, .int .i64 f] 23)) := ⟨_, rfl⟩
  rw [← hW]
  have zW : W.heap.size = w.heap.size + 1 + 1 := by rw [hW]; simp
  have p0 : W.cell? ⟨w.heap.size, 0, none⟩ = some (.int .i64 a) := by rw [hW]; simp [go_sem]
  have p1 : W.cell? ⟨w.heap.size, 1, none⟩ = some (.int .i64 b) := by rw [hW]; simp [go_sem]
  have p2 : W.cell? ⟨w.heap.size, 2, none⟩ = some (.int .i64 c) := by rw [hW]; simp [go_sem]
  have q0 : W.cell? ⟨w.heap.size + 1, 0, none⟩ = some (.int .i64 d) := by rw [hW]; simp [go_sem]
  have q1 : W.cell? ⟨w.heap.size + 1, 1, none⟩ = some (.int .i64 e) := by rw [hW]; simp [go_sem]
  have q2 : W.cell? ⟨w.heap.size + 1, 2, none⟩ = some (.int .i64 f) := by rw [hW]; simp [go_sem]
  have z1 : w.heap.size < W.heap.size := by omega
  have z2 : w.heap.size + 1 < W.heap.size := by omega
  have gW : Below w.heap.size w W := by rw [hW]; exact ((Below.refl _ _).alloc (Nat.le_refl _) _).alloc (by simp) _
  have HZ := Lib.hid zW
  clear hW zW
  refine wp_region_noPanic ?_
  refine wp_region_held_drew (S := (fun w' => Below W.heap.size W w' ∧ ∀ bb oo, bb < W.heap.size → w'.cell? ⟨bb, oo, none⟩ = W.cell? ⟨bb, oo, none⟩)) (by kernel_rfl) ?_ (fun hHeld => ?_)
  · ((refine keepB ?_) <;> (repeat' (first | (with_reducible assumption) | (with_reducible exact Below.refl _ _) | (with_reducible refine Below.drew ?_) | (with_reducible refine Below.step ?_ (by assumption)))))
  refine wpAnyH_take (i := 0) (oi := ⟨some 7, _, _, _, _, _⟩) (v := ?_) rfl (by kernel_rfl) (by kernel_rfl) (by kernel_rfl) (fun _ _ _ h => h) (Or.inl ⟨by rfl, ?_⟩) (by assumption) ?_
  rotate_left
  · ((intro w hSw; (try dsimp only at hSw); go_simp) <;> (with_reducible rfl))
  (try simp only [Act.put, List.setIfInBounds_toArray, List.set_cons_zero, List.set_cons_succ])
  refine wpAnyH_take (i := 2) (oi := ⟨some 9, _, _, _, _, _⟩) (v := ?_) rfl (by kernel_rfl) (by kernel_rfl) (by kernel_rfl) (fun _ _ _ h => h) (Or.inl ⟨by rfl, ?_⟩) (by assumption) ?_
  rotate_left
  · ((intro w hSw; (try dsimp only at hSw); go_simp) <;> (with_reducible rfl))
  (try simp only [Act.put, List.setIfInBounds_toArray, List.set_cons_zero, List.set_cons_succ])
  refine wpAnyH_ready (rs := [1]) (by kernel_rfl) (by simp) ?_
  refine AllReadyH.cons (o := ⟨some 8, _, _, _, _, _⟩) rfl (fun K hK => ?_) AllReadyH.nil
  go_simp
  (refine (toRange_any _ _ _ _).mono ?_; rintro e1 w1 ⟨rfl, hb1⟩)
  refine hK.out _ _ ?_ (fun hHeld => ?_)
  · ((refine keepB ?_) <;> (repeat' (first | (with_reducible assumption) | (with_reducible exact Below.refl _ _) | (with_reducible refine Below.drew ?_) | (with_reducible refine Below.step ?_ (by assumption)))))
  clear hK K
  (try simp only [Act.put, List.setIfInBounds_toArray, List.set_cons_zero, List.set_cons_succ])
  refine wpAnyH_ready (rs := [3]) (by kernel_rfl) (by simp) ?_
  refine AllReadyH.cons (o := ⟨some 10, _, _, _, _, _⟩) rfl (fun K hK => ?_) AllReadyH.nil
  go_simp
  (refine (toRange_any _ _ _ _).mono ?_; rintro e2 w2 ⟨rfl, hb2⟩)
  refine hK.out _ _ ?_ (fun hHeld => ?_)
  · ((refine keepB ?_) <;> (repeat' (first | (with_reducible assumption) | (with_reducible exact Below.refl _ _) | (with_reducible refine Below.drew ?_) | (with_reducible refine Below.step ?_ (by assumption)))))
  clear hK K
  (try simp only [Act.put, List.setIfInBounds_toArray, List.set_cons_zero, List.set_cons_succ])
  refine wpAnyH_ready (rs := [4]) (by kernel_rfl) (by simp) ?_
  refine AllReadyH.cons (o := ⟨some 11, _, _, _, _, _⟩) rfl (fun K hK => ?_) AllReadyH.nil
  go_simp
  (refine (sCoversRange_any _ _ _ _ _ _ _).mono ?_; rintro e3 w3 ⟨rfl, hb3⟩)
  refine hK.out _ _ ?_ (fun hHeld => ?_)
  · ((refine keepB ?_) <;> (repeat' (first | (with_reducible assumption) | (with_reducible exact Below.refl _ _) | (with_reducible refine Below.drew ?_) | (with_reducible refine Below.step ?_ (by assumption)))))
  clear hK K
  (try simp only [Act.put, List.setIfInBounds_toArray, List.set_cons_zero, List.set_cons_succ])
  refine wpAnyH_take (i := 5) (oi := ⟨some 5, _, _, _, _, _⟩) (v := ?_) rfl (by kernel_rfl) (by kernel_rfl) (by kernel_rfl) (fun _ _ _ h => h) (Or.inl ⟨by rfl, ?_⟩) (by assumption) ?_
  rotate_left
  · ((intro w hSw; (try dsimp only at hSw); go_simp) <;> (with_reducible rfl))
  (try simp only [Act.put, List.setIfInBounds_toArray, List.set_cons_zero, List.set_cons_succ])
  refine wpAnyH_done (by kernel_rfl) ?_ _
  refine NoPanic.normal ?_
  obtain ⟨V, hV⟩ : ∃ V, V = w3 := ⟨_, rfl⟩
  have hH := hHeld
  clear hHeld
  rw [← hV] at hH ⊢
  obtain ⟨gV, cV⟩ := hH
  have zV := gV.size
  replace p0 := (cV _ _ z1).trans p0
  replace p1 := (cV _ _ z1).trans p1
  replace p2 := (cV _ _ z1).trans p2
  replace q0 := (cV _ _ z2).trans q0
  replace q1 := (cV _ _ z2).trans q1
  replace q2 := (cV _ _ z2).trans q2
  replace z1 := Nat.lt_of_lt_of_le z1 zV
  replace z2 := Nat.lt_of_lt_of_le z2 zV
  clear cV hb1 hb2 hb3 hV
  go_wp2_with fail
  refine wp_region_noPanic ?_
  refine wp_region_held_drew (S := (fun w' => Below V.heap.size V w' ∧ ∀ bb oo, bb < V.heap.size → w'.cell? ⟨bb, oo, none⟩ = V.cell? ⟨bb, oo, none⟩)) (by kernel_rfl) ?_ (fun hHeld => ?_)
  · ((refine keepB ?_) <;> (repeat' (first | (with_reducible assumption) | (with_reducible exact Below.refl _ _) | (with_reducible refine Below.drew ?_) | (with_reducible refine Below.step ?_ (by assumption)))))
  refine wpAnyH_take (i := 0) (oi := ⟨some 12, _, _, _, _, _⟩) (v := ?_) rfl (by kernel_rfl) (by kernel_rfl) (by kernel_rfl) (fun _ _ _ h => h) (Or.inl ⟨by rfl, ?_⟩) (by assumption) ?_
  rotate_left
  · ((intro w hSw; (try dsimp only at hSw); go_simp) <;> (with_reducible rfl))
  (try simp only [Act.put, List.setIfInBounds_toArray, List.set_cons_zero, List.set_cons_succ])
  refine wpAnyH_take (i := 2) (oi := ⟨some 14, _, _, _, _, _⟩) (v := ?_) rfl (by kernel_rfl) (by kernel_rfl) (by kernel_rfl) (fun _ _ _ h => h) (Or.inl ⟨by rfl, ?_⟩) (by assumption) ?_
  rotate_left
  · ((intro w hSw; (try dsimp only at hSw); go_simp) <;> (with_reducible rfl))
  (try simp only [Act.put, List.setIfInBounds_toArray, List.set_cons_zero, List.set_cons_succ])
  refine wpAnyH_ready (rs := [1]) (by kernel_rfl) (by simp) ?_
  refine AllReadyH.cons (o := ⟨some 13, _, _, _, _, _⟩) rfl (fun K hK => ?_) AllReadyH.nil
  go_simp
  (refine (toRange_any _ _ _ _).mono ?_; rintro e4 w4 ⟨rfl, hb4⟩)
  refine hK.out _ _ ?_ (fun hHeld => ?_)
  · ((refine keepB ?_) <;> (repeat' (first | (with_reducible assumption) | (with_reducible exact Below.refl _ _) | (with_reducible refine Below.drew ?_) | (with_reducible refine Below.step ?_ (by assumption)))))
  clear hK K
  (try simp only [Act.put, List.setIfInBounds_toArray, List.set_cons_zero, List.set_cons_succ])
  refine wpAnyH_ready (rs := [3]) (by kernel_rfl) (by simp) ?_
  refine AllReadyH.cons (o := ⟨some 15, _, _, _, _, _⟩) rfl (fun K hK => ?_) AllReadyH.nil
  go_simp
  (refine (toRange_any _ _ _ _).mono ?_; rintro e5 w5 ⟨rfl, hb5⟩)
  refine hK.out _ _ ?_ (fun hHeld => ?_)
  · ((refine keepB ?_) <;> (repeat' (first | (with_reducible assumption) | (with_reducible exact Below.refl _ _) | (with_reducible refine Below.drew ?_) | (with_reducible refine Below.step ?_ (by assumption)))))
  clear hK K
  (try simp only [Act.put, List.setIfInBounds_toArray, List.set_cons_zero, List.set_cons_succ])
  refine wpAnyH_ready (rs := [4]) (by kernel_rfl) (by simp) ?_
  refine AllReadyH.cons (o := ⟨some 16, _, _, _, _, _⟩) rfl (fun K hK => ?_) AllReadyH.nil
  go_simp
  (refine (iCoversRange_any _ _ _ _ _ _ _).mono ?_; rintro e6 w6 ⟨rfl, hb6⟩)
  refine hK.out _ _ ?_ (fun hHeld => ?_)
  · ((refine keepB ?_) <;> (repeat' (first | (with_reducible assumption) | (with_reducible exact Below.refl _ _) | (with_reducible refine Below.drew ?_) | (with_reducible refine Below.step ?_ (by assumption)))))
  clear hK K
  (try simp only [Act.put, List.setIfInBounds_toArray, List.set_cons_zero, List.set_cons_succ])
  refine wpAnyH_take (i := 5) (oi := ⟨some 6, _, _, _, _, _⟩) (v := ?_) rfl (by kernel_rfl) (by kernel_rfl) (by kernel_rfl) (fun _ _ _ h => h) (Or.inl ⟨by rfl, ?_⟩) (by assumption) ?_
  rotate_left
  · ((intro w hSw; (try dsimp only at hSw); go_simp) <;> (with_reducible rfl))
  (try simp only [Act.put, List.setIfInBounds_toArray, List.set_cons_zero, List.set_cons_succ])
  refine wpAnyH_done (by kernel_rfl) ?_ _
  refine NoPanic.normal ?_
  go_wp2_with fail
  go_ret
  exact ⟨rfl, (gW.step gV).step hHeld.1⟩
end Go.Proofs.Ytoejfpncpgoboaa
