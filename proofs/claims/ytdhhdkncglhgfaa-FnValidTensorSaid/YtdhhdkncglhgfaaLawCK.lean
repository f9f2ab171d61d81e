/- The walk of the law over valid tensors. -/
import Derived.Test.YtdhhdkncglhgfaaGen8
import Derived.Test.YtdhhdkncglhgfaaShape2
import Derived.Test.YtdhhdkncglhgfaaTens2
import Derived.Deep.OwnRows
set_option linter.unusedVariables false
namespace Go.Proofs.Ytdhhdkncglhgfaa
open Go.RowKit

set_option maxHeartbeats 1600000 in
theorem DrawValidTensor_any (A : Option Addr) (n : Nat) (bs : List Int) (w : World) (hr : Rd w w.heap.size .u8 A bs) (hl : bs.length ≤ maxLen) (hc : bs.length ≤ n) (hb : ∀ x ∈ bs, 0 ≤ x ∧ x ≤ 255) :
    Calls Try.prog 48 #[.slice A bs.length n] w fun e w' => ∃ A1 c1 xs A2 c2 vs, e = .returned (.agg #[.slice A1 xs.length c1, .slice A2 vs.length c2]) ∧ xs.length ≤ 5 ∧ vs.length ≤ 61 ∧ Rd w' w'.heap.size .i64 A1 xs ∧ Rd w' w'.heap.size .i64 A2 vs ∧ Below w.heap.size w w' := by
  go_enter Try.func48, Try.ntmps48
  go_wp2_with fail
  refine (newReader_any A n bs _ ((hr.alloc (Nat.le_refl _) _).more (by simp)) hl hc hb).mono ?_; rintro e w1 ⟨g, rfl, hR1, hb1⟩
  obtain ⟨hc1, hf1⟩ := bcell hb1
  have g1 := hR1.ge
  have z1 := hb1.size
  simp at g1 z1
  go_wp2_with fail
  refine (someTensor_any _ g _ _ hR1 (by omega)).mono ?_; rintro e w2 ⟨A1, c1, xs, A2, c2, vs, rfl, hx1, hx2, hr1, hr2, hk1, hk2, hR2, hg2⟩
  have hb2 := below_some hb1 hg2 (by simp; omega)
  clear hc1 hf1
  obtain ⟨hc2, hf2⟩ := bcell hb2
  have z2 := hb2.size
  simp at z2
  go_wp2_with fail
  have hne1 : ∀ b, blk A1 = some b → b ≠ w.heap.size := fun b hb => by have := hk1 b hb; omega
  have hne2 : ∀ b, blk A2 = some b → b ≠ w.heap.size := fun b hb => by have := hk2 b hb; omega
  have r3 := (hr1.setOther hne1 0 (.slice A1 xs.length c1)).setOther hne1 1 (.slice A2 vs.length c2)
  have r4 := (hr2.setOther hne2 0 (.slice A1 xs.length c1)).setOther hne2 1 (.slice A2 vs.length c2)
  refine bodyPost_ret (v := .agg #[.slice A1 xs.length c1, .slice A2 vs.length c2]) (by simp [results, Try.results48, go_sem, hc2]) rfl ⟨_, _, _, _, _, _, rfl, hx1, hx2, r3, r4, (by (repeat' (first | (with_reducible exact Below.refl _ _) | (with_reducible assumption) | (with_reducible refine Below.setCell ?_ ?_ _) | (with_reducible refine Below.al ?_ _) | (with_reducible refine Below.drew ?_) | (with_reducible refine Below.drN ?_ _) | (with_reducible refine Below.step ?_ (by assumption)) | (with_reducible refine Below.alloc ?_ ?_ _))); all_goals (simp; try omega))⟩

theorem Rd_made (w : World) (n : Nat) (hn : n ≤ 1000000000) : Rd (w.alloc (.cells (madeCells #[Value.int .i64 0] n) 3)) (w.alloc (.cells (madeCells #[Value.int .i64 0] n) 3)).heap.size .i64 (some ⟨w.heap.size, 0, none⟩) (List.replicate n 0) := by
  have h : Own (w.alloc (.cells (madeCells #[Value.int .i64 0] n) 3)) 0 (some ⟨w.heap.size, 0, none⟩) n (List.replicate n 0) := by
    unfold Own
    have hs : (madeCells #[Value.int .i64 0] n).size = n := by simp [madeCells]
    refine ⟨by simp, .inr ⟨w.heap.size, n, madeCells #[Value.int .i64 0] n, by simp, Nat.zero_le _, heap_alloc_new w _, by simp, by simp only [maxLen]; omega, by omega, ?_⟩⟩
    rw [toList_madeCells_one]
    simp
  exact h.rd
theorem iValidTensor_len (A A' : Option Addr) (c c' m : Nat) (xs vs : List Int) (hm : vs.length = m) (w : World) (h0 : Rd w w.heap.size .i64 A xs) (h0' : Rd w w.heap.size .i64 A' vs) (hl : xs.length ≤ maxLen) (hl' : vs.length ≤ maxLen) :
    Calls Try.prog 49 #[.agg #[.slice A xs.length c, .slice A' m c']] w (Ret w (.bool (tensB xs vs))) := by
  subst hm; exact iValidTensor_any A A' c c' xs vs w h0 h0' hl hl'
theorem tens_zero {xs vs : List Int} (h : tensB xs vs = true) : cntS xs = (vs.length : Int) ∧ tensB xs (List.replicate vs.length 0) = true := by
  simp only [tensB, Bool.and_eq_true, decide_eq_true_eq] at h ⊢
  obtain ⟨h1, h2, h3⟩ := h
  refine ⟨by rw [cntS, if_pos h1, h2], h1, by rw [List.length_replicate]; exact h2, ?_⟩
  simp [allB, outB, inB]

set_option maxHeartbeats 3200000 in
theorem FnValidTensor_walk (A : Option Addr) (n : Nat) (bs : List Int) (w : World) (hr : Rd w w.heap.size .u8 A bs) (hl : bs.length ≤ maxLen) (hn : bs.length ≤ n) (hb : ∀ x ∈ bs, 0 ≤ x ∧ x ≤ 255) :
    Calls Try.prog 11 #[.slice A bs.length n] w (Ret w (.bool true)) := by
  by_cases hbig : bs.length > 1048576
  · go_enter Try.func11, Try.ntmps11
    go_wp2_with fail
    go_ret
    exact ⟨rfl, (by (repeat' (first | (with_reducible exact Below.refl _ _) | (with_reducible assumption) | (with_reducible refine Below.setCell ?_ ?_ _) | (with_reducible refine Below.al ?_ _) | (with_reducible refine Below.drew ?_) | (with_reducible refine Below.drN ?_ _) | (with_reducible refine Below.step ?_ (by assumption)) | (with_reducible refine Below.alloc ?_ ?_ _))); all_goals (simp; try omega))⟩
  have hmk0 := fun (m : Nat) (hm : m ≤ 1000) (w : World) => run_make_row' (P := Try.prog) 24 3 (.int .i64 0) 8 Try.underlying24 Try.infoInt rfl .i64 .i64 m (by omega) (by omega) w
  go_enter Try.func11, Try.ntmps11
  go_wp2_with fail
  refine (DrawValidTensor_any A n bs _ hr hl hn hb).mono ?_; rintro e w1 ⟨A1, c1, xs, A2, c2, vs, rfl, hx1, hv1, r1, s1, hb1⟩
  clear hr hb
  have hxm : xs.length ≤ maxLen := by simp only [maxLen]; omega
  have hvm : vs.length ≤ maxLen := by simp only [maxLen]; omega
  have r1b := r1.to ((Below.refl _ _).al (.cells #[.slice A1 xs.length c1, .slice A2 vs.length c2] 49))
  have s1b := s1.to ((Below.refl _ _).al (.cells #[.slice A1 xs.length c1, .slice A2 vs.length c2] 49))
  rcases hv : tensB xs vs with _ | _
  · have HV := Lib.hid hv
    clear hv hmk0
    go_wp2_with fail
    refine (iValidTensor_any _ _ _ _ _ _ _ r1b s1b hxm hvm).mono ?_; rw [HV.out]; rintro e w2 ⟨rfl, g2⟩
    have hc2 := bcel g2
    have r2 := r1b.to g2
    have s2 := s1b.to g2
    go_wp2_with fail
    refine (sValidTensor_any _ _ _ _ _ _ _ r2 s2 hxm hvm).mono ?_; rw [HV.out]; rintro e w3 ⟨rfl, hb3⟩; have g3 := g2.step hb3; clear hc2; have hc3 := bcel g3
    have r3 := r2.to hb3
    have s3 := s2.to hb3
    go_wp2_with fail
    refine (sValidTensor_any _ _ _ _ _ _ _ r3 s3 hxm hvm).mono ?_; rw [HV.out]; rintro e w4 ⟨rfl, hb4⟩
    go_wp2_with fail
    go_ret
    exact ⟨rfl, (by (repeat' (first | (with_reducible exact Below.refl _ _) | (with_reducible assumption) | (with_reducible refine Below.setCell ?_ ?_ _) | (with_reducible refine Below.al ?_ _) | (with_reducible refine Below.drew ?_) | (with_reducible refine Below.drN ?_ _) | (with_reducible refine Below.step ?_ (by assumption)) | (with_reducible refine Below.alloc ?_ ?_ _))); all_goals (simp; try omega))⟩
  · have HV := Lib.hid hv
    have HC := Lib.hid (tens_zero hv).1
    have HT := Lib.hid (tens_zero hv).2
    have hmk := hmk0 vs.length (by omega)
    have hrl : (List.replicate vs.length (0 : Int)).length = vs.length := by simp
    have HRL := Lib.hid hrl
    clear hv hmk0 hrl
    go_wp2_with fail
    refine (iValidTensor_any _ _ _ _ _ _ _ r1b s1b hxm hvm).mono ?_; rw [HV.out]; rintro e w2 ⟨rfl, g2⟩
    have hc2 := bcel g2
    have r2 := r1b.to g2
    have s2 := s1b.to g2
    go_wp2_with fail
    refine (sValidTensor_any _ _ _ _ _ _ _ r2 s2 hxm hvm).mono ?_; rw [HV.out]; rintro e w3 ⟨rfl, hb3⟩; have g3 := g2.step hb3; clear hc2; have hc3 := bcel g3
    have r3 := r2.to hb3
    go_wp2_with fail
    (have zV : w1.heap.size < w3.heap.size := by have := g3.size; simp at this; omega); (have q0 : w3.cell? ⟨w1.heap.size, 0, none⟩ = some (.slice A1 xs.length c1) := (hc3 _ _ (by simp)).trans (by simp)); (have q1 : w3.cell? ⟨w1.heap.size, 1, none⟩ = some (.slice A2 vs.length c2) := (hc3 _ _ (by simp)).trans (by simp)); (have gW : Below w.heap.size w w3 := (by (repeat' (first | (with_reducible exact Below.refl _ _) | (with_reducible assumption) | (with_reducible refine Below.setCell ?_ ?_ _) | (with_reducible refine Below.al ?_ _) | (with_reducible refine Below.drew ?_) | (with_reducible refine Below.drN ?_ _) | (with_reducible refine Below.step ?_ (by assumption)) | (with_reducible refine Below.alloc ?_ ?_ _))); all_goals (simp; try omega))); clear hc3 g3 g2 hb1
    refine wp_region_noPanic ?_
    refine wp_region_held_drew (S := (fun w' => Below w3.heap.size w3 w' ∧ ∀ bb oo, bb < w3.heap.size → w'.cell? ⟨bb, oo, none⟩ = w3.cell? ⟨bb, oo, none⟩)) (by kernel_rfl) ?_ (fun hHeld => ?_)
    · ((refine keepB ?_) <;> (repeat' (first | (with_reducible assumption) | (with_reducible exact And.left (by assumption)) | (with_reducible exact Below.refl _ _) | (with_reducible exact Below.size (And.left (by assumption))) | (with_reducible refine Below.drew ?_) | (with_reducible refine Below.drN ?_ _) | (with_reducible refine Below.al ?_ _) | (with_reducible refine Below.step ?_ (by assumption)) | (with_reducible refine Below.setCell ?_ ?_ _) | (with_reducible refine Below.alloc ?_ ?_ _) | (simp <;> omega))))
    refine wpAnyH_take (i := 0) (oi := ⟨some 24, _, _, _, _, _⟩) (v := ?_) rfl (by kernel_rfl) (by kernel_rfl) (by kernel_rfl) (fun _ _ _ h => h) (Or.inl ⟨by rfl, ?_⟩) (by assumption) ?_
    rotate_left
    · ((intro w hSw; (try dsimp only at hSw); go_simp) <;> (with_reducible rfl))
    (try simp only [Act.put, List.setIfInBounds_toArray, List.set_cons_zero, List.set_cons_succ])
    refine wpAnyH_take (i := 1) (oi := ⟨some 25, _, _, _, _, _⟩) (v := ?_) rfl (by kernel_rfl) (by kernel_rfl) (by kernel_rfl) (fun _ _ _ h => h) (Or.inl ⟨by rfl, ?_⟩) (by assumption) ?_
    rotate_left
    · ((intro w hSw; (try dsimp only at hSw); go_simp) <;> (with_reducible rfl))
    (try simp only [Act.put, List.setIfInBounds_toArray, List.set_cons_zero, List.set_cons_succ])
    refine wpAnyH_take (i := 2) (oi := ⟨some 26, _, _, _, _, _⟩) (v := ?_) rfl (by kernel_rfl) (by kernel_rfl) (by kernel_rfl) (fun _ _ _ h => h) (Or.inl ⟨by rfl, ?_⟩) (by assumption) ?_
    rotate_left
    · ((intro w hSw; (try dsimp only at hSw); go_simp) <;> (with_reducible rfl))
    (try simp only [Act.put, List.setIfInBounds_toArray, List.set_cons_zero, List.set_cons_succ])
    refine wpAnyH_take (i := 3) (oi := ⟨some 27, _, _, _, _, _⟩) (v := ?_) rfl (by kernel_rfl) (by kernel_rfl) (by kernel_rfl) (fun _ _ _ h => h) (Or.inl ⟨by rfl, ?_⟩) (by assumption) ?_
    rotate_left
    · ((intro w hSw; (try dsimp only at hSw); go_simp) <;> (with_reducible rfl))
    (try simp only [Act.put, List.setIfInBounds_toArray, List.set_cons_zero, List.set_cons_succ])
    refine wpAnyH_take (i := 4) (oi := ⟨some 28, _, _, _, _, _⟩) (v := ?_) rfl (by kernel_rfl) (by kernel_rfl) (by kernel_rfl) (fun _ _ _ h => h) (Or.inl ⟨by rfl, ?_⟩) (by assumption) ?_
    rotate_left
    · ((intro w hSw; (try dsimp only at hSw); go_simp) <;> (with_reducible rfl))
    (try simp only [Act.put, List.setIfInBounds_toArray, List.set_cons_zero, List.set_cons_succ])
    refine wpAnyH_ready (rs := [5]) (by kernel_rfl) (by simp) ?_
    refine AllReadyH.cons (o := ⟨some 29, _, _, _, _, _⟩) rfl (fun K hK => ?_) AllReadyH.nil
    go_simp
    refine (iCountOf_any _ _ _ _ r3.drew hxm).mono ?_; rw [HC.out]; rintro e w29 ⟨rfl, hb29⟩; have r29 := r3.drew.to hb29
    refine hK.out _ _ ?_ (fun hHeld => ?_)
    · ((refine keepB ?_) <;> (repeat' (first | (with_reducible assumption) | (with_reducible exact And.left (by assumption)) | (with_reducible exact Below.refl _ _) | (with_reducible exact Below.size (And.left (by assumption))) | (with_reducible refine Below.drew ?_) | (with_reducible refine Below.drN ?_ _) | (with_reducible refine Below.al ?_ _) | (with_reducible refine Below.step ?_ (by assumption)) | (with_reducible refine Below.setCell ?_ ?_ _) | (with_reducible refine Below.alloc ?_ ?_ _) | (simp <;> omega))))
    clear hK K
    (try simp only [Act.put, List.setIfInBounds_toArray, List.set_cons_zero, List.set_cons_succ])
    refine wpAnyH_take (i := 6) (oi := ⟨some 30, _, _, _, _, _⟩) (v := ?_) rfl (by kernel_rfl) (by kernel_rfl) (by kernel_rfl) (fun _ _ _ h => h) (Or.inl ⟨by rfl, ?_⟩) (by assumption) ?_
    rotate_left
    · ((intro w hSw; (try dsimp only at hSw); go_simp) <;> (with_reducible rfl))
    (try simp only [Act.put, List.setIfInBounds_toArray, List.set_cons_zero, List.set_cons_succ])
    refine wpAnyH_take (i := 7) (oi := ⟨some 31, _, _, _, _, _⟩) (v := ?_) rfl (by kernel_rfl) (by kernel_rfl) (by kernel_rfl) (fun _ _ _ h => h) (Or.inl ⟨by rfl, ?_⟩) (by assumption) ?_
    rotate_left
    · ((intro w hSw; (try dsimp only at hSw); go_simp) <;> (with_reducible rfl))
    (try simp only [Act.put, List.setIfInBounds_toArray, List.set_cons_zero, List.set_cons_succ])
    refine wpAnyH_take (i := 8) (oi := ⟨some 32, _, _, _, _, _⟩) (v := ?_) rfl (by kernel_rfl) (by kernel_rfl) (by kernel_rfl) (fun _ _ _ h => h) (Or.inl ⟨by rfl, ?_⟩) (by assumption) ?_
    rotate_left
    · ((intro w hSw; (try dsimp only at hSw); go_simp) <;> (with_reducible rfl))
    (try simp only [Act.put, List.setIfInBounds_toArray, List.set_cons_zero, List.set_cons_succ])
    refine wpAnyH_take (i := 9) (oi := ⟨some 33, _, _, _, _, _⟩) (v := ?_) rfl (by kernel_rfl) (by kernel_rfl) (by kernel_rfl) (fun _ _ _ h => h) (Or.inl ⟨by rfl, ?_⟩) (by assumption) ?_
    rotate_left
    · ((intro w hSw; (try dsimp only at hSw); go_simp) <;> (with_reducible rfl))
    (try simp only [Act.put, List.setIfInBounds_toArray, List.set_cons_zero, List.set_cons_succ])
    refine wpAnyH_take (i := 10) (oi := ⟨some 34, _, _, _, _, _⟩) (v := ?_) rfl (by kernel_rfl) (by kernel_rfl) (by kernel_rfl) (fun _ _ _ h => h) (Or.inl ⟨by rfl, ?_⟩) (by assumption) ?_
    rotate_left
    · ((intro w hSw; (try dsimp only at hSw); go_simp) <;> (with_reducible rfl))
    (try simp only [Act.put, List.setIfInBounds_toArray, List.set_cons_zero, List.set_cons_succ])
    refine wpAnyH_take (i := 11) (oi := ⟨some 35, _, _, _, _, _⟩) (v := ?_) rfl (by kernel_rfl) (by kernel_rfl) (by kernel_rfl) (fun _ _ _ h => h) (Or.inl ⟨by rfl, ?_⟩) (by assumption) ?_
    rotate_left
    · ((intro w hSw; (try dsimp only at hSw); go_simp) <;> (with_reducible rfl))
    (try simp only [Act.put, List.setIfInBounds_toArray, List.set_cons_zero, List.set_cons_succ])
    refine wpAnyH_take (i := 12) (oi := ⟨some 36, _, _, _, _, _⟩) (v := ?_) rfl (by kernel_rfl) (by kernel_rfl) (by kernel_rfl) (fun _ _ _ h => h) (Or.inl ⟨by rfl, ?_⟩) (by assumption) ?_
    rotate_left
    · ((intro w hSw; (try dsimp only at hSw); go_simp) <;> (with_reducible rfl))
    (try simp only [Act.put, List.setIfInBounds_toArray, List.set_cons_zero, List.set_cons_succ])
    refine wpAnyH_ready (rs := [13]) (by kernel_rfl) (by simp) ?_
    refine AllReadyH.cons (o := ⟨some 37, _, _, _, _, _⟩) rfl (fun K hK => ?_) AllReadyH.nil
    go_simp
    refine hK.out _ _ ?_ (fun hHeld => ?_)
    · ((refine keepB ?_) <;> (repeat' (first | (with_reducible assumption) | (with_reducible exact And.left (by assumption)) | (with_reducible exact Below.refl _ _) | (with_reducible exact Below.size (And.left (by assumption))) | (with_reducible refine Below.drew ?_) | (with_reducible refine Below.drN ?_ _) | (with_reducible refine Below.al ?_ _) | (with_reducible refine Below.step ?_ (by assumption)) | (with_reducible refine Below.setCell ?_ ?_ _) | (with_reducible refine Below.alloc ?_ ?_ _) | (simp <;> omega))))
    clear hK K
    (try simp only [Act.put, List.setIfInBounds_toArray, List.set_cons_zero, List.set_cons_succ])
    refine wpAnyH_take (i := 14) (oi := ⟨some 38, _, _, _, _, _⟩) (v := ?_) rfl (by kernel_rfl) (by kernel_rfl) (by kernel_rfl) (fun _ _ _ h => h) (Or.inl ⟨by rfl, ?_⟩) (by assumption) ?_
    rotate_left
    · ((intro w hSw; (try dsimp only at hSw); go_simp) <;> (with_reducible rfl))
    (try simp only [Act.put, List.setIfInBounds_toArray, List.set_cons_zero, List.set_cons_succ])
    refine wpAnyH_ready (rs := [15]) (by kernel_rfl) (by simp) ?_
    refine AllReadyH.cons (o := ⟨some 39, _, _, _, _, _⟩) rfl (fun K hK => ?_) AllReadyH.nil
    go_simp
    refine (iValidTensor_len _ _ _ _ _ _ (List.replicate vs.length 0) HRL.out _ (r29.to ((Below.refl _ _).al _)) (Rd_made _ _ (by omega)) hxm (by rw [HRL.out]; exact hvm)).mono ?_; rw [HT.out]; rintro e w39 ⟨rfl, hb39⟩
    refine hK.out _ _ ?_ (fun hHeld => ?_)
    · ((refine keepB ?_) <;> (repeat' (first | (with_reducible assumption) | (with_reducible exact And.left (by assumption)) | (with_reducible exact Below.refl _ _) | (with_reducible exact Below.size (And.left (by assumption))) | (with_reducible refine Below.drew ?_) | (with_reducible refine Below.drN ?_ _) | (with_reducible refine Below.al ?_ _) | (with_reducible refine Below.step ?_ (by assumption)) | (with_reducible refine Below.setCell ?_ ?_ _) | (with_reducible refine Below.alloc ?_ ?_ _) | (simp <;> omega))))
    clear hK K
    (try simp only [Act.put, List.setIfInBounds_toArray, List.set_cons_zero, List.set_cons_succ])
    refine wpAnyH_take (i := 16) (oi := ⟨some 40, _, _, _, _, _⟩) (v := ?_) rfl (by kernel_rfl) (by kernel_rfl) (by kernel_rfl) (fun _ _ _ h => h) (Or.inl ⟨by rfl, ?_⟩) (by assumption) ?_
    rotate_left
    · ((intro w hSw; (try dsimp only at hSw); go_simp) <;> (with_reducible rfl))
    (try simp only [Act.put, List.setIfInBounds_toArray, List.set_cons_zero, List.set_cons_succ])
    refine wpAnyH_take (i := 17) (oi := ⟨some 2, _, _, _, _, _⟩) (v := ?_) rfl (by kernel_rfl) (by kernel_rfl) (by kernel_rfl) (fun _ _ _ h => h) (Or.inl ⟨by rfl, ?_⟩) (by assumption) ?_
    rotate_left
    · ((intro w hSw; (try dsimp only at hSw); go_simp) <;> (with_reducible rfl))
    (try simp only [Act.put, List.setIfInBounds_toArray, List.set_cons_zero, List.set_cons_succ])
    refine wpAnyH_done (by kernel_rfl) ?_ _
    refine NoPanic.normal ?_
    go_wp2_with fail
    go_ret
    exact ⟨rfl, gW.step hHeld.1⟩
end Go.Proofs.Ytdhhdkncglhgfaa
