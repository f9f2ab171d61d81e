/- The walk of the law over the number at an index. -/
import Derived.Test.YtipgopapohigpaaLawBE
import Derived.Test.YtipgopapohigpaaRdr4
set_option linter.unusedVariables false
namespace Go.Proofs.Ytipgopapohigpaa
open Go.RowKit

theorem numK_iff {a b c i : Int} : numK a b c i = true ↔ rangeB a b c = true ∧ -(cnt a b c : Int) ≤ i ∧ i < (cnt a b c : Int) := by
  rw [numK, Bool.and_eq_true, inR, decide_eq_true_eq, nums_length]
theorem numA_pos {a b c : Int} (h : rangeB a b c = true) {j : Nat} (hj : j < cnt a b c) : numA a b c (j : Int) = a + (j : Int) * c := by
  rw [numA, if_pos h, atR_pos (by omega) (by rw [nums_length]; omega)]
  exact nums_get a b c j (by rw [nums_length]; exact hj)
theorem numA_neg {a b c : Int} (h : rangeB a b c = true) {j : Nat} (hj : j < cnt a b c) : numA a b c ((j : Int) - (cnt a b c : Int)) = a + (j : Int) * c := by
  rw [numA, if_pos h, atR_neg (by omega) (by rw [nums_length]; omega), nums_length]
  rw [show ((j : Int) - (cnt a b c : Int) + (cnt a b c : Int)).toNat = j by omega]
  exact nums_get a b c j (by rw [nums_length]; exact hj)
theorem plc_at {a b c : Int} (h : rangeB a b c = true) {j : Nat} (hj : j < cnt a b c) : plcR a b c (a + (j : Int) * c) = (j : Int) := by
  rw [plcR, if_pos h]
  exact find_prg a c (cnt a b c) (ne_zero h) j hj

/-- All that the law asks of an index that is in range. -/
theorem numAt_all {a b c i : Int} (h : numK a b c i = true) : ∃ (j l : Nat) (v : Int), rangeB a b c = true ∧ lenR a b c = (l : Int) ∧ l ≤ 3000 ∧ j < l ∧ (i = (j : Int) ∨ i = (j : Int) - (l : Int)) ∧
    numA a b c (j : Int) = v ∧ numK a b c (j : Int) = true ∧ numA a b c ((j : Int) - (l : Int)) = v ∧ numK a b c ((j : Int) - (l : Int)) = true ∧ plcR a b c v = (j : Int) := by
  obtain ⟨hv, h1, h2⟩ := numK_iff.1 h
  have hle := cnt_le a b c (small_of hv)
  have hL : lenR a b c = (cnt a b c : Int) := by rw [lenR, if_pos hv]
  by_cases hi : 0 ≤ i
  · refine ⟨i.toNat, cnt a b c, _, hv, hL, hle, by omega, by omega, numA_pos hv (by omega), numK_iff.2 ⟨hv, by omega, by omega⟩, numA_neg hv (by omega), numK_iff.2 ⟨hv, by omega, by omega⟩, plc_at hv (by omega)⟩
  · refine ⟨(i + (cnt a b c : Int)).toNat, cnt a b c, _, hv, hL, hle, by omega, by omega, numA_pos hv (by omega), numK_iff.2 ⟨hv, by omega, by omega⟩, numA_neg hv (by omega), numK_iff.2 ⟨hv, by omega, by omega⟩, plc_at hv (by omega)⟩

set_option maxHeartbeats 3200000 in
theorem FnNumberAt_walk (A : Option Addr) (n : Nat) (bs : List Int) (w : World) (hr : Rd w w.heap.size .u8 A bs) (hl : bs.length ≤ maxLen) (hn : bs.length ≤ n) (hb : ∀ x ∈ bs, 0 ≤ x ∧ x ≤ 255) :
    Calls Try.prog 9 #[.slice A bs.length n] w (Ret w (.bool true)) := by
  by_cases hbig : bs.length > 1048576
  · go_enter Try.func9, Try.ntmps9
    go_wp2_with fail
    go_ret
    exact ⟨rfl, (by (repeat' (first | (with_reducible exact Below.refl _ _) | (with_reducible assumption) | (with_reducible refine Below.setCell ?_ ?_ _) | (with_reducible refine Below.al ?_ _) | (with_reducible refine Below.drew ?_) | (with_reducible refine Below.drN ?_ _) | (with_reducible refine Below.step ?_ (by assumption)) | (with_reducible refine Below.alloc ?_ ?_ _))); all_goals (simp; try omega))⟩
  go_enter Try.func9, Try.ntmps9
  go_wp2_with fail
  refine (DrawNumberAt_any A n bs _ hr hl hn hb).mono ?_; rintro e w1 ⟨a, b, c, i, rfl, ha, hb', hc, hi, hb1⟩
  clear hr hb
  rcases hk : numK a b c i with _ | _
  · have K1 := Lib.hid hk
    have HX : ∃ v, Hid (numA a b c i = v) := ⟨_, rfl⟩
    obtain ⟨v, V⟩ := HX
    clear hk
    go_wp2_with fail
    refine (iNumberAt_any _ _ _ _ _ (by omega) (by omega)).mono ?_; rw [K1.out, V.out]; rintro e w2 ⟨rfl, g2⟩
    have hc2 := bcel g2
    go_wp2_with fail
    refine (sNumberAt_any _ _ _ _ _ (by omega) (by omega)).mono ?_; rw [K1.out, V.out]; rintro e w3 ⟨rfl, hb3⟩
    go_wp2_with fail
    go_ret
    exact ⟨rfl, (by (repeat' (first | (with_reducible exact Below.refl _ _) | (with_reducible assumption) | (with_reducible refine Below.setCell ?_ ?_ _) | (with_reducible refine Below.al ?_ _) | (with_reducible refine Below.drew ?_) | (with_reducible refine Below.drN ?_ _) | (with_reducible refine Below.step ?_ (by assumption)) | (with_reducible refine Below.alloc ?_ ?_ _))); all_goals (simp; try omega))⟩
  · obtain ⟨j, l, v, hv, h1, hl3, hjl, hij, h4, h5, h6, h7, h8⟩ := numAt_all hk
    have K1 := Lib.hid hk
    have HL := Lib.hid h1
    have N2 := Lib.hid h4
    have K2 := Lib.hid h5
    have N3 := Lib.hid h6
    have K3 := Lib.hid h7
    have HP := Lib.hid h8
    have V : Hid (numA a b c i = v) := by
      rcases hij with rfl | rfl
      · exact h4
      · exact h6
    have u1 := IntWalk.i64_in ((j : Int) - (l : Int)) (by omega)
    clear hk hv h1 h4 h5 h6 h7 h8
    go_wp2_with fail
    refine (iNumberAt_any _ _ _ _ _ (by omega) (by omega)).mono ?_; rw [K1.out, V.out]; rintro e w2 ⟨rfl, g2⟩
    have hc2 := bcel g2
    go_wp2_with fail
    refine (sNumberAt_any _ _ _ _ _ (by omega) (by omega)).mono ?_; rw [K1.out, V.out]; rintro e w3 ⟨rfl, hb3⟩; have g3 := g2.step hb3; clear hc2; have hc3 := bcel g3
    rcases hij with rfl | rfl
    · go_wp2_with fail
      refine (iNumberAt_any _ _ _ _ _ (by omega) (by omega)).mono ?_; rw [K2.out, N2.out]; rintro e w4 ⟨rfl, hb4⟩; have g4 := g3.step hb4; clear hc3; have hc4 := bcel g4
      go_wp2_with fail
      refine nameW ?_; intro W hW
      (have p0 : W.cell? ⟨w1.heap.size, 0, none⟩ = some (.int .i64 a) := by rw [hW]; exact (hc4 _ _ (by simp)).trans (by simp)); (have p1 : W.cell? ⟨w1.heap.size, 1, none⟩ = some (.int .i64 b) := by rw [hW]; exact (hc4 _ _ (by simp)).trans (by simp)); (have p2 : W.cell? ⟨w1.heap.size, 2, none⟩ = some (.int .i64 c) := by rw [hW]; exact (hc4 _ _ (by simp)).trans (by simp)); (have zA : w1.heap.size < W.heap.size := by rw [hW]; have := g4.size; simp at this; omega); (have gW : Below w.heap.size w W := by rw [hW]; exact (by (repeat' (first | (with_reducible exact Below.refl _ _) | (with_reducible assumption) | (with_reducible refine Below.setCell ?_ ?_ _) | (with_reducible refine Below.al ?_ _) | (with_reducible refine Below.drew ?_) | (with_reducible refine Below.drN ?_ _) | (with_reducible refine Below.step ?_ (by assumption)) | (with_reducible refine Below.alloc ?_ ?_ _))); all_goals (simp; try omega))); clear hW hc4 g4 g3 g2 hb1
      refine wp_region_noPanic ?_
      refine wp_region_held_drew (S := (fun w' => Below W.heap.size W w' ∧ ∀ bb oo, bb < W.heap.size → w'.cell? ⟨bb, oo, none⟩ = W.cell? ⟨bb, oo, none⟩)) (by kernel_rfl) ?_ (fun hHeld => ?_)
      · ((refine keepB ?_) <;> (repeat' (first | (with_reducible assumption) | (with_reducible exact And.left (by assumption)) | (with_reducible exact Below.refl _ _) | (with_reducible exact Below.size (And.left (by assumption))) | (with_reducible refine Below.drew ?_) | (with_reducible refine Below.drN ?_ _) | (with_reducible refine Below.al ?_ _) | (with_reducible refine Below.step ?_ (by assumption)) | (with_reducible refine Below.setCell ?_ ?_ _) | (with_reducible refine Below.alloc ?_ ?_ _) | (simp <;> omega))))
      refine wpAnyH_take (i := 0) (oi := ⟨some 68, _, _, _, _, _⟩) (v := ?_) rfl (by kernel_rfl) (by kernel_rfl) (by kernel_rfl) (fun _ _ _ h => h) (Or.inl ⟨by rfl, ?_⟩) (by assumption) ?_
      rotate_left
      · ((intro w hSw; (try dsimp only at hSw); go_simp) <;> (with_reducible rfl))
      (try simp only [Act.put, List.setIfInBounds_toArray, List.set_cons_zero, List.set_cons_succ])
      refine wpAnyH_take (i := 1) (oi := ⟨some 69, _, _, _, _, _⟩) (v := ?_) rfl (by kernel_rfl) (by kernel_rfl) (by kernel_rfl) (fun _ _ _ h => h) (Or.inl ⟨by rfl, ?_⟩) (by assumption) ?_
      rotate_left
      · ((intro w hSw; (try dsimp only at hSw); go_simp) <;> (with_reducible rfl))
      (try simp only [Act.put, List.setIfInBounds_toArray, List.set_cons_zero, List.set_cons_succ])
      refine wpAnyH_take (i := 2) (oi := ⟨some 70, _, _, _, _, _⟩) (v := ?_) rfl (by kernel_rfl) (by kernel_rfl) (by kernel_rfl) (fun _ _ _ h => h) (Or.inl ⟨by rfl, ?_⟩) (by assumption) ?_
      rotate_left
      · ((intro w hSw; (try dsimp only at hSw); go_simp) <;> (with_reducible rfl))
      (try simp only [Act.put, List.setIfInBounds_toArray, List.set_cons_zero, List.set_cons_succ])
      refine wpAnyH_ready (rs := [3]) (by kernel_rfl) (by simp) ?_
      refine AllReadyH.cons (o := ⟨some 71, _, _, _, _, _⟩) rfl (fun K hK => ?_) AllReadyH.nil
      go_simp
      refine (iLenOf_any _ _ _ _).mono ?_; rw [HL.out]; rintro e w71 ⟨rfl, hb71⟩
      refine hK.out _ _ ?_ (fun hHeld => ?_)
      · ((refine keepB ?_) <;> (repeat' (first | (with_reducible assumption) | (with_reducible exact And.left (by assumption)) | (with_reducible exact Below.refl _ _) | (with_reducible exact Below.size (And.left (by assumption))) | (with_reducible refine Below.drew ?_) | (with_reducible refine Below.drN ?_ _) | (with_reducible refine Below.al ?_ _) | (with_reducible refine Below.step ?_ (by assumption)) | (with_reducible refine Below.setCell ?_ ?_ _) | (with_reducible refine Below.alloc ?_ ?_ _) | (simp <;> omega))))
      clear hK K
      (try simp only [Act.put, List.setIfInBounds_toArray, List.set_cons_zero, List.set_cons_succ])
      refine wpAnyH_take (i := 4) (oi := ⟨some 72, _, _, _, _, _⟩) (v := ?_) rfl (by kernel_rfl) (by kernel_rfl) (by kernel_rfl) (fun _ _ _ h => h) (Or.inl ⟨by rfl, ?_⟩) (by assumption) ?_
      rotate_left
      · ((intro w hSw; (try dsimp only at hSw); go_simp) <;> (with_reducible rfl))
      (try simp only [Act.put, List.setIfInBounds_toArray, List.set_cons_zero, List.set_cons_succ])
      refine wpAnyH_ready (rs := [5]) (by kernel_rfl) (by simp) ?_
      refine AllReadyH.cons (o := ⟨some 73, _, _, _, _, _⟩) rfl (fun K hK => ?_) AllReadyH.nil
      go_simp
      refine (iNumberAt_any _ _ _ _ _ (by omega) (by omega)).mono ?_; rw [K3.out, N3.out]; rintro e w73 ⟨rfl, hb73⟩
      refine hK.out _ _ ?_ (fun hHeld => ?_)
      · ((refine keepB ?_) <;> (repeat' (first | (with_reducible assumption) | (with_reducible exact And.left (by assumption)) | (with_reducible exact Below.refl _ _) | (with_reducible exact Below.size (And.left (by assumption))) | (with_reducible refine Below.drew ?_) | (with_reducible refine Below.drN ?_ _) | (with_reducible refine Below.al ?_ _) | (with_reducible refine Below.step ?_ (by assumption)) | (with_reducible refine Below.setCell ?_ ?_ _) | (with_reducible refine Below.alloc ?_ ?_ _) | (simp <;> omega))))
      clear hK K
      (try simp only [Act.put, List.setIfInBounds_toArray, List.set_cons_zero, List.set_cons_succ])
      refine wpAnyH_take (i := 6) (oi := ⟨some 67, _, _, _, _, _⟩) (v := ?_) rfl (by kernel_rfl) (by kernel_rfl) (by kernel_rfl) (fun _ _ _ h => h) (Or.inl ⟨by rfl, ?_⟩) (by assumption) ?_
      rotate_left
      · ((intro w hSw; (try dsimp only at hSw); go_simp) <;> (with_reducible rfl))
      (try simp only [Act.put, List.setIfInBounds_toArray, List.set_cons_zero, List.set_cons_succ])
      refine wpAnyH_take (i := 7) (oi := ⟨some 74, _, _, _, _, _⟩) (v := ?_) rfl (by kernel_rfl) (by kernel_rfl) (by kernel_rfl) (fun _ _ _ h => h) (Or.inl ⟨by rfl, ?_⟩) (by assumption) ?_
      rotate_left
      · ((intro w hSw; (try dsimp only at hSw); go_simp) <;> (with_reducible rfl))
      (try simp only [Act.put, List.setIfInBounds_toArray, List.set_cons_zero, List.set_cons_succ])
      refine wpAnyH_take (i := 8) (oi := ⟨some 75, _, _, _, _, _⟩) (v := ?_) rfl (by kernel_rfl) (by kernel_rfl) (by kernel_rfl) (fun _ _ _ h => h) (Or.inl ⟨by rfl, ?_⟩) (by assumption) ?_
      rotate_left
      · ((intro w hSw; (try dsimp only at hSw); go_simp) <;> (with_reducible rfl))
      (try simp only [Act.put, List.setIfInBounds_toArray, List.set_cons_zero, List.set_cons_succ])
      refine wpAnyH_take (i := 9) (oi := ⟨some 12, _, _, _, _, _⟩) (v := ?_) rfl (by kernel_rfl) (by kernel_rfl) (by kernel_rfl) (fun _ _ _ h => h) (Or.inl ⟨by rfl, ?_⟩) (by assumption) ?_
      rotate_left
      · ((intro w hSw; (try dsimp only at hSw); go_simp) <;> (with_reducible rfl))
      (try simp only [Act.put, List.setIfInBounds_toArray, List.set_cons_zero, List.set_cons_succ])
      refine wpAnyH_take (i := 10) (oi := ⟨some 13, _, _, _, _, _⟩) (v := ?_) rfl (by kernel_rfl) (by kernel_rfl) (by kernel_rfl) (fun _ _ _ h => h) (Or.inl ⟨by rfl, ?_⟩) (by assumption) ?_
      rotate_left
      · ((intro w hSw; (try dsimp only at hSw); go_simp) <;> (with_reducible rfl))
      (try simp only [Act.put, List.setIfInBounds_toArray, List.set_cons_zero, List.set_cons_succ])
      refine wpAnyH_done (by kernel_rfl) ?_ _
      refine NoPanic.normal ?_
      obtain ⟨hS, hcS⟩ := hHeld
      go_wp2_with fail
      refine (iPlaceOf_any _ _ _ _ _).mono ?_; rw [HP.out]; rintro e w93 ⟨rfl, hb93⟩
      go_wp2_with fail
      go_ret
      exact ⟨rfl, (gW.step hS).step hb93⟩
    · go_wp2_with fail
      refine (iLenOf_any _ _ _ _).mono ?_; rw [HL.out]; rintro e w4 ⟨rfl, hb4⟩; have g4 := g3.step hb4; clear hc3; have hc4 := bcel g4
      go_wp2_with fail
      refine (iNumberAt_any _ _ _ _ _ (by omega) (by omega)).mono ?_; rw [K2.out, N2.out]; rintro e w5 ⟨rfl, hb5⟩; have g5 := g4.step hb5; clear hc4; have hc5 := bcel g5
      go_wp2_with fail
      refine nameW ?_; intro W hW
      (have p0 : W.cell? ⟨w1.heap.size, 0, none⟩ = some (.int .i64 a) := by rw [hW]; exact (hc5 _ _ (by simp)).trans (by simp)); (have p1 : W.cell? ⟨w1.heap.size, 1, none⟩ = some (.int .i64 b) := by rw [hW]; exact (hc5 _ _ (by simp)).trans (by simp)); (have p2 : W.cell? ⟨w1.heap.size, 2, none⟩ = some (.int .i64 c) := by rw [hW]; exact (hc5 _ _ (by simp)).trans (by simp)); (have zA : w1.heap.size < W.heap.size := by rw [hW]; have := g5.size; simp at this; omega); (have gW : Below w.heap.size w W := by rw [hW]; exact (by (repeat' (first | (with_reducible exact Below.refl _ _) | (with_reducible assumption) | (with_reducible refine Below.setCell ?_ ?_ _) | (with_reducible refine Below.al ?_ _) | (with_reducible refine Below.drew ?_) | (with_reducible refine Below.drN ?_ _) | (with_reducible refine Below.step ?_ (by assumption)) | (with_reducible refine Below.alloc ?_ ?_ _))); all_goals (simp; try omega))); clear hW hc5 g5 g4 g3 g2 hb1
      refine wp_region_noPanic ?_
      refine wp_region_held_drew (S := (fun w' => Below W.heap.size W w' ∧ ∀ bb oo, bb < W.heap.size → w'.cell? ⟨bb, oo, none⟩ = W.cell? ⟨bb, oo, none⟩)) (by kernel_rfl) ?_ (fun hHeld => ?_)
      · ((refine keepB ?_) <;> (repeat' (first | (with_reducible assumption) | (with_reducible exact And.left (by assumption)) | (with_reducible exact Below.refl _ _) | (with_reducible exact Below.size (And.left (by assumption))) | (with_reducible refine Below.drew ?_) | (with_reducible refine Below.drN ?_ _) | (with_reducible refine Below.al ?_ _) | (with_reducible refine Below.step ?_ (by assumption)) | (with_reducible refine Below.setCell ?_ ?_ _) | (with_reducible refine Below.alloc ?_ ?_ _) | (simp <;> omega))))
      refine wpAnyH_take (i := 0) (oi := ⟨some 68, _, _, _, _, _⟩) (v := ?_) rfl (by kernel_rfl) (by kernel_rfl) (by kernel_rfl) (fun _ _ _ h => h) (Or.inl ⟨by rfl, ?_⟩) (by assumption) ?_
      rotate_left
      · ((intro w hSw; (try dsimp only at hSw); go_simp) <;> (with_reducible rfl))
      (try simp only [Act.put, List.setIfInBounds_toArray, List.set_cons_zero, List.set_cons_succ])
      refine wpAnyH_take (i := 1) (oi := ⟨some 69, _, _, _, _, _⟩) (v := ?_) rfl (by kernel_rfl) (by kernel_rfl) (by kernel_rfl) (fun _ _ _ h => h) (Or.inl ⟨by rfl, ?_⟩) (by assumption) ?_
      rotate_left
      · ((intro w hSw; (try dsimp only at hSw); go_simp) <;> (with_reducible rfl))
      (try simp only [Act.put, List.setIfInBounds_toArray, List.set_cons_zero, List.set_cons_succ])
      refine wpAnyH_take (i := 2) (oi := ⟨some 70, _, _, _, _, _⟩) (v := ?_) rfl (by kernel_rfl) (by kernel_rfl) (by kernel_rfl) (fun _ _ _ h => h) (Or.inl ⟨by rfl, ?_⟩) (by assumption) ?_
      rotate_left
      · ((intro w hSw; (try dsimp only at hSw); go_simp) <;> (with_reducible rfl))
      (try simp only [Act.put, List.setIfInBounds_toArray, List.set_cons_zero, List.set_cons_succ])
      refine wpAnyH_ready (rs := [3]) (by kernel_rfl) (by simp) ?_
      refine AllReadyH.cons (o := ⟨some 71, _, _, _, _, _⟩) rfl (fun K hK => ?_) AllReadyH.nil
      go_simp
      refine (iLenOf_any _ _ _ _).mono ?_; rw [HL.out]; rintro e w71 ⟨rfl, hb71⟩
      refine hK.out _ _ ?_ (fun hHeld => ?_)
      · ((refine keepB ?_) <;> (repeat' (first | (with_reducible assumption) | (with_reducible exact And.left (by assumption)) | (with_reducible exact Below.refl _ _) | (with_reducible exact Below.size (And.left (by assumption))) | (with_reducible refine Below.drew ?_) | (with_reducible refine Below.drN ?_ _) | (with_reducible refine Below.al ?_ _) | (with_reducible refine Below.step ?_ (by assumption)) | (with_reducible refine Below.setCell ?_ ?_ _) | (with_reducible refine Below.alloc ?_ ?_ _) | (simp <;> omega))))
      clear hK K
      (try simp only [Act.put, List.setIfInBounds_toArray, List.set_cons_zero, List.set_cons_succ])
      refine wpAnyH_take (i := 4) (oi := ⟨some 72, _, _, _, _, _⟩) (v := ?_) rfl (by kernel_rfl) (by kernel_rfl) (by kernel_rfl) (fun _ _ _ h => h) (Or.inl ⟨by rfl, ?_⟩) (by assumption) ?_
      rotate_left
      · ((intro w hSw; (try dsimp only at hSw); go_simp) <;> (with_reducible rfl))
      (try simp only [Act.put, List.setIfInBounds_toArray, List.set_cons_zero, List.set_cons_succ])
      refine wpAnyH_ready (rs := [5]) (by kernel_rfl) (by simp) ?_
      refine AllReadyH.cons (o := ⟨some 73, _, _, _, _, _⟩) rfl (fun K hK => ?_) AllReadyH.nil
      go_simp
      refine (iNumberAt_any _ _ _ _ _ (by omega) (by omega)).mono ?_; rw [K3.out, N3.out]; rintro e w73 ⟨rfl, hb73⟩
      refine hK.out _ _ ?_ (fun hHeld => ?_)
      · ((refine keepB ?_) <;> (repeat' (first | (with_reducible assumption) | (with_reducible exact And.left (by assumption)) | (with_reducible exact Below.refl _ _) | (with_reducible exact Below.size (And.left (by assumption))) | (with_reducible refine Below.drew ?_) | (with_reducible refine Below.drN ?_ _) | (with_reducible refine Below.al ?_ _) | (with_reducible refine Below.step ?_ (by assumption)) | (with_reducible refine Below.setCell ?_ ?_ _) | (with_reducible refine Below.alloc ?_ ?_ _) | (simp <;> omega))))
      clear hK K
      (try simp only [Act.put, List.setIfInBounds_toArray, List.set_cons_zero, List.set_cons_succ])
      refine wpAnyH_take (i := 6) (oi := ⟨some 67, _, _, _, _, _⟩) (v := ?_) rfl (by kernel_rfl) (by kernel_rfl) (by kernel_rfl) (fun _ _ _ h => h) (Or.inl ⟨by rfl, ?_⟩) (by assumption) ?_
      rotate_left
      · ((intro w hSw; (try dsimp only at hSw); go_simp) <;> (with_reducible rfl))
      (try simp only [Act.put, List.setIfInBounds_toArray, List.set_cons_zero, List.set_cons_succ])
      refine wpAnyH_take (i := 7) (oi := ⟨some 74, _, _, _, _, _⟩) (v := ?_) rfl (by kernel_rfl) (by kernel_rfl) (by kernel_rfl) (fun _ _ _ h => h) (Or.inl ⟨by rfl, ?_⟩) (by assumption) ?_
      rotate_left
      · ((intro w hSw; (try dsimp only at hSw); go_simp) <;> (with_reducible rfl))
      (try simp only [Act.put, List.setIfInBounds_toArray, List.set_cons_zero, List.set_cons_succ])
      refine wpAnyH_take (i := 8) (oi := ⟨some 75, _, _, _, _, _⟩) (v := ?_) rfl (by kernel_rfl) (by kernel_rfl) (by kernel_rfl) (fun _ _ _ h => h) (Or.inl ⟨by rfl, ?_⟩) (by assumption) ?_
      rotate_left
      · ((intro w hSw; (try dsimp only at hSw); go_simp) <;> (with_reducible rfl))
      (try simp only [Act.put, List.setIfInBounds_toArray, List.set_cons_zero, List.set_cons_succ])
      refine wpAnyH_take (i := 9) (oi := ⟨some 12, _, _, _, _, _⟩) (v := ?_) rfl (by kernel_rfl) (by kernel_rfl) (by kernel_rfl) (fun _ _ _ h => h) (Or.inl ⟨by rfl, ?_⟩) (by assumption) ?_
      rotate_left
      · ((intro w hSw; (try dsimp only at hSw); go_simp) <;> (with_reducible rfl))
      (try simp only [Act.put, List.setIfInBounds_toArray, List.set_cons_zero, List.set_cons_succ])
      refine wpAnyH_take (i := 10) (oi := ⟨some 13, _, _, _, _, _⟩) (v := ?_) rfl (by kernel_rfl) (by kernel_rfl) (by kernel_rfl) (fun _ _ _ h => h) (Or.inl ⟨by rfl, ?_⟩) (by assumption) ?_
      rotate_left
      · ((intro w hSw; (try dsimp only at hSw); go_simp) <;> (with_reducible rfl))
      (try simp only [Act.put, List.setIfInBounds_toArray, List.set_cons_zero, List.set_cons_succ])
      refine wpAnyH_done (by kernel_rfl) ?_ _
      refine NoPanic.normal ?_
      obtain ⟨hS, hcS⟩ := hHeld
      go_wp2_with fail
      refine (iPlaceOf_any _ _ _ _ _).mono ?_; rw [HP.out]; rintro e w93 ⟨rfl, hb93⟩
      go_wp2_with fail
      go_ret
      exact ⟨rfl, (gW.step hS).step hb93⟩
end Go.Proofs.Ytipgopapohigpaa
