/- The walk of the law over the size of an item. -/
import Derived.Test.YtdhhdkncglhgfaaGen6
import Derived.Test.YtdhhdkncglhgfaaPad2
import Derived.Test.YtdhhdkncglhgfaaLawCF
set_option linter.unusedVariables false
namespace Go.Proofs.Ytdhhdkncglhgfaa
open Go.RowKit

set_option maxRecDepth 100000 in
set_option maxHeartbeats 3200000 in
theorem FnItemSize_walk (A : Option Addr) (n : Nat) (bs : List Int) (w : World) (hr : Rd w w.heap.size .u8 A bs) (hl : bs.length ≤ maxLen) (hn : bs.length ≤ n) (hb : ∀ x ∈ bs, 0 ≤ x ∧ x ≤ 255) :
    Calls Try.prog 13 #[.slice A bs.length n] w (Ret w (.bool true)) := by
  by_cases hbig : bs.length > 1048576
  · go_enter Try.func13, Try.ntmps13
    go_wp2_with fail
    go_ret
    exact ⟨rfl, (by (repeat' (first | (with_reducible exact Below.refl _ _) | (with_reducible assumption) | (with_reducible refine Below.setCell ?_ ?_ _) | (with_reducible refine Below.al ?_ _) | (with_reducible refine Below.drew ?_) | (with_reducible refine Below.drN ?_ _) | (with_reducible refine Below.step ?_ (by assumption)) | (with_reducible refine Below.alloc ?_ ?_ _))); all_goals (simp; try omega))⟩
  go_enter Try.func13, Try.ntmps13
  go_wp2_with fail
  refine (DrawItemSize_any A n bs _ hr hl hn hb).mono ?_; rintro e w1 ⟨A1, c1, xs, bg, al, rfl, hx1, hxc, hx3, r1, hb1⟩
  clear hr hb
  have hxm : xs.length ≤ maxLen := by simp only [maxLen]; omega
  have r1b := r1.to ((Below.refl _ _).al (.cells #[.slice A1 xs.length c1, .bool bg, .bool al] 37))
  rcases hv : formB xs with _ | _
  · have HV : Hid (itA al xs = -1) := by rw [itA, hv]; rfl
    clear hv
    go_wp2_with fail
    refine (iItemSize_any _ _ _ _ _ _ r1b hxm).mono ?_; rw [HV.out]; rintro e w2 ⟨rfl, g2⟩
    have hc2 := bcel g2
    have r2 := r1b.to g2
    go_wp2_with fail
    refine (sItemSize_any _ _ _ _ _ _ r2 hxm).mono ?_; rw [HV.out]; rintro e w3 ⟨rfl, hb3⟩; have g3 := g2.step hb3; clear hc2; have hc3 := bcel g3
    have r3 := r2.to hb3
    go_wp2_with fail
    refine (sItemSize_any _ _ _ _ _ _ r3 hxm).mono ?_; rw [HV.out]; rintro e w4 ⟨rfl, hb4⟩
    go_wp2_with fail
    go_ret
    exact ⟨rfl, (by (repeat' (first | (with_reducible exact Below.refl _ _) | (with_reducible assumption) | (with_reducible refine Below.setCell ?_ ?_ _) | (with_reducible refine Below.al ?_ _) | (with_reducible refine Below.drew ?_) | (with_reducible refine Below.drN ?_ _) | (with_reducible refine Below.step ?_ (by assumption)) | (with_reducible refine Below.alloc ?_ ?_ _))); all_goals (simp; try omega))⟩
  · have HF := Lib.hid hv
    obtain ⟨b1, b2, b3⟩ := itS_bd (al := al) hv
    obtain ⟨m, hm⟩ := Int.eq_ofNat_of_zero_le b3
    have HM := Lib.hid hm
    have HV : Hid (itA al xs = (m : Int)) := by rw [itA, if_pos hv]; exact hm
    have hm40 : m ≤ 40 := by omega
    have HD : Hid (al = true → ∀ j, j < xs.length → (m : Int) % xs.getD j 0 = 0) := fun ha j hj => by
      subst ha
      rw [← hm]; exact itS_mod hv j hj
    have HSz : Hid (∀ j, j < xs.length → 1 ≤ xs.getD j 0 ∧ xs.getD j 0 ≤ 4) := fun j hj => by
      rcases (form_szl hv).2.2 j hj with e | e | e <;> omega
    have hpos : ¬ ((m : Int) < 0) := by omega
    clear hv b1 b2 b3 hm
    go_wp2_with fail
    refine (iItemSize_any _ _ _ _ _ _ r1b hxm).mono ?_; rw [HV.out]; rintro e w2 ⟨rfl, g2⟩
    have hc2 := bcel g2
    have r2 := r1b.to g2
    go_wp2_with fail
    refine (sItemSize_any _ _ _ _ _ _ r2 hxm).mono ?_; rw [HV.out]; rintro e w3 ⟨rfl, hb3⟩; have g3 := g2.step hb3; clear hc2; have hc3 := bcel g3
    have r3 := r2.to hb3
    have zV : w1.heap.size < w3.heap.size := by have := g3.size; simp at this; omega
    have q0 : w3.cell? ⟨w1.heap.size, 0, none⟩ = some (.slice A1 xs.length c1) := (hc3 _ _ (by simp)).trans (by simp)
    have q1 : w3.cell? ⟨w1.heap.size, 1, none⟩ = some (.bool bg) := (hc3 _ _ (by simp)).trans (by simp)
    have q2 : w3.cell? ⟨w1.heap.size, 2, none⟩ = some (.bool al) := (hc3 _ _ (by simp)).trans (by simp)
    have gW : Below w.heap.size w w3 := (by (repeat' (first | (with_reducible exact Below.refl _ _) | (with_reducible assumption) | (with_reducible refine Below.setCell ?_ ?_ _) | (with_reducible refine Below.al ?_ _) | (with_reducible refine Below.drew ?_) | (with_reducible refine Below.drN ?_ _) | (with_reducible refine Below.step ?_ (by assumption)) | (with_reducible refine Below.alloc ?_ ?_ _))); all_goals (simp; try omega))
    clear hc3 g3 g2 hb1 hb3 r2 r1 r1b
    go_wp2_with fail
    go_loop [5] (fun i => ∃ k : Nat, k ≤ xs.length ∧ i = .int .i64 k) (fun i => xs.length - (intOf i).toNat)
    case atStart => exact ⟨0, Nat.zero_le _, rfl⟩
    case round =>
      obtain ⟨k, hk, rfl⟩ := hrel
      by_cases hlt : k < xs.length
      · obtain ⟨ad, z, rfl, _, hcell, HZ⟩ := r3.get (j := k) hlt
        obtain ⟨s1, s2⟩ := HSz.out k hlt
        rw [← HZ.out] at s1 s2
        have l1 : (k : Int) < (xs.length : Int) := by omega
        rcases al with _ | _
        · go_wp2_with fail
          go_round
          case rel => exact ⟨k + 1, hlt, by go_num⟩
          case measure => simp [intOf]; omega
        · have hd := HD.out rfl k hlt
          rw [← HZ.out] at hd
          go_wp2_with fail
          go_round
          case rel => exact ⟨k + 1, hlt, by go_num⟩
          case measure => simp [intOf]; omega
      · obtain rfl : k = xs.length := by omega
        have hts : ∀ j, j < xs.length → -(1000 : Nat) ≤ xs.getD j 0 ∧ xs.getD j 0 ≤ (1000 : Nat) := fun j hj => by
          have := HSz.out j hj; omega
        obtain ⟨T, HT⟩ : ∃ T, Hid (total xs = T) := ⟨_, rfl⟩
        have HTS := Lib.hid hts
        have hbd := total_take_bd xs 1000 hts xs.length (Nat.le_refl _)
        rw [List.take_of_length_le (Nat.le_refl _), HT.out] at hbd
        have hT1 : -5000 ≤ T ∧ T ≤ 5000 := by omega
        clear hts hbd
        go_wp2_with fail
        refine wp_region_noPanic ?_
        refine wp_region_held_drew (S := (fun w' => Below w3.heap.size w3 w' ∧ ∀ bb oo, bb < w3.heap.size → w'.cell? ⟨bb, oo, none⟩ = w3.cell? ⟨bb, oo, none⟩)) (by kernel_rfl) ?_ (fun hHeld => ?_)
        · ((refine keepB ?_) <;> (repeat' (first | (with_reducible assumption) | (with_reducible exact And.left (by assumption)) | (with_reducible exact Below.refl _ _) | (with_reducible exact Below.size (And.left (by assumption))) | (with_reducible refine Below.drew ?_) | (with_reducible refine Below.drN ?_ _) | (with_reducible refine Below.al ?_ _) | (with_reducible refine Below.step ?_ (by assumption)) | (with_reducible refine Below.setCell ?_ ?_ _) | (with_reducible refine Below.alloc ?_ ?_ _) | (simp <;> omega))))
        refine wpAnyH_take (i := 0) (oi := ⟨some 44, _, _, _, _, _⟩) (v := ?_) rfl (by kernel_rfl) (by kernel_rfl) (by kernel_rfl) (fun _ _ _ h => h) (Or.inl ⟨by rfl, ?_⟩) (by assumption) ?_
        rotate_left
        · ((intro w hSw; (try dsimp only at hSw); go_simp) <;> (with_reducible rfl))
        (try simp only [Act.put, List.setIfInBounds_toArray, List.set_cons_zero, List.set_cons_succ])
        refine wpAnyH_take (i := 1) (oi := ⟨some 45, _, _, _, _, _⟩) (v := ?_) rfl (by kernel_rfl) (by kernel_rfl) (by kernel_rfl) (fun _ _ _ h => h) (Or.inl ⟨by rfl, ?_⟩) (by assumption) ?_
        rotate_left
        · ((intro w hSw; (try dsimp only at hSw); go_simp) <;> (with_reducible rfl))
        (try simp only [Act.put, List.setIfInBounds_toArray, List.set_cons_zero, List.set_cons_succ])
        refine wpAnyH_take (i := 2) (oi := ⟨some 46, _, _, _, _, _⟩) (v := ?_) rfl (by kernel_rfl) (by kernel_rfl) (by kernel_rfl) (fun _ _ _ h => h) (Or.inl ⟨by rfl, ?_⟩) (by assumption) ?_
        rotate_left
        · ((intro w hSw; (try dsimp only at hSw); go_simp) <;> (with_reducible rfl))
        (try simp only [Act.put, List.setIfInBounds_toArray, List.set_cons_zero, List.set_cons_succ])
        refine wpAnyH_take (i := 4) (oi := ⟨some 48, _, _, _, _, _⟩) (v := ?_) rfl (by kernel_rfl) (by kernel_rfl) (by kernel_rfl) (fun _ _ _ h => h) (Or.inl ⟨by rfl, ?_⟩) (by assumption) ?_
        rotate_left
        · ((intro w hSw; (try dsimp only at hSw); go_simp) <;> (with_reducible rfl))
        (try simp only [Act.put, List.setIfInBounds_toArray, List.set_cons_zero, List.set_cons_succ])
        refine wpAnyH_ready (rs := [3]) (by kernel_rfl) (by simp) ?_
        refine AllReadyH.cons (o := ⟨some 47, _, _, _, _, _⟩) rfl (fun K hK => ?_) AllReadyH.nil
        go_simp
        refine (lawTotal_any _ _ _ _ _ r3.drew (by omega) HTS.out).mono ?_; rw [HT.out]; rintro e w47 ⟨rfl, rfl⟩
        refine hK.out _ _ ?_ (fun hHeld => ?_)
        · ((refine keepB ?_) <;> (repeat' (first | (with_reducible assumption) | (with_reducible exact And.left (by assumption)) | (with_reducible exact Below.refl _ _) | (with_reducible exact Below.size (And.left (by assumption))) | (with_reducible refine Below.drew ?_) | (with_reducible refine Below.drN ?_ _) | (with_reducible refine Below.al ?_ _) | (with_reducible refine Below.step ?_ (by assumption)) | (with_reducible refine Below.setCell ?_ ?_ _) | (with_reducible refine Below.alloc ?_ ?_ _) | (simp <;> omega))))
        clear hK K
        (try simp only [Act.put, List.setIfInBounds_toArray, List.set_cons_zero, List.set_cons_succ])
        refine wpAnyH_ready (rs := [5]) (by kernel_rfl) (by simp) ?_
        refine AllReadyH.cons (o := ⟨some 49, _, _, _, _, _⟩) rfl (fun K hK => ?_) AllReadyH.nil
        go_simp
        refine (PaddingOf_any _ _ _ _ _ _ r3.drew HF.out).mono ?_; rintro e w49 ⟨A49, c49, m49, rfl, hm49, hb49⟩; rw [HT.out, HM.out] at hm49; have u49 := IntWalk.i64_in (T + (m49 : Int)) (by omega)
        refine hK.out _ _ ?_ (fun hHeld => ?_)
        · ((refine keepB ?_) <;> (repeat' (first | (with_reducible assumption) | (with_reducible exact And.left (by assumption)) | (with_reducible exact Below.refl _ _) | (with_reducible exact Below.size (And.left (by assumption))) | (with_reducible refine Below.drew ?_) | (with_reducible refine Below.drN ?_ _) | (with_reducible refine Below.al ?_ _) | (with_reducible refine Below.step ?_ (by assumption)) | (with_reducible refine Below.setCell ?_ ?_ _) | (with_reducible refine Below.alloc ?_ ?_ _) | (simp <;> omega))))
        clear hK K
        (try simp only [Act.put, List.setIfInBounds_toArray, List.set_cons_zero, List.set_cons_succ])
        refine wpAnyH_take (i := 6) (oi := ⟨some 50, _, _, _, _, _⟩) (v := ?_) rfl (by kernel_rfl) (by kernel_rfl) (by kernel_rfl) (fun _ _ _ h => h) (Or.inl ⟨by rfl, ?_⟩) (by assumption) ?_
        rotate_left
        · ((intro w hSw; (try dsimp only at hSw); go_simp) <;> (with_reducible rfl))
        (try simp only [Act.put, List.setIfInBounds_toArray, List.set_cons_zero, List.set_cons_succ])
        refine wpAnyH_take (i := 7) (oi := ⟨some 51, _, _, _, _, _⟩) (v := ?_) rfl (by kernel_rfl) (by kernel_rfl) (by kernel_rfl) (fun _ _ _ h => h) (Or.inl ⟨by rfl, ?_⟩) (by assumption) ?_
        rotate_left
        · ((intro w hSw; (try dsimp only at hSw); go_simp) <;> (with_reducible rfl))
        (try simp only [Act.put, List.setIfInBounds_toArray, List.set_cons_zero, List.set_cons_succ])
        refine wpAnyH_take (i := 8) (oi := ⟨some 52, _, _, _, _, _⟩) (v := ?_) rfl (by kernel_rfl) (by kernel_rfl) (by kernel_rfl) (fun _ _ _ h => h) (Or.inl ⟨by rfl, ?_⟩) (by assumption) ?_
        rotate_left
        · ((intro w hSw; (try dsimp only at hSw); go_simp) <;> (with_reducible rfl))
        (try simp only [Act.put, List.setIfInBounds_toArray, List.set_cons_zero, List.set_cons_succ])
        refine wpAnyH_take (i := 9) (oi := ⟨some 2, _, _, _, _, _⟩) (v := ?_) rfl (by kernel_rfl) (by kernel_rfl) (by kernel_rfl) (fun _ _ _ h => h) (Or.inl ⟨by rfl, ?_⟩) (by assumption) ?_
        rotate_left
        · ((intro w hSw; (try dsimp only at hSw); go_simp) <;> (with_reducible rfl))
        (try simp only [Act.put, List.setIfInBounds_toArray, List.set_cons_zero, List.set_cons_succ])
        refine wpAnyH_done (by kernel_rfl) ?_ _
        refine NoPanic.normal ?_
        go_wp2_with fail
        go_ret
        exact ⟨ret_bool (by simp [IntWalk.i64_in (m : Int) (by omega)]), gW.step hHeld.1⟩
end Go.Proofs.Ytdhhdkncglhgfaa
