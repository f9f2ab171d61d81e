/- The walk of the law over the places of fields. -/
import Derived.Test.YtdhhdkncglhgfaaGen6
import Derived.Test.YtdhhdkncglhgfaaForm4
set_option linter.unusedVariables false
namespace Go.Proofs.Ytdhhdkncglhgfaa
open Go.RowKit

theorem rup_mod {n b : Int} : rup n b % b = 0 := by unfold rup; exact Int.mul_emod_left _ _
theorem pl_all {al : Bool} {xs : List Int} (h : (plA al xs).length ≠ 0) : formB xs = true ∧ (plA al xs).length = xs.length ∧ 1 ≤ xs.length ∧
    (∀ j, j < xs.length → 1 ≤ xs.getD j 0 ∧ xs.getD j 0 ≤ 4 ∧ 0 ≤ (plA al xs).getD j 0 ∧ (plA al xs).getD j 0 ≤ 100 ∧ (al = true → (plA al xs).getD j 0 % xs.getD j 0 = 0)) ∧
    (∀ j, j + 1 < xs.length → (plA al xs).getD j 0 + xs.getD j 0 ≤ (plA al xs).getD (j + 1) 0 ∧ (al = false → (plA al xs).getD (j + 1) 0 = (plA al xs).getD j 0 + xs.getD j 0)) ∧ (plA al xs).getD 0 0 = 0 := by
  rcases hv : formB xs with _ | _
  · exfalso; apply h; rw [plA, hv]; rfl
  · have e : plA al xs = fPs al xs xs.length := by rw [plA, if_pos hv]
    obtain ⟨h1, h5, hs⟩ := form_szl hv
    rw [e]
    refine ⟨rfl, fPs_length _ _ _, h1, fun j hj => ?_, fun j hj => ?_, ?_⟩
    · rw [fPs_get _ _ _ _ hj]
      have h3 := fAt_bd (al := al) hs j (by omega)
      have h4 := fPl_bd (al := al) hs j hj
      have h6 : 1 ≤ xs.getD j 0 ∧ xs.getD j 0 ≤ 4 := by rcases hs j hj with e | e | e <;> omega
      refine ⟨h6.1, h6.2, by omega, by omega, fun ha => ?_⟩
      rw [fPl, if_pos ha]; exact rup_mod
    · rw [fPs_get _ _ _ _ (by omega), fPs_get _ _ _ _ hj]
      have h4 := fPl_bd (al := al) hs (j + 1) hj
      rw [fAt_succ] at h4
      refine ⟨h4.1, fun ha => ?_⟩
      have : fPl al xs (j + 1) = fAt al xs (j + 1) := by rw [fPl, if_neg (by simp [ha])]
      rw [this, fAt_succ]
    · rw [fPs_get _ _ _ _ (by omega), fPl]
      have h6 : Sz (xs.getD 0 0) := hs 0 (by omega)
      split
      · show rup 0 _ = 0
        unfold rup
        rcases h6 with e | e | e <;> rw [e] <;> decide
      · rfl

set_option maxRecDepth 100000 in
set_option maxHeartbeats 6400000 in
theorem FnPlacesOf_walk (A : Option Addr) (n : Nat) (bs : List Int) (w : World) (hr : Rd w w.heap.size .u8 A bs) (hl : bs.length ≤ maxLen) (hn : bs.length ≤ n) (hb : ∀ x ∈ bs, 0 ≤ x ∧ x ≤ 255) :
    Calls Try.prog 8 #[.slice A bs.length n] w (Ret w (.bool true)) := by
  by_cases hbig : bs.length > 1048576
  · go_enter Try.func8, Try.ntmps8
    go_wp2_with fail
    go_ret
    exact ⟨rfl, (by (repeat' (first | (with_reducible exact Below.refl _ _) | (with_reducible assumption) | (with_reducible refine Below.setCell ?_ ?_ _) | (with_reducible refine Below.al ?_ _) | (with_reducible refine Below.drew ?_) | (with_reducible refine Below.drN ?_ _) | (with_reducible refine Below.step ?_ (by assumption)) | (with_reducible refine Below.alloc ?_ ?_ _))); all_goals (simp; try omega))⟩
  go_enter Try.func8, Try.ntmps8
  go_wp2_with fail
  refine (DrawPlacesOf_any A n bs _ hr hl hn hb).mono ?_; rintro e w1 ⟨A1, c1, xs, bg, al, rfl, hx1, hxc, hx3, r1, hb1⟩
  clear hr hb
  have hxm : xs.length ≤ maxLen := by simp only [maxLen]; omega
  have r1b := r1.to ((Below.refl _ _).al (.cells #[.slice A1 xs.length c1, .bool bg, .bool al] 37))
  obtain ⟨ys, Y0, hy1⟩ : ∃ ys, Hid (plA al xs = ys) ∧ ys.length ≤ 5 := ⟨_, rfl, plA_len al xs⟩
  have hym : ys.length ≤ maxLen := by simp only [maxLen]; omega
  have HE := Lib.hid (show eqB ys ys = true by simp [eqB])
  go_wp2_with fail
  refine (iPlacesOf_any _ _ _ _ _ _ r1b hxm).mono ?_; rw [Y0.out]; rintro e w2 ⟨A2, c2, rfl, ho2, g2⟩
  have hc2 := bcel g2
  have r2 := r1b.to g2
  have y2 := ho2.rd
  go_wp2_with fail
  refine (sPlacesOf_any _ _ _ _ _ _ r2 hxm).mono ?_; rw [Y0.out]; rintro e w3 ⟨A3, c3, rfl, ho3, hb3⟩; have g3 := g2.step hb3; clear hc2; have hc3 := bcel g3
  have r3 := r2.to hb3
  have y3 := y2.to hb3
  go_wp2_with fail
  refine (equalInts_any _ _ _ _ _ _ _ _ _ y3 ho3.rd hym hym).mono ?_; rw [HE.out]; rintro e w4 ⟨rfl, hb4⟩; have g4 := g3.step hb4; clear hc3; have hc4 := bcel g4
  have r4 := r3.to hb4
  have y4 := y3.to hb4
  by_cases h0 : ys.length = 0
  · have e0 : ys = [] := List.length_eq_zero_iff.1 h0
    subst e0
    clear h0
    go_wp2_with fail
    refine (sPlacesOf_any _ _ _ _ _ _ r4 hxm).mono ?_; rw [Y0.out]; rintro e w6 ⟨A6, c6, rfl, ho6, hb6⟩
    have y6 := y4.to hb6
    go_wp2_with fail
    refine (equalInts_any A2 A6 c2 c6 _ _ [] [] _ y6 ho6.rd hym hym).mono ?_; rw [HE.out]; rintro e w7 ⟨rfl, hb7⟩
    go_wp2_with fail
    go_ret
    exact ⟨rfl, (by (repeat' (first | (with_reducible exact Below.refl _ _) | (with_reducible assumption) | (with_reducible refine Below.setCell ?_ ?_ _) | (with_reducible refine Below.al ?_ _) | (with_reducible refine Below.drew ?_) | (with_reducible refine Below.drN ?_ _) | (with_reducible refine Below.step ?_ (by assumption)) | (with_reducible refine Below.alloc ?_ ?_ _))); all_goals (simp; try omega))⟩
  · obtain ⟨_, hlen, hx0, q1, q2, q3⟩ := pl_all (al := al) (xs := xs) (by rw [Y0.out]; exact h0)
    rw [Y0.out] at hlen q1 q2 q3
    have HL := Lib.hid hlen
    have Q1 := Lib.hid q1
    have Q2 := Lib.hid q2
    have Q3 := Lib.hid q3
    have h00 : ((ys.length : Int) == 0) = false := by rw [beq_eq_false_iff_ne]; omega
    have zV : w1.heap.size < w4.heap.size := by have := g4.size; simp at this; omega
    have c0 : w4.cell? ⟨w1.heap.size, 0, none⟩ = some (.slice A1 xs.length c1) := (hc4 _ _ (by simp)).trans (by simp)
    have cx : w4.cell? ⟨w1.heap.size, 2, none⟩ = some (.bool al) := (hc4 _ _ (by simp)).trans (by simp)
    have hbx : Below w.heap.size w w4 := (by (repeat' (first | (with_reducible exact Below.refl _ _) | (with_reducible assumption) | (with_reducible refine Below.setCell ?_ ?_ _) | (with_reducible refine Below.al ?_ _) | (with_reducible refine Below.drew ?_) | (with_reducible refine Below.drN ?_ _) | (with_reducible refine Below.step ?_ (by assumption)) | (with_reducible refine Below.alloc ?_ ?_ _))); all_goals (simp; try omega))
    clear hlen q1 q2 q3 h0 hb1 hb3 hb4 r1 r2 r3 y2 y3 ho2 ho3 g2 g3 g4 hc4 r1b
    go_wp2_with fail
    go_loopw [5] (fun i wr => ∃ k : Nat, k ≤ xs.length ∧ i = .int .i64 k ∧ ∃ q, wr = w4.drewN q) (fun i _ => xs.length - (intOf i).toNat)
    case atStart => exact ⟨0, Nat.zero_le _, rfl, 0, rfl⟩
    case round =>
      obtain ⟨k, hk, rfl, q, rfl⟩ := hrel
      have hLo := HL.out
      by_cases hlt : k < xs.length
      · obtain ⟨ad, y, rfl, _, hcell, HY⟩ := y4.get (j := k) (by omega)
        obtain ⟨ae, z, rfl, _, hcellz, HZ⟩ := r4.get (j := k) hlt
        obtain ⟨s1, s2, s3, s4, s5⟩ := Q1.out k hlt
        rw [← HY.out] at s3 s4 s5
        rw [← HZ.out] at s1 s2 s5
        have hlt1 : (k : Int) < (xs.length : Int) := by omega
        have hlt2 : (k : Int) < (ys.length : Int) := by omega
        rcases k with _ | k
        · rw [addZero] at hcell hcellz
          rcases al with _ | _
          · have hl1 : 0 < ys.length := by omega
            have hl2 : 0 < xs.length := by omega
            clear hLo s5 hlt1 hlt2
            go_wp2_with fail
            go_quiet (fail)
            clear HY HZ hcell hcellz
            go_wp2_with fail
            go_roundw
            case rel => exact ⟨1, hlt, by go_num, _, rfl⟩
            case measure => simp [intOf]; omega
          · have s6 := s5 rfl
            have hl1 : 0 < ys.length := by omega
            have hl2 : 0 < xs.length := by omega
            clear hLo s5 hlt1 hlt2
            go_wp2_with fail
            go_quiet (fail)
            clear HY HZ hcell hcellz
            go_wp2_with fail
            go_roundw
            case rel => exact ⟨1, hlt, by go_num, _, rfl⟩
            case measure => simp [intOf]; omega
        · obtain ⟨ad1, y1, e, _, hcell1, HY1⟩ := y4.get (j := k) (by omega)
          cases e
          obtain ⟨ae1, z1, e, _, hcellz1, HZ1⟩ := r4.get (j := k) (by omega)
          cases e
          obtain ⟨t1, t2, t3, t4, _⟩ := Q1.out k (by omega)
          obtain ⟨u1, u2⟩ := Q2.out k hlt
          rw [← HY1.out] at t3 t4 u1 u2
          rw [← HZ1.out] at t1 t2 u1 u2
          rw [← HY.out] at u1 u2
          rw [addLit] at hcell hcellz
          have v1 := IntWalk.i64_in (y1 + z1) (by omega)
          have v2 := IntWalk.i64_in (k : Int) (by omega)
          have i1 : (0 : Int) ≤ (k : Int) + 1 := by omega
          have i2 : (k : Int) + 1 < (ys.length : Int) := by omega
          have i3 : (k : Int) + 1 < (xs.length : Int) := by omega
          have i4 : (0 : Int) ≤ (k : Int) := by omega
          have i5 : (k : Int) < (ys.length : Int) := by omega
          have i6 : (k : Int) < (xs.length : Int) := by omega
          have i7 : (0 : Int) < (k : Int) + 1 := by omega
          have d1 : decide (y < y1 + z1) = false := by simp; omega
          rcases al with _ | _
          · have u3 := u2 rfl
            have d2 : (y != y1 + z1) = false := by simp [u3]
            clear hLo s5 u2 u3 hlt1 hlt2
            go_wp2_with fail
            have d1' : decide (y < y1 + z1) = false := by simp; omega
            go_quiet (fail)
            go_wp2_with fail
            go_roundw
            case rel => exact ⟨k + 1 + 1, hlt, by go_num, _, rfl⟩
            case measure => simp [intOf]; omega
          · have s6 := s5 rfl
            clear hLo s5 u2 hlt1 hlt2
            go_wp2_with fail
            have d1' : decide (y < y1 + z1) = false := by simp; omega
            go_quiet (fail)
            go_wp2_with fail
            go_roundw
            case rel => exact ⟨k + 1 + 1, hlt, by go_num, _, rfl⟩
            case measure => simp [intOf]; omega
      · obtain rfl : k = xs.length := by omega
        obtain ⟨ad, y, rfl, _, hcell, HY⟩ := y4.get (j := 0) (by omega)
        have s6 := Q3.out
        rw [← HY.out] at s6
        subst s6
        rw [addZero] at hcell
        have hl1 : 0 < ys.length := by omega
        have e2 : (ys.length : Int) = (xs.length : Int) := by omega
        clear hLo
        go_wp2_with fail
        go_ret
        exact ⟨rfl, hbx.drN _⟩
end Go.Proofs.Ytdhhdkncglhgfaa
