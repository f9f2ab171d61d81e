/- The walk of the law over what is dealt. -/
import Derived.Test.YtipgopapohigpaaDeal4
import Derived.Test.YtipgopapohigpaaRdr6
set_option linter.unusedVariables false
namespace Go.Proofs.Ytipgopapohigpaa
open Go.RowKit

set_option maxRecDepth 100000 in
set_option maxHeartbeats 6400000 in
theorem FnDealRange_walk (A : Option Addr) (n : Nat) (bs : List Int) (w : World) (hr : Rd w w.heap.size .u8 A bs) (hl : bs.length ≤ maxLen) (hnn : bs.length ≤ n) (hb : ∀ x ∈ bs, 0 ≤ x ∧ x ≤ 255) :
    Calls Try.prog 13 #[.slice A bs.length n] w (Ret w (.bool true)) := by
  by_cases hbig : bs.length > 1048576
  · go_enter Try.func13, Try.ntmps13
    go_wp2_with fail
    go_ret
    exact ⟨rfl, (by (repeat' (first | (with_reducible exact Below.refl _ _) | (with_reducible assumption) | (with_reducible refine Below.setCell ?_ ?_ _) | (with_reducible refine Below.al ?_ _) | (with_reducible refine Below.drew ?_) | (with_reducible refine Below.drN ?_ _) | (with_reducible refine Below.step ?_ (by assumption)) | (with_reducible refine Below.alloc ?_ ?_ _))); all_goals (simp; try omega))⟩
  go_enter Try.func13, Try.ntmps13
  go_wp2_with fail
  refine (DrawDealRange_any A n bs _ hr hl hnn hb).mono ?_; rintro e w1 ⟨a, b, c, x, rfl, ha, hb', hc, hx, hb1⟩
  clear hr hb
  obtain ⟨rs, HR, hrl⟩ : ∃ rs, Hid (dealR a b c x = rs) ∧ rs.length ≤ 1000 := by
    refine ⟨_, rfl, ?_⟩
    unfold dealR
    split
    · rw [dealL_length]; omega
    · simp
  go_wp2_with fail
  refine (iDealRange_any _ _ _ _ _).mono ?_; rw [HR.out]; rintro e w2 ⟨A2, c2, rfl, ho2, g2⟩
  have hc2 := bcel g2
  have r2 := ho2.rd
  go_wp2_with fail
  refine (sDealRange_any _ _ _ _ _).mono ?_; rw [HR.out]; rintro e w3 ⟨A3, c3, rfl, ho3, hb3⟩; have g3 := g2.step hb3; clear hc2; have hc3 := bcel g3
  have r3 := r2.to hb3
  go_wp2_with fail
  refine (equalRanges_same _ _ _ _ _ _ r3 ho3.rd hrl).mono ?_; rintro e w4 ⟨rfl, hb4⟩; have g4 := g3.step hb4; clear hc3; have hc4 := bcel g4
  have r4 := r3.to hb4
  by_cases h0 : rs.length = 0
  · have e0 : rs = [] := List.length_eq_zero_iff.1 h0
    subst e0
    clear h0
    go_wp2_with fail
    refine (sDealRange_any _ _ _ _ _).mono ?_; rw [HR.out]; rintro e w6 ⟨A6, c6, rfl, ho6, hb6⟩
    go_wp2_with fail
    refine (equalRanges_same A2 A6 c2 c6 [] _ (r4.to hb6) ho6.rd hrl).mono ?_; rintro e w7 ⟨rfl, hb7⟩
    go_wp2_with fail
    go_ret
    exact ⟨rfl, (by (repeat' (first | (with_reducible exact Below.refl _ _) | (with_reducible assumption) | (with_reducible refine Below.setCell ?_ ?_ _) | (with_reducible refine Below.al ?_ _) | (with_reducible refine Below.drew ?_) | (with_reducible refine Below.drN ?_ _) | (with_reducible refine Below.step ?_ (by assumption)) | (with_reducible refine Below.alloc ?_ ?_ _))); all_goals (simp; try omega))⟩
  · have hyes : rangeB a b c = true ∧ 1 ≤ x ∧ x ≤ 6 := by
      rcases Classical.em (rangeB a b c = true ∧ 1 ≤ x ∧ x ≤ 6) with h | h
      · exact h
      · exfalso; apply h0; rw [← HR.out, dealR_no h]; rfl
    obtain ⟨hv, hx1, hx6⟩ := hyes
    obtain ⟨m, rfl⟩ := Int.eq_ofNat_of_zero_le (show 0 ≤ x by omega)
    have hm1 : 1 ≤ m := by omega
    have hm6 : m ≤ 6 := by omega
    have hrs : dealL a b c m = rs := by rw [← HR.out, dealR_yes hv hm1 hm6]
    have hrm : rs.length = m := by rw [← hrs, dealL_length]
    have HAT : Hid (∀ i, i < cnt a b c → ∃ h : i % m < rs.length, numA rs[i % m].1 rs[i % m].2.1 rs[i % m].2.2 ((i / m : Nat) : Int) = (nums a b c).getD i 0 ∧ numK rs[i % m].1 rs[i % m].2.1 rs[i % m].2.2 ((i / m : Nat) : Int) = true) := fun i hi => by
      have hk : i % m < rs.length := by rw [hrm]; exact Nat.mod_lt _ (by omega)
      refine ⟨hk, ?_⟩
      have e : rs[i % m] = nrm (hd (nums a b c) m (i % m) (cnt a b c)) := by subst hrs; exact dealL_get a b c m _ hk
      rw [e]
      exact deal_at hv hm1 hm6 hi
    have HLE : Hid (∀ k, ∀ h : k < rs.length, lenR rs[k].1 rs[k].2.1 rs[k].2.2 = (hn m k (cnt a b c) : Int)) := fun k h => by
      have e : rs[k] = nrm (hd (nums a b c) m k (cnt a b c)) := by subst hrs; exact dealL_get a b c m _ h
      rw [e]
      exact deal_len hv hm1 hm6 (by omega)
    have hle := cnt_le a b c (small_of hv)
    have HRM := Lib.hid hrm
    have HV := Lib.hid hv
    have hLn := nums_length a b c
    obtain ⟨L, HL⟩ : ∃ L, Hid (nums a b c = L) := ⟨_, rfl⟩
    rw [HL.out] at HAT hLn
    rw [← hLn] at HAT HLE hle
    have HSA : Hid (sumH m L.length m = L.length) := sumH_all hm1 hm6
    have HSL : Hid (∀ K, K ≤ m → sumH m L.length K ≤ L.length) := fun K hK => sumH_le hm1 hm6 K hK
    have h00 : ((rs.length : Int) == 0) = false := by rw [beq_eq_false_iff_ne]; omega
    have zV : w1.heap.size < w4.heap.size := by have := g4.size; simp at this; omega
    have q0 : w4.cell? ⟨w1.heap.size, 0, none⟩ = some (.int .i64 a) := (hc4 _ _ (by simp)).trans (by simp)
    have q1 : w4.cell? ⟨w1.heap.size, 1, none⟩ = some (.int .i64 b) := (hc4 _ _ (by simp)).trans (by simp)
    have q2 : w4.cell? ⟨w1.heap.size, 2, none⟩ = some (.int .i64 c) := (hc4 _ _ (by simp)).trans (by simp)
    have gW : Below w.heap.size w w4 := (by (repeat' (first | (with_reducible exact Below.refl _ _) | (with_reducible assumption) | (with_reducible refine Below.setCell ?_ ?_ _) | (with_reducible refine Below.al ?_ _) | (with_reducible refine Below.drew ?_) | (with_reducible refine Below.drN ?_ _) | (with_reducible refine Below.step ?_ (by assumption)) | (with_reducible refine Below.alloc ?_ ?_ _))); all_goals (simp; try omega))
    clear hrs hrm hv hLn h0 g2 g3 g4 hc4 hb1 hb3 hb4 r2 r3 ho2 ho3 hx1 hx6
    go_wp2_with fail
    refine (iNumbersOf_any _ _ _ _).mono ?_; rw [if_pos HV.out, HL.out]; rintro e w5 ⟨A5, c5, rfl, ho5, hb5⟩
    have r5 := r4.to hb5
    have l5 := ho5.rd
    have gW5 := gW.step hb5
    clear q0 q1 q2 zV gW ho5
    go_wp2_with fail
    go_loopw [8] (fun i wr => ∃ k : Nat, k ≤ L.length ∧ i = .int .i64 k ∧ Below w5.heap.size w5 wr) (fun i _ => L.length - (intOf i).toNat)
    case atStart => exact ⟨0, Nat.zero_le _, rfl, Below.refl _ _⟩
    case round =>
      obtain ⟨k, hk, rfl, hS⟩ := hrel
      by_cases hlt : k < L.length
      · obtain ⟨ad, y, rfl, hAd, hcell, HY⟩ := (l5.to hS).get hlt
        obtain ⟨hkm, n1, n2⟩ := HAT.out k hlt
        obtain ⟨g, rfl, zg, a0, a1, a2⟩ := (r5.to hS) _ hkm
        rw [← HY.out] at n1
        obtain ⟨q, hq⟩ : ∃ q, q = k % m := ⟨_, rfl⟩
        obtain ⟨p, hp⟩ : ∃ p, p = k / m := ⟨_, rfl⟩
        have hq3 : q < rs.length := by rw [hq]; exact hkm
        generalize rs[k % m].1 = X at *
        generalize rs[k % m].2.1 = Y at *
        generalize rs[k % m].2.2 = Z at *
        rw [← hq] at a0 a1 a2
        rw [← hp] at n1 n2
        have EK : Hid ((k : Int).tmod (m : Int) = (q : Int)) := by show (k : Int).tmod (m : Int) = (q : Int); rw [hq]; rfl
        have EP : Hid ((k : Int).tdiv (m : Int) = (p : Int)) := by show (k : Int).tdiv (m : Int) = (p : Int); rw [hp]; rfl
        have hpk : p ≤ k := by rw [hp]; exact Nat.div_le_self _ _
        have N1 := Lib.hid n1
        have N2 := Lib.hid n2
        have i0 : (k : Int) < (L.length : Int) := by omega
        clear n1 n2 hq hp hkm
        go_wp2_with fail
        have hm0 : ¬ (m = 0) := by omega
        have ek := EK.out
        have ep := EP.out
        have i1 : (0 : Int) ≤ (q : Int) := by omega
        have i2 : (q : Int) < (rs.length : Int) := by omega
        have u3 := IntWalk.i64_in (p : Int) (by omega)
        refine wp_region_noPanic ?_
        refine wp_region_held_drew (S := (fun w' => Below wr.heap.size wr w' ∧ ∀ bb oo, bb < wr.heap.size → w'.cell? ⟨bb, oo, none⟩ = wr.cell? ⟨bb, oo, none⟩)) (by kernel_rfl) ?_ (fun hHeld => ?_)
        · ((refine keepB ?_) <;> (repeat' (first | (with_reducible assumption) | (with_reducible exact And.left (by assumption)) | (with_reducible exact Below.refl _ _) | (with_reducible exact Below.size (And.left (by assumption))) | (with_reducible refine Below.drew ?_) | (with_reducible refine Below.drN ?_ _) | (with_reducible refine Below.al ?_ _) | (with_reducible refine Below.step ?_ (by assumption)) | (with_reducible refine Below.setCell ?_ ?_ _) | (with_reducible refine Below.alloc ?_ ?_ _) | (simp <;> omega))))
        refine wpAnyH_take (i := 0) (oi := ⟨some 48, _, _, _, _, _⟩) (v := ?_) rfl (by kernel_rfl) (by kernel_rfl) (by kernel_rfl) (fun _ _ _ h => h) (Or.inl ⟨by rfl, ?_⟩) (by assumption) ?_
        rotate_left
        · ((intro w hSw; (try dsimp only at hSw); go_simp) <;> (with_reducible rfl))
        (try simp only [Act.put, List.setIfInBounds_toArray, List.set_cons_zero, List.set_cons_succ])
        refine wpAnyH_take (i := 1) (oi := ⟨some 49, _, _, _, _, _⟩) (v := ?_) rfl (by kernel_rfl) (by kernel_rfl) (by kernel_rfl) (fun _ _ _ h => h) (Or.inl ⟨by rfl, ?_⟩) (by assumption) ?_
        rotate_left
        · ((intro w hSw; (try dsimp only at hSw); go_simp) <;> (with_reducible rfl))
        (try simp only [Act.put, List.setIfInBounds_toArray, List.set_cons_zero, List.set_cons_succ])
        refine wpAnyH_take (i := 2) (oi := ⟨some 50, _, _, _, _, _⟩) (v := ?_) rfl (by kernel_rfl) (by kernel_rfl) (by kernel_rfl) (fun _ _ _ h => h) (Or.inl ⟨by rfl, ?_⟩) (by assumption) ?_
        rotate_left
        · ((intro w hSw; (try dsimp only at hSw); go_simp) <;> (with_reducible rfl))
        (try simp only [Act.put, List.setIfInBounds_toArray, List.set_cons_zero, List.set_cons_succ])
        refine wpAnyH_take (i := 3) (oi := ⟨some 51, _, _, _, _, _⟩) (v := ?_) rfl (by kernel_rfl) (by kernel_rfl) (by kernel_rfl) (fun _ _ _ h => h) (Or.inl ⟨by rfl, ?_⟩) (by assumption) ?_
        rotate_left
        · ((intro w hSw; (try dsimp only at hSw); go_simp) <;> (with_reducible rfl))
        (try simp only [Act.put, List.setIfInBounds_toArray, List.set_cons_zero, List.set_cons_succ])
        refine wpAnyH_take (i := 4) (oi := ⟨some 52, _, _, _, _, _⟩) (v := ?_) rfl (by kernel_rfl) (by kernel_rfl) (by kernel_rfl) (fun _ _ _ h => h) (Or.inl ⟨by rfl, ?_⟩) (by assumption) ?_
        rotate_left
        · ((intro w hSw; (try dsimp only at hSw); go_simp) <;> (with_reducible rfl))
        (try simp only [Act.put, List.setIfInBounds_toArray, List.set_cons_zero, List.set_cons_succ])
        refine wpAnyH_take (i := 5) (oi := ⟨some 53, _, _, _, _, _⟩) (v := ?_) rfl (by kernel_rfl) (by kernel_rfl) (by kernel_rfl) (fun _ _ _ h => h) (Or.inl ⟨by rfl, ?_⟩) (by assumption) ?_
        rotate_left
        · ((intro w hSw; (try dsimp only at hSw); go_simp) <;> (with_reducible rfl))
        (try simp only [Act.put, List.setIfInBounds_toArray, List.set_cons_zero, List.set_cons_succ])
        refine wpAnyH_take (i := 6) (oi := ⟨some 54, _, _, _, _, _⟩) (v := ?_) rfl (by kernel_rfl) (by kernel_rfl) (by kernel_rfl) (fun _ _ _ h => h) (Or.inl ⟨by rfl, ?_⟩) (by assumption) ?_
        rotate_left
        · ((intro w hSw; (try dsimp only at hSw); go_simp) <;> (with_reducible rfl))
        (try simp only [Act.put, List.setIfInBounds_toArray, List.set_cons_zero, List.set_cons_succ])
        refine wpAnyH_take (i := 7) (oi := ⟨some 55, _, _, _, _, _⟩) (v := ?_) rfl (by kernel_rfl) (by kernel_rfl) (by kernel_rfl) (fun _ _ _ h => h) (Or.inl ⟨by rfl, ?_⟩) (by assumption) ?_
        rotate_left
        · ((intro w hSw; (try dsimp only at hSw); go_simp) <;> (with_reducible rfl))
        (try simp only [Act.put, List.setIfInBounds_toArray, List.set_cons_zero, List.set_cons_succ])
        refine wpAnyH_take (i := 8) (oi := ⟨some 56, _, _, _, _, _⟩) (v := ?_) rfl (by kernel_rfl) (by kernel_rfl) (by kernel_rfl) (fun _ _ _ h => h) (Or.inl ⟨by rfl, ?_⟩) (by assumption) ?_
        rotate_left
        · ((intro w hSw; (try dsimp only at hSw); go_simp) <;> (with_reducible rfl))
        (try simp only [Act.put, List.setIfInBounds_toArray, List.set_cons_zero, List.set_cons_succ])
        refine wpAnyH_ready (rs := [9]) (by kernel_rfl) (by simp) ?_
        refine AllReadyH.cons (o := ⟨some 57, _, _, _, _, _⟩) rfl (fun K hK => ?_) AllReadyH.nil
        go_simp
        refine (iNumberAt_any _ _ _ _ _ (by omega) (by omega)).mono ?_; rw [N1.out, N2.out]; rintro e w57 ⟨rfl, hb57⟩
        refine hK.out _ _ ?_ (fun hHeld => ?_)
        · ((refine keepB ?_) <;> (repeat' (first | (with_reducible assumption) | (with_reducible exact And.left (by assumption)) | (with_reducible exact Below.refl _ _) | (with_reducible exact Below.size (And.left (by assumption))) | (with_reducible refine Below.drew ?_) | (with_reducible refine Below.drN ?_ _) | (with_reducible refine Below.al ?_ _) | (with_reducible refine Below.step ?_ (by assumption)) | (with_reducible refine Below.setCell ?_ ?_ _) | (with_reducible refine Below.alloc ?_ ?_ _) | (simp <;> omega))))
        clear hK K
        (try simp only [Act.put, List.setIfInBounds_toArray, List.set_cons_zero, List.set_cons_succ])
        refine wpAnyH_take (i := 10) (oi := ⟨some 47, _, _, _, _, _⟩) (v := ?_) rfl (by kernel_rfl) (by kernel_rfl) (by kernel_rfl) (fun _ _ _ h => h) (Or.inl ⟨by rfl, ?_⟩) (by assumption) ?_
        rotate_left
        · ((intro w hSw; (try dsimp only at hSw); go_simp) <;> (with_reducible rfl))
        (try simp only [Act.put, List.setIfInBounds_toArray, List.set_cons_zero, List.set_cons_succ])
        refine wpAnyH_take (i := 11) (oi := ⟨some 58, _, _, _, _, _⟩) (v := ?_) rfl (by kernel_rfl) (by kernel_rfl) (by kernel_rfl) (fun _ _ _ h => h) (Or.inl ⟨by rfl, ?_⟩) (by assumption) ?_
        rotate_left
        · ((intro w hSw; (try dsimp only at hSw); go_simp) <;> (with_reducible rfl))
        (try simp only [Act.put, List.setIfInBounds_toArray, List.set_cons_zero, List.set_cons_succ])
        refine wpAnyH_take (i := 12) (oi := ⟨some 59, _, _, _, _, _⟩) (v := ?_) rfl (by kernel_rfl) (by kernel_rfl) (by kernel_rfl) (fun _ _ _ h => h) (Or.inl ⟨by rfl, ?_⟩) (by assumption) ?_
        rotate_left
        · ((intro w hSw; (try dsimp only at hSw); go_simp) <;> (with_reducible rfl))
        (try simp only [Act.put, List.setIfInBounds_toArray, List.set_cons_zero, List.set_cons_succ])
        refine wpAnyH_take (i := 13) (oi := ⟨some 9, _, _, _, _, _⟩) (v := ?_) rfl (by kernel_rfl) (by kernel_rfl) (by kernel_rfl) (fun _ _ _ h => h) (Or.inl ⟨by rfl, ?_⟩) (by assumption) ?_
        rotate_left
        · ((intro w hSw; (try dsimp only at hSw); go_simp) <;> (with_reducible rfl))
        (try simp only [Act.put, List.setIfInBounds_toArray, List.set_cons_zero, List.set_cons_succ])
        refine wpAnyH_take (i := 14) (oi := ⟨some 10, _, _, _, _, _⟩) (v := ?_) rfl (by kernel_rfl) (by kernel_rfl) (by kernel_rfl) (fun _ _ _ h => h) (Or.inl ⟨by rfl, ?_⟩) (by assumption) ?_
        rotate_left
        · ((intro w hSw; (try dsimp only at hSw); go_simp) <;> (with_reducible rfl))
        (try simp only [Act.put, List.setIfInBounds_toArray, List.set_cons_zero, List.set_cons_succ])
        refine wpAnyH_done (by kernel_rfl) ?_ _
        refine NoPanic.normal ?_
        obtain ⟨hS2, hcS⟩ := hHeld
        have hcell2 := (hS2.cell (p := ad.add k) (by rw [addBlock]; exact hAd)).trans hcell
        clear hcS hcell a0 a1 a2 hb57
        go_wp2_with fail
        go_roundw
        case rel => exact ⟨k + 1, hlt, by go_num, hS.step hS2⟩
        case measure => simp [intOf]; omega
      · obtain rfl : k = L.length := by omega
        have gV := gW5.step hS
        have r6 := r5.to hS
        obtain ⟨W, hW⟩ : ∃ W, W = wr := ⟨_, rfl⟩
        rw [← hW] at gV r6 ⊢
        clear hW hS r5 l5 gW5
        have hrm := HRM.out
        have hm3 : (rs.length : Int) = (m : Int) := by omega
        have HM3 := Lib.hid hm3
        clear hm3 hrm
        go_wp2_with fail
        go_loopw [7, 11] (fun v i wr => ∃ k : Nat, k ≤ rs.length ∧ i = .int .i64 k ∧ v = .int .i64 (sumH m L.length k : Nat) ∧ Below W.heap.size W wr) (fun _ i _ => rs.length - (intOf i).toNat)
        case atStart => exact ⟨0, Nat.zero_le _, rfl, rfl, Below.refl _ _⟩
        case round =>
          obtain ⟨k, hk, rfl, rfl, hS⟩ := hrel
          by_cases hlt2 : k < rs.length
          · obtain ⟨g, rfl, zg, a0, a1, a2⟩ := (r6.to hS) _ hlt2
            have n1 := HLE.out k hlt2
            have hs1 := HSL.out k (by have := HRM.out; omega)
            have hs2 := HSL.out (k + 1) (by have := HRM.out; omega)
            have HS2 : Hid (sumH m L.length (k + 1) = sumH m L.length k + hn m k L.length) := rfl
            rw [HS2.out] at hs2
            generalize rs[k].1 = X at *
            generalize rs[k].2.1 = Y at *
            generalize rs[k].2.2 = Z at *
            have N1 := Lib.hid n1
            obtain ⟨s, hs⟩ : ∃ s, s = sumH m L.length k := ⟨_, rfl⟩
            obtain ⟨q, hq⟩ : ∃ q, q = hn m k L.length := ⟨_, rfl⟩
            rw [← hs] at hs1 hs2 HS2 ⊢
            rw [← hq] at hs2 N1 HS2
            have u3 := IntWalk.i64_in ((s : Int) + (q : Int)) (by omega)
            have i1 : (0 : Int) ≤ (k : Int) := by omega
            have i2 : (k : Int) < (rs.length : Int) := by omega
            clear n1 hs hq
            go_wp2_with fail
            refine (iLenOf_any _ _ _ _).mono ?_; rw [N1.out]; rintro e w8 ⟨rfl, hb8⟩
            go_wp2_with fail
            go_roundw
            case rel => exact ⟨k + 1, hlt2, by go_num, by rw [HS2.out]; simp, hS.step hb8⟩
            case measure => simp [intOf]; omega
          · obtain rfl : k = rs.length := by omega
            have e1 : sumH m L.length rs.length = L.length := by rw [HRM.out]; exact HSA.out
            rw [e1]
            have e2 := HM3.out
            clear e1
            go_wp2_with fail
            go_ret
            exact ⟨rfl, gV.step hS⟩
end Go.Proofs.Ytipgopapohigpaa
