/- The walk of the law over the numbers of a range. -/
import Derived.Test.YtipgopapohigpaaRdr3
import Derived.Test.YtipgopapohigpaaPrgs
set_option linter.unusedVariables false
namespace Go.Proofs.Ytipgopapohigpaa
open Go.RowKit

theorem up_end (a b c : Int) (hc : 0 < c) : b ≤ a + (cnt a b c : Int) * c := by
  have := up_lt a b c (cnt a b c) hc
  omega
theorem down_end (a b c : Int) (hc : c < 0) : a + (cnt a b c : Int) * c ≤ b := by
  have := down_lt a b c (cnt a b c) hc
  omega

set_option maxHeartbeats 3200000 in
theorem FnNumbersOf_walk (A : Option Addr) (n : Nat) (bs : List Int) (w : World) (hr : Rd w w.heap.size .u8 A bs) (hl : bs.length ≤ maxLen) (hn : bs.length ≤ n) (hb : ∀ x ∈ bs, 0 ≤ x ∧ x ≤ 255) :
    Calls Try.prog 5 #[.slice A bs.length n] w (Ret w (.bool true)) := by
  by_cases hbig : bs.length > 1048576
  · go_enter Try.func5, Try.ntmps5
    go_wp2_with fail
    go_ret
    exact ⟨rfl, (by (repeat' (first | (with_reducible exact Below.refl _ _) | (with_reducible assumption) | (with_reducible refine Below.setCell ?_ ?_ _) | (with_reducible refine Below.al ?_ _) | (with_reducible refine Below.drew ?_) | (with_reducible refine Below.drN ?_ _) | (with_reducible refine Below.step ?_ (by assumption)) | (with_reducible refine Below.alloc ?_ ?_ _))); all_goals (simp; try omega))⟩
  go_enter Try.func5, Try.ntmps5
  go_wp2_with fail
  refine (DrawNumbersOf_any A n bs _ hr hl hn hb).mono ?_; rintro e w1 ⟨a, b, c, rfl, ha, hb', hc, hb1⟩
  clear hr hb
  obtain ⟨xs, HX, hxl⟩ : ∃ xs : List Int, Hid (xs = if rangeB a b c = true then nums a b c else []) ∧ xs.length ≤ 2000000000 := by
    by_cases h : rangeB a b c = true
    · exact ⟨nums a b c, by rw [if_pos h]; rfl, by rw [nums_length]; have := cnt_le a b c (small_of h); omega⟩
    · exact ⟨[], by rw [if_neg h]; rfl, by simp⟩
  have hxm : xs.length ≤ maxLen := by simp only [maxLen]; omega
  have HE := Lib.hid (show eqB xs xs = true by simp [eqB])
  go_wp2_with fail
  refine (iNumbersOf_any _ _ _ _).mono ?_; rw [← HX.out]; rintro e w2 ⟨A2, c2, rfl, ho2, g2⟩
  have hc2 := bcel g2
  have r2 := ho2.rd
  go_wp2_with fail
  refine (sNumbersOf_any _ _ _ _).mono ?_; rw [← HX.out]; rintro e w3 ⟨A3, c3, rfl, ho3, hb3⟩; have g3 := g2.step hb3; clear hc2; have hc3 := bcel g3
  have r3 := r2.to hb3
  go_wp2_with fail
  refine (equalInts_any _ _ _ _ _ _ _ _ _ r3 ho3.rd hxm hxm).mono ?_; rintro e w4 ⟨rfl, hb4⟩; rw [HE.out]; have g4 := g3.step hb4; clear hc3; have hc4 := bcel g4
  have r4 := r3.to hb4
  by_cases h0 : xs.length = 0
  · have e0 : xs = [] := List.length_eq_zero_iff.1 h0
    subst e0
    clear h0
    go_wp2_with fail
    refine (sNumbersOf_any _ _ _ _).mono ?_; rw [← HX.out]; rintro e w5 ⟨A5, c5, rfl, ho5, hb5⟩
    go_wp2_with fail
    refine (equalInts_any A2 A5 c2 c5 _ _ [] [] _ (r4.to hb5) ho5.rd hxm hxm).mono ?_; rintro e w6 ⟨rfl, hb6⟩; rw [HE.out]
    go_wp2_with fail
    go_ret
    exact ⟨rfl, (by (repeat' (first | (with_reducible exact Below.refl _ _) | (with_reducible assumption) | (with_reducible refine Below.setCell ?_ ?_ _) | (with_reducible refine Below.al ?_ _) | (with_reducible refine Below.drew ?_) | (with_reducible refine Below.drN ?_ _) | (with_reducible refine Below.step ?_ (by assumption)) | (with_reducible refine Below.alloc ?_ ?_ _))); all_goals (simp; try omega))⟩
  have hrb : rangeB a b c = true := by
    rcases hx : rangeB a b c with _ | _
    · rw [hx] at HX
      rw [HX.out] at h0
      simp at h0
    · rfl
  have hxs : xs = nums a b c := by have := HX.out; rw [if_pos hrb] at this; exact this
  have hs := small_of hrb
  have hlen : xs.length = cnt a b c := by rw [hxs, nums_length]
  have hle := cnt_le a b c hs
  have HG : Hid (∀ j, j < xs.length → xs.getD j 0 = a + (j : Int) * c ∧ -100 ≤ a + (j : Int) * c ∧ a + (j : Int) * c ≤ 100) := fun j hj => by
    have := num_in hrb j (by omega)
    refine ⟨?_, this⟩
    rw [hxs, nums_prg, prg_get _ _ _ _ (by omega)]
  have HU : Hid (0 < c → b ≤ a + (xs.length : Int) * c) := fun h => by rw [hlen]; exact up_end a b c h
  have HD : Hid (c < 0 → a + (xs.length : Int) * c ≤ b) := fun h => by rw [hlen]; exact down_end a b c h
  have hcz := ne_zero hrb
  clear hlen hxs hs hrb
  have p0 : w4.cell? ⟨w1.heap.size, 0, none⟩ = some (.int .i64 a) := (hc4 _ _ (by simp)).trans (by simp)
  have p1 : w4.cell? ⟨w1.heap.size, 1, none⟩ = some (.int .i64 b) := (hc4 _ _ (by simp)).trans (by simp)
  have p2 : w4.cell? ⟨w1.heap.size, 2, none⟩ = some (.int .i64 c) := (hc4 _ _ (by simp)).trans (by simp)
  clear hc4 HX
  have hbx : Below w.heap.size w w4 := (by (repeat' (first | (with_reducible exact Below.refl _ _) | (with_reducible assumption) | (with_reducible refine Below.setCell ?_ ?_ _) | (with_reducible refine Below.al ?_ _) | (with_reducible refine Below.drew ?_) | (with_reducible refine Below.drN ?_ _) | (with_reducible refine Below.step ?_ (by assumption)) | (with_reducible refine Below.alloc ?_ ?_ _))); all_goals (simp; try omega))
  go_wp2_with fail
  go_loopw [5] (fun i wr => ∃ k : Nat, k ≤ xs.length ∧ i = .int .i64 k ∧ ∃ q, wr = w4.drewN q) (fun i _ => xs.length - (intOf i).toNat)
  case atStart => exact ⟨0, Nat.zero_le _, rfl, 0, rfl⟩
  case round =>
    obtain ⟨k, hk, rfl, q, rfl⟩ := hrel
    by_cases hlt : k < xs.length
    · obtain ⟨ad, y, rfl, _, hcell, HY⟩ := r4.get hlt
      obtain ⟨e1, e2, e3⟩ := HG.out k hlt
      rw [← HY.out] at e1
      have v1 : -1000 ≤ (k : Int) * c ∧ (k : Int) * c ≤ 1000 := by omega
      have u1 := IntWalk.i64_in ((k : Int) * c) (by omega)
      have u2 := IntWalk.i64_in (a + (k : Int) * c) (by omega)
      have hlt' : (k : Int) < (xs.length : Int) := by omega
      subst e1
      go_wp2_with fail
      go_quiet (fail)
      go_wp2_with fail
      go_roundw
      case rel => exact ⟨k + 1, hlt, by go_num, _, rfl⟩
      case measure => simp [intOf]; omega
    · have hkk : k = xs.length := by omega
      subst hkk
      obtain ⟨_, e2, e3⟩ := HG.out (xs.length - 1) (by omega)
      rw [show ((xs.length - 1 : Nat) : Int) = (xs.length : Int) - 1 by omega, Int.sub_mul, Int.one_mul] at e2 e3
      by_cases hp : 0 < c
      · have hu := HU.out hp
        go_wp2_with fail
        all_goals go_ret
        all_goals exact ⟨rfl, (by (repeat' (first | (with_reducible exact Below.refl _ _) | (with_reducible assumption) | (with_reducible refine Below.setCell ?_ ?_ _) | (with_reducible refine Below.al ?_ _) | (with_reducible refine Below.drew ?_) | (with_reducible refine Below.drN ?_ _) | (with_reducible refine Below.step ?_ (by assumption)) | (with_reducible refine Below.alloc ?_ ?_ _))); all_goals (simp; try omega))⟩
      · have hd := HD.out (by omega)
        go_wp2_with fail
        all_goals go_ret
        all_goals exact ⟨rfl, (by (repeat' (first | (with_reducible exact Below.refl _ _) | (with_reducible assumption) | (with_reducible refine Below.setCell ?_ ?_ _) | (with_reducible refine Below.al ?_ _) | (with_reducible refine Below.drew ?_) | (with_reducible refine Below.drN ?_ _) | (with_reducible refine Below.step ?_ (by assumption)) | (with_reducible refine Below.alloc ?_ ?_ _))); all_goals (simp; try omega))⟩
end Go.Proofs.Ytipgopapohigpaa
