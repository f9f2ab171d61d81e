/- The walks of a list in reverse: a new list, and in place. -/
import Derived.Test.YtoejfpncpgoboaaNorm
set_option linter.unusedVariables false
namespace Go.Proofs.Ytoejfpncpgoboaa
open Go.RowKit
theorem grown_drew {a w : World} {row : Option Nat} (h : a.grownBy w row) : a.grownBy w.drew row := ⟨h.os, h.tape, h.output, h.size, h.block⟩

/-- The list after k exchanges from both ends. -/
def rv (xs : List Int) (k : Nat) : List Int := (List.range xs.length).map fun t => if t < k ∨ xs.length ≤ t + k then xs.getD (xs.length - 1 - t) 0 else xs.getD t 0
theorem rv_length (xs : List Int) (k : Nat) : (rv xs k).length = xs.length := by simp [rv]
theorem rv_get (xs : List Int) (k t : Nat) (h : t < xs.length) : (rv xs k).getD t 0 = if t < k ∨ xs.length ≤ t + k then xs.getD (xs.length - 1 - t) 0 else xs.getD t 0 := by
  simp [rv, List.getD_eq_getElem?_getD, h]
theorem getD_ext' (xs ys : List Int) (hl : xs.length = ys.length) (h : ∀ j, j < xs.length → xs.getD j 0 = ys.getD j 0) : xs = ys := by
  apply List.ext_getElem hl
  intro i h1 h2
  have := h i h1
  simpa [List.getD_eq_getElem?_getD, h1, h2] using this
theorem rv_zero (xs : List Int) : rv xs 0 = xs := getD_ext' _ _ (rv_length _ _) fun j hj => by
  rw [rv_length] at hj
  rw [rv_get xs 0 j hj, if_neg (by omega)]
theorem rev_get (xs : List Int) (t : Nat) (h : t < xs.length) : xs.reverse.getD t 0 = xs.getD (xs.length - 1 - t) 0 := by
  simp [List.getD_eq_getElem?_getD, List.getElem?_reverse h]
theorem rv_end (xs : List Int) (k : Nat) (h : xs.length ≤ 2 * k + 1) : rv xs k = xs.reverse := getD_ext' _ _ (by simp [rv_length]) fun j hj => by
  rw [rv_length] at hj
  rw [rv_get xs k j hj, rev_get xs j hj]
  by_cases hh : j < k ∨ xs.length ≤ j + k
  · rw [if_pos hh]
  · rw [if_neg hh]
    congr 1
    omega
theorem set_get (xs : List Int) (k t : Nat) (y : Int) (h : t < xs.length) : (xs.set k y).getD t 0 = if t = k then y else xs.getD t 0 := by
  by_cases e : t = k
  · subst e; simp [List.getD_eq_getElem?_getD, h]
  · have e' : ¬ k = t := fun x => e x.symm
    simp [List.getD_eq_getElem?_getD, e, e']
theorem rv_succ (xs : List Int) (k m : Nat) (h : k + m + 1 = xs.length) (hkm : k < m) :
    rv xs (k + 1) = ((rv xs k).set k ((rv xs k).getD m 0)).set m ((rv xs k).getD k 0) := getD_ext' _ _ (by simp [rv_length]) fun j hj => by
  rw [rv_length] at hj
  rw [set_get _ _ _ _ (by simp [rv_length]; exact hj), set_get _ _ _ _ (by rw [rv_length]; exact hj), rv_get xs _ j hj, rv_get xs _ j hj, rv_get xs _ m (by omega), rv_get xs _ k (by omega)]
  rw [if_neg (show ¬(m < k ∨ xs.length ≤ m + k) by omega), if_neg (show ¬(k < k ∨ xs.length ≤ k + k) by omega)]
  by_cases e1 : j = m
  · subst e1
    rw [if_pos rfl, if_pos (by omega)]
    congr 1; omega
  · rw [if_neg e1]
    by_cases e2 : j = k
    · subst e2
      rw [if_pos rfl, if_pos (by omega)]
      congr 1; omega
    · rw [if_neg e2]
      by_cases e3 : j < k ∨ xs.length ≤ j + k
      · rw [if_pos e3, if_pos (by omega)]
      · rw [if_neg e3, if_neg (by omega)]

set_option maxHeartbeats 1600000 in
theorem reverse_any (A : Option Addr) (c B : Nat) (xs : List Int) (w : World) (ho : Own w B A c xs) (hl : xs.length ≤ 2000000000) :
    Calls Try.prog 57 #[.slice A xs.length c] w fun e w' => e = .returned (.tuple #[]) ∧ Own w' B A c xs.reverse ∧ w.grownBy w' (blk A) := by
  obtain ⟨n, hn⟩ : ∃ n, n = xs.length := ⟨_, rfl⟩
  have HN := Lib.hid hn
  rw [← hn] at hl ⊢
  clear hn
  go_enter Try.func57, Try.ntmps57
  go_wp2
  go_loopw [2, 3] (fun i j wr => ∃ k m : Nat, k + m = n ∧ i = .int .i64 k ∧ j = .int .i64 ((m : Int) - 1) ∧ Own wr B A c (rv xs k) ∧ w.grownBy wr (blk A)) (fun i j _ => (intOf j - intOf i).toNat)
  case atStart => exact ⟨0, n, by omega, rfl, rfl, by rw [rv_zero]; exact ho, World.grownBy.refl _ _⟩
  case round =>
    obtain ⟨k, m, hkm, rfl, rfl, hown, hg⟩ := hrel
    by_cases hlt : k + 1 < m
    · obtain ⟨m', rfl⟩ : ∃ q, m = q + 1 := ⟨m - 1, by omega⟩
      have e1 : ((m' + 1 : Nat) : Int) - 1 = (m' : Int) := by omega
      rw [e1]
      have hN := HN.out
      obtain ⟨g, y, rfl, _, _, hck, hfk, HYk⟩ := hown.at_ (j := k) (by rw [rv_length]; omega)
      obtain ⟨_, z, eg, _, _, hcm, hfm, HYm⟩ := hown.at_ (j := m') (by rw [rv_length]; omega)
      simp at eg
      subst eg
      have hO := (hown.set k z).set m' y
      have hS := rv_succ xs k m' (by omega) (by omega)
      rw [← HYk.out, ← HYm.out] at hS
      rw [← hS] at hO
      have HO := Lib.hid hO
      have hne : ∀ u, (wr.setCell ⟨g, k, none⟩ u).cell? ⟨g, m', none⟩ = some (.int .i64 z) := fun u => by
        rw [World.cell?_setCell_other _ _ _ _ (by intro e; injection e with _ e; omega)]; exact hcm
      have i1 : (0 : Int) ≤ (k : Int) := by omega
      have i2 : (k : Int) < (n : Int) := by omega
      have i3 : (0 : Int) ≤ (m' : Int) := by omega
      have i4 : (m' : Int) < (n : Int) := by omega
      have i5 : (k : Int) < (m' : Int) := by omega
      have i6 : k < n := by omega
      have i7 : m' < n := by omega
      clear hO hS hown ho e1 hN
      go_wp2
      go_region
      all_goals go_wp2
      all_goals go_roundw
      case rel => exact ⟨k + 1, m', by omega, by go_num, by go_num, HO.out, grown_drew (grown_setCell (grown_setCell hg rfl _) rfl _)⟩
      case measure => simp [intOf]; omega
    · have hE := rv_end xs k (by have := HN.out; omega)
      rw [hE] at hown
      have HO := Lib.hid hown
      clear hE hown ho
      go_wp2
      go_end0
      exact ⟨rfl, HO.out, hg⟩

theorem rev_snoc (xs : List Int) (k m : Nat) (y : Int) (hk : k + (m + 1) = xs.length) (hy : Hid (y = xs.getD m 0)) : xs.reverse.take (k + 1) = xs.reverse.take k ++ [y] := by
  have h : k < xs.reverse.length := by simp; omega
  rw [take_snoc _ _ h, rev_get xs k (by omega), hy.out]
  congr 3; omega
set_option maxHeartbeats 800000 in
theorem reversed_any (A : Option Addr) (c : Nat) (xs : List Int) (w : World) (hr : Rd w w.heap.size .i64 A xs) (hl : xs.length ≤ 2000000000) : Calls Try.prog 56 #[.slice A xs.length c] w (RetInts w xs.reverse) := by
  obtain ⟨n, hn⟩ : ∃ n, n = xs.length := ⟨_, rfl⟩
  have HN := Lib.hid hn
  rw [← hn] at hl ⊢
  clear hn
  go_enter Try.func56, Try.ntmps56
  go_wp2
  go_loopw [3, 4] (fun v i wr => ∃ (k m : Nat) (A' : Option Addr) (c' : Nat), k + m = n ∧ i = .int .i64 ((m : Int) - 1) ∧ v = .slice A' k c' ∧ Own wr w.heap.size A' c' (xs.reverse.take k) ∧ Below w.heap.size w wr) (fun _ i _ => (intOf i + 1).toNat)
  case atStart => exact ⟨0, n, _, _, by omega, rfl, rfl, Own.made (by simp) (Nat.le_refl _), (by (repeat' (first | (with_reducible exact Below.refl _ _) | (with_reducible assumption) | (with_reducible refine Below.setCell ?_ ?_ _) | (with_reducible refine Below.al ?_ _) | (with_reducible refine Below.drew ?_) | (with_reducible refine Below.drN ?_ _) | (with_reducible refine Below.step ?_ (by assumption)) | (with_reducible refine Below.alloc ?_ ?_ _))); all_goals (simp; try omega))⟩
  case round =>
    obtain ⟨k, m, A', c', hkm, rfl, rfl, hown, hbl⟩ := hrel
    have hq := hbl.size
    by_cases hlt : 0 < m
    · obtain ⟨m', rfl⟩ : ∃ q, m = q + 1 := ⟨m - 1, by omega⟩
      have e1 : ((m' + 1 : Nat) : Int) - 1 = (m' : Int) := by omega
      rw [e1]
      obtain ⟨ad, y, rfl, _, hcell, HY⟩ := (hr.below hbl).get (j := m') (by have := HN.out; omega)
      have hN := HN.out
      have HS := Lib.hid (rev_snoc xs k m' y (by omega) HY)
      have hlk : (xs.reverse.take k).length = k := by rw [List.length_take, List.length_reverse]; omega
      have HL := Lib.hid hlk
      clear e1 hN hlk
      go_wp2_with (at_builtin; refine wpList_app1 _ rfl (.tmp 13) (.tmp 18) (by rfl) w.heap.size A' c' k (xs.reverse.take k) (by rfl) HL.out (hown.alloc _) wr.heap.size 1 y (by rfl) (by simp) (by omega) (by simp; omega) ?_; intro A'' c'' w1 hown1 hb1 _)
      go_roundw
      case rel => exact ⟨k + 1, m', A'', c'', by omega, by go_num, rfl, by rw [HS.out]; exact hown1, (hbl.al _).trans hb1⟩
      case measure => simp [intOf]
    · obtain rfl : m = 0 := by omega
      obtain rfl : k = n := by omega
      have HT : Hid (xs.reverse.take k = xs.reverse) := List.take_of_length_le (by rw [List.length_reverse, ← HN.out]; exact Nat.le_refl _)
      have HL : Hid (xs.reverse.length = k) := by rw [List.length_reverse]; exact HN.out.symm
      rw [HT.out] at hown
      go_wp2
      go_ret
      exact ⟨A', c', by rw [HL.out]; rfl, hown, hbl⟩
end Go.Proofs.Ytoejfpncpgoboaa
