/- The walks of the laws' own functions on lists: a list in reverse order, the numbers from 0 on. -/
import Derived.Test.YtdhhdkncglhgfaaRev
import Derived.Test.YtdhhdkncglhgfaaLists
set_option linter.unusedVariables false
namespace Go.Proofs.Ytdhhdkncglhgfaa
open Go.RowKit

set_option maxHeartbeats 800000 in
theorem back_any (A : Option Addr) (c : Nat) (xs : List Int) (w : World) (hr : Rd w w.heap.size .i64 A xs) (hl : xs.length ≤ 2000000000) : Calls Try.prog 54 #[.slice A xs.length c] w (RetInts w xs.reverse) := by
  obtain ⟨n, hn⟩ : ∃ n, n = xs.length := ⟨_, rfl⟩
  have HN := Lib.hid hn
  rw [← hn] at hl ⊢
  clear hn
  go_enter Try.func54, Try.ntmps54
  go_wp2
  go_loopw [3, 4] (fun v i wr => ∃ (k m : Nat) (A' : Option Addr) (c' : Nat), k + m = n ∧ i = .int .i64 ((m : Int) - 1) ∧ v = .slice A' k c' ∧ Own wr w.heap.size A' c' (xs.reverse.take k) ∧ Below w.heap.size w wr) (fun _ i _ => (intOf i + 1).toNat)
  case atStart => exact ⟨0, n, _, _, by omega, rfl, rfl, Own.made (by simp) (Nat.le_refl _), (by (repeat' (first | (with_reducible exact Below.refl _ _) | (with_reducible assumption) | (with_reducible refine Below.setCell ?_ ?_ _) | (with_reducible refine Below.al ?_ _) | (with_reducible refine Below.drew ?_) | (with_reducible refine Below.drN ?_ _) | (with_reducible refine Below.step ?_ (by assumption)) | (with_reducible refine Below.alloc ?_ ?_ _))); all_goals (simp; try omega))⟩
  case round =>
    obtain ⟨k, m, A', c', hkm, rfl, rfl, hown, hbl⟩ := hrel
    have hq := hbl.size
    by_cases hlt : 0 < m
    · obtain ⟨m', rfl⟩ : ∃ q, m = q + 1 := ⟨m - 1, by omega⟩
      have e1 : ((m' + 1 : Nat) : Int) - 1 = (m' : Int) := by omega
      rw [e1]
      obtain ⟨ad, y, rfl, _, hcell, HY⟩ := (hr.below hbl).get (j := m') (by have := HN.out; omega)
      have hN := HN.out
      have HS := Lib.hid (rev_snoc xs k m' y (by omega) HY)
      have hlk : (xs.reverse.take k).length = k := by rw [List.length_take, List.length_reverse]; omega
      have HL := Lib.hid hlk
      clear e1 hN hlk
      go_wp2_with (at_builtin; refine wpList_app1 _ rfl (.tmp 13) (.tmp 18) (by rfl) w.heap.size A' c' k (xs.reverse.take k) (by rfl) HL.out (hown.alloc _) wr.heap.size 1 y (by rfl) (by simp) (by omega) (by simp; omega) ?_; intro A'' c'' w1 hown1 hb1 _)
      go_roundw
      case rel => exact ⟨k + 1, m', A'', c'', by omega, by go_num, rfl, by rw [HS.out]; exact hown1, (hbl.al _).trans hb1⟩
      case measure => simp [intOf]
    · obtain rfl : m = 0 := by omega
      obtain rfl : k = n := by omega
      have HT : Hid (xs.reverse.take k = xs.reverse) := List.take_of_length_le (by rw [List.length_reverse, ← HN.out]; exact Nat.le_refl _)
      have HL : Hid (xs.reverse.length = k) := by rw [List.length_reverse]; exact HN.out.symm
      rw [HT.out] at hown
      go_wp2
      go_ret
      exact ⟨A', c', by rw [HL.out]; rfl, hown, hbl⟩

end Go.Proofs.Ytdhhdkncglhgfaa
