/- The comparison of two slices of ranges; plain facts on what is dealt. -/
import Derived.Test.YtipgopapohigpaaDeal3
import Derived.Test.YtipgopapohigpaaPrgs
import Derived.Test.YtipgopapohigpaaRange2
set_option linter.unusedSimpArgs false
set_option linter.unusedVariables false
namespace Go.Proofs.Ytipgopapohigpaa
open Go.RowKit

set_option maxHeartbeats 1600000 in
theorem equalRanges_same (A A' : Option Addr) (c c' : Nat) (rs : List Rg) (w : World) (hr : RdR w w.heap.size A rs) (hr' : RdR w w.heap.size A' rs) (hl : rs.length ≤ 1000) :
    Calls Try.prog 52 #[.slice A rs.length c, .slice A' rs.length c'] w (Ret w (.bool true)) := by
  go_enter Try.func52, Try.ntmps52
  go_wp2_with fail
  go_loopw [5] (fun i wr => ∃ k : Nat, k ≤ rs.length ∧ i = .int .i64 k ∧ ∃ q, wr = w.drewN q) (fun i _ => rs.length - (intOf i).toNat)
  case atStart => exact ⟨0, Nat.zero_le _, rfl, 0, rfl⟩
  case round =>
    obtain ⟨k, hk, rfl, q, rfl⟩ := hrel
    by_cases hlt : k < rs.length
    · obtain ⟨g, rfl, _, a0, a1, a2⟩ := hr k hlt
      obtain ⟨g', rfl, _, b0, b1, b2⟩ := hr' k hlt
      have i1 : (0 : Int) ≤ (k : Int) := by omega
      have i2 : (k : Int) < (rs.length : Int) := by omega
      generalize rs[k].1 = x at *
      generalize rs[k].2.1 = y at *
      generalize rs[k].2.2 = z at *
      go_wp2_with fail
      go_quiet (fail)
      go_wp2_with fail
      go_roundw
      case rel => exact ⟨k + 1, hlt, by go_num, _, rfl⟩
      case measure => simp [intOf]; omega
    · obtain rfl : k = rs.length := by omega
      go_wp2_with fail
      go_ret
      exact ⟨rfl, (Below.refl _ _).drN _⟩

theorem range_nrm2 (s d : Int) (n : Nat) (hd : d ≠ 0) (h : ∀ j, j < n → -100 ≤ s + (j : Int) * d ∧ s + (j : Int) * d ≤ 100) : rangeB (nrmA (prg s d n)) (nrmB (prg s d n)) (nrmC (prg s d n)) = true := by
  rcases (show n < 2 ∨ 2 ≤ n by omega) with hn | hn
  · have e : prg s d n = prg s 1 n := by
      rcases (show n = 0 ∨ n = 1 by omega) with rfl | rfl
      · rfl
      · simp [prg]
    rw [e]
    refine range_nrm s 1 n (by omega) (by omega) (by omega) fun j hj => ?_
    have := h j hj
    obtain rfl : j = 0 := by omega
    simpa using this
  · have h0 := h 0 (by omega)
    have h1 := h 1 (by omega)
    simp at h0 h1
    exact range_nrm s d n hd (by omega) (by omega) h
/-- What hand k holds, as a progression. -/
theorem sp_prg (a c : Int) (n m k t : Nat) (hm : 1 ≤ m) (h : ∀ j, j < t → k + j * m < n) : sp (prg a c n) m k t = prg (a + (k : Int) * c) ((m : Int) * c) t := by
  refine prg_ext _ _ _ _ (sp_length _ _ _ _) fun j hj => ?_
  rw [sp_get _ _ _ _ _ hj, prg_get _ _ _ _ (h j hj)]
  have e : ((k + j * m : Nat) : Int) = (k : Int) + (j : Int) * (m : Int) := by simp
  rw [e, Int.add_mul, Int.mul_assoc]
  omega
theorem deal_all {a b c : Int} (hv : rangeB a b c = true) {m k : Nat} (hm : 1 ≤ m) (hm6 : m ≤ 6) (hk : k < m) :
    let r := nrm (hd (nums a b c) m k (cnt a b c))
    rangeB r.1 r.2.1 r.2.2 = true ∧ nums r.1 r.2.1 r.2.2 = hd (nums a b c) m k (cnt a b c) := by
  have hc := ne_zero hv
  have e : hd (nums a b c) m k (cnt a b c) = prg (a + (k : Int) * c) ((m : Int) * c) (hn m k (cnt a b c)) := by
    rw [hd_sp _ _ _ _ hm hm6 hk, nums_prg]
    exact sp_prg a c _ m k _ hm fun j hj => (hn_lt hm hm6 hk).1 hj
  have hd0 : (m : Int) * c ≠ 0 := Int.mul_ne_zero (by omega) hc
  simp only [nrm, e]
  refine ⟨range_nrm2 _ _ _ hd0 fun j hj => ?_, nums_nrm _ _ _ hd0⟩
  have h1 := num_in hv (k + j * m) ((hn_lt hm hm6 hk).1 hj)
  have e2 : ((k + j * m : Nat) : Int) = (k : Int) + (j : Int) * (m : Int) := by simp
  rw [e2, Int.add_mul, Int.mul_assoc] at h1
  omega
/-- The number at i / m of hand i mod m is number i; all there is to count. -/
theorem deal_at {a b c : Int} (hv : rangeB a b c = true) {m i : Nat} (hm : 1 ≤ m) (hm6 : m ≤ 6) (hi : i < cnt a b c) :
    let r := nrm (hd (nums a b c) m (i % m) (cnt a b c))
    numA r.1 r.2.1 r.2.2 ((i / m : Nat) : Int) = (nums a b c).getD i 0 ∧ numK r.1 r.2.1 r.2.2 ((i / m : Nat) : Int) = true := by
  have hk : i % m < m := Nat.mod_lt _ (by omega)
  obtain ⟨h1, h2⟩ := deal_all hv hm hm6 hk
  have hi2 : i % m + i / m * m = i := by rw [Nat.mul_comm]; exact Nat.mod_add_div i m
  generalize hk2 : i % m = k at *
  generalize hj2 : i / m = j at *
  have hj : j < hn m k (cnt a b c) := (hn_lt hm hm6 hk).2 (by rw [hi2]; exact hi)
  have hl : (hd (nums a b c) m k (cnt a b c)).length = hn m k (cnt a b c) := by rw [hd_sp _ _ _ _ hm hm6 hk, sp_length]
  refine ⟨?_, ?_⟩
  · rw [numA, if_pos h1, h2, atR_pos (by omega) (by rw [hl]; omega)]
    rw [hd_sp _ _ _ _ hm hm6 hk]
    have : ((j : Int)).toNat = j := by omega
    rw [this, sp_get _ _ _ _ _ hj, hi2]
  · rw [numK, h1, h2, Bool.true_and]
    exact inR_yes (by rw [hl]; omega) (by rw [hl]; omega)
theorem deal_len {a b c : Int} (hv : rangeB a b c = true) {m k : Nat} (hm : 1 ≤ m) (hm6 : m ≤ 6) (hk : k < m) :
    let r := nrm (hd (nums a b c) m k (cnt a b c))
    lenR r.1 r.2.1 r.2.2 = (hn m k (cnt a b c) : Int) := by
  obtain ⟨h1, h2⟩ := deal_all hv hm hm6 hk
  simp only
  rw [lenR, if_pos h1, ← nums_length, h2, hd_sp _ _ _ _ hm hm6 hk, sp_length]
def sumH (m n : Nat) : Nat → Nat
  | 0 => 0
  | k + 1 => sumH m n k + hn m k n
theorem hn_succ {m k n : Nat} (hm : 1 ≤ m) (hm6 : m ≤ 6) (hk : k < m) : hn m k (n + 1) = hn m k n + (if n % m = k then 1 else 0) := by
  unfold hn
  split
  all_goals
    rename_i h
    rcases (show m = 1 ∨ m = 2 ∨ m = 3 ∨ m = 4 ∨ m = 5 ∨ m = 6 by omega) with rfl | rfl | rfl | rfl | rfl | rfl <;> omega
theorem sumH_zero {m : Nat} (hm : 1 ≤ m) (K : Nat) (hK : K ≤ m) : sumH m 0 K = 0 := by
  induction K with
  | zero => rfl
  | succ K ih =>
    have : hn m K 0 = 0 := by unfold hn; rw [Nat.div_eq_of_lt (by omega)]
    rw [sumH, ih (by omega), this]
theorem sumH_succ {m n : Nat} (hm : 1 ≤ m) (hm6 : m ≤ 6) (K : Nat) (hK : K ≤ m) : sumH m (n + 1) K = sumH m n K + (if n % m < K then 1 else 0) := by
  induction K with
  | zero => simp [sumH]
  | succ K ih =>
    rw [sumH, sumH, ih (by omega), hn_succ hm hm6 (by omega)]
    generalize n % m = q
    (repeat' split) <;> omega
theorem sumH_all {m n : Nat} (hm : 1 ≤ m) (hm6 : m ≤ 6) : sumH m n m = n := by
  induction n with
  | zero => exact sumH_zero hm m (Nat.le_refl _)
  | succ n ih => rw [sumH_succ hm hm6 m (Nat.le_refl _), ih, if_pos (Nat.mod_lt _ (by omega))]
theorem sumH_le {m n : Nat} (hm : 1 ≤ m) (hm6 : m ≤ 6) (K : Nat) (hK : K ≤ m) : sumH m n K ≤ n := by
  have h : ∀ d, K + d ≤ m → sumH m n K ≤ sumH m n (K + d) := fun d => by
    induction d with
    | zero => intro _; exact Nat.le_refl _
    | succ d ih => intro hd; have := ih (by omega); rw [← Nat.add_assoc, sumH]; omega
  have := h (m - K) (by omega)
  rw [show K + (m - K) = m by omega, sumH_all hm hm6] at this
  exact this
theorem dealL_get (a b c : Int) (m k : Nat) (h : k < (dealL a b c m).length) : (dealL a b c m)[k] = nrm (hd (nums a b c) m k (cnt a b c)) := by simp [dealL]
end Go.Proofs.Ytipgopapohigpaa
