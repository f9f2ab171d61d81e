/- The walks over shapes, further: what is an index, and its rank. -/
import Derived.Test.YtdhhdkncglhgfaaShape4
import Derived.IntWalk
set_option linter.unusedVariables false
namespace Go.Proofs.Ytdhhdkncglhgfaa
open Go.RowKit

/-- Is the number at j out of its extent? -/
def badAt (xs ix : List Int) (j : Nat) : Bool := decide (ix.getD j 0 < 0 ∨ xs.getD j 0 ≤ ix.getD j 0)
def GoodTo (xs ix : List Int) (k : Nat) : Prop := ∀ j, j < k → badAt xs ix j = false
def idxB (xs ix : List Int) : Bool := decide (ix.length = xs.length) && (List.range ix.length).all fun j => !badAt xs ix j
theorem idxB_no {xs ix : List Int} {j : Nat} (hj : j < ix.length) (h : badAt xs ix j = true) : idxB xs ix = false := by
  rw [Bool.eq_false_iff]
  intro e
  simp [idxB] at e
  have := e.2 j hj
  rw [h] at this
  cases this
theorem idxB_yes {xs ix : List Int} (h1 : ix.length = xs.length) (h : GoodTo xs ix ix.length) : idxB xs ix = true := by
  simp [idxB, h1]
  intro j hj
  exact h j (by omega)
theorem idxB_len {xs ix : List Int} (h1 : ix.length ≠ xs.length) : idxB xs ix = false := by simp [idxB, h1]
theorem idxB_get {xs ix : List Int} (h : idxB xs ix = true) : ix.length = xs.length ∧ ∀ j, j < ix.length → 0 ≤ ix.getD j 0 ∧ ix.getD j 0 < xs.getD j 0 := by
  simp only [idxB, Bool.and_eq_true, decide_eq_true_eq, List.all_eq_true, List.mem_range, Bool.not_eq_true'] at h
  refine ⟨h.1, fun j hj => ?_⟩
  have := h.2 j hj
  simp only [badAt, decide_eq_false_iff_not] at this
  omega
/-- The rank of the first k numbers. -/
def rk (xs ix : List Int) : Nat → Int
  | 0 => 0
  | k + 1 => rk xs ix k * xs.getD k 0 + ix.getD k 0
theorem rk_bd {xs ix : List Int} (hx : Ext xs) (h : idxB xs ix = true) (k : Nat) (hk : k ≤ xs.length) : 0 ≤ rk xs ix k ∧ rk xs ix k + 1 ≤ 60 ^ k := by
  obtain ⟨h1, h2⟩ := idxB_get h
  induction k with
  | zero => simp [rk]
  | succ k ih =>
    obtain ⟨i1, i2⟩ := ih (by omega)
    obtain ⟨g1, g2⟩ := h2 k (by omega)
    obtain ⟨b1, b2⟩ := hx.2 k (by omega)
    have p1 : 0 ≤ rk xs ix k * xs.getD k 0 := Int.mul_nonneg i1 b1
    have p2 : (rk xs ix k + 1) * xs.getD k 0 ≤ 60 ^ k * 60 := Int.mul_le_mul i2 b2 b1 (by omega)
    rw [Int.add_mul, Int.one_mul] at p2
    rw [rk, Int.pow_succ]
    omega
theorem rk_small {xs ix : List Int} (hx : Ext xs) (h : idxB xs ix = true) (k : Nat) (hk : k ≤ xs.length) : 0 ≤ rk xs ix k ∧ rk xs ix k ≤ 12960000 := by
  obtain ⟨h1, h2⟩ := rk_bd hx h k hk
  have h4 := hx.1
  rcases (show k = 0 ∨ k = 1 ∨ k = 2 ∨ k = 3 ∨ k = 4 by omega) with rfl | rfl | rfl | rfl | rfl <;> refine ⟨h1, ?_⟩ <;> (simp at h2; omega)

theorem GoodTo.succ {xs ix : List Int} {k : Nat} (h : GoodTo xs ix k) (h1 : badAt xs ix k = false) : GoodTo xs ix (k + 1) := by
  intro j hj
  rcases Nat.lt_or_ge j k with h' | h'
  · exact h j h'
  · have e : j = k := by omega
    rw [e]
    exact h1
set_option maxHeartbeats 1600000 in
theorem isIndex_any (A A' : Option Addr) (c c' B B' : Nat) (xs ix : List Int) (w : World) (hr : Rd w B .i64 A xs) (hr' : Rd w B' .i64 A' ix) (hx : xs.length ≤ 2000000000) (hl' : ix.length ≤ maxLen) :
    Calls Try.prog 94 #[.slice A xs.length c, .slice A' ix.length c'] w (Ret w (.bool (idxB xs ix))) := by
  unfold maxLen at hl'
  by_cases hne : ix.length = xs.length
  · have HN := Lib.hid hne
    go_enter Try.func94, Try.ntmps94
    rw [hne]
    clear hne
    go_wp2
    go_loop [14] (fun i => ∃ k : Nat, k ≤ xs.length ∧ i = .int .i64 k ∧ GoodTo xs ix k) (fun i => xs.length - (intOf i).toNat)
    case atStart => exact ⟨0, Nat.zero_le _, rfl, fun j hj => absurd hj (by omega)⟩
    case round =>
      obtain ⟨k, hk, rfl, hg⟩ := hrel
      have HG := Lib.hid hg
      clear hg
      by_cases hlt : k < xs.length
      · obtain ⟨ad, y, rfl, _, hcell, HY⟩ := hr.get hlt
        obtain ⟨ad', z, rfl, _, hcell', HZ⟩ := hr'.get (j := k) (by rw [HN.out]; exact hlt)
        have HB : Hid (badAt xs ix k = decide (z < 0 ∨ y ≤ z)) := by show _ = _; rw [badAt, ← HY.out, ← HZ.out]
        rcases (show z < 0 ∨ (0 ≤ z ∧ y ≤ z) ∨ (0 ≤ z ∧ z < y) by omega) with h | ⟨h, h2⟩ | ⟨h, h2⟩
        · have HR := Lib.hid (idxB_no (xs := xs) (ix := ix) (j := k) (by rw [HN.out]; exact hlt) (by rw [HB.out]; simp; omega))
          go_wp2
          go_ret
          exact ⟨ret_bool (by rw [HR.out]), Below.refl _ _⟩
        · have HR := Lib.hid (idxB_no (xs := xs) (ix := ix) (j := k) (by rw [HN.out]; exact hlt) (by rw [HB.out]; simp; omega))
          go_wp2
          go_ret
          exact ⟨ret_bool (by rw [HR.out]), Below.refl _ _⟩
        · have HR := Lib.hid (show badAt xs ix k = false by rw [HB.out]; simp; omega)
          go_wp2
          go_round
          case rel => exact ⟨k + 1, hlt, by go_num, HG.out.succ HR.out⟩
          case measure => simp [intOf]; omega
      · obtain rfl : k = xs.length := by omega
        have HR := Lib.hid (idxB_yes HN.out (by rw [HN.out]; exact HG.out))
        go_wp2
        go_ret
        exact ⟨ret_bool (by rw [HR.out]), Below.refl _ _⟩
  · have HR := Lib.hid (idxB_len hne)
    have hne' : ((ix.length : Int) != (xs.length : Int)) = true := by simp; omega
    go_enter Try.func94, Try.ntmps94
    go_wp2
    go_ret
    exact ⟨ret_bool (by rw [HR.out]), Below.refl _ _⟩
end Go.Proofs.Ytdhhdkncglhgfaa
