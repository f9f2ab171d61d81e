/- The walks over views: the cell of an index. -/
import Derived.Test.YtnfoofoeimaodaaShape4
import Derived.IntWalk
set_option linter.unusedVariables false
namespace Go.Proofs.Ytnfoofoeimaodaa
open Go.RowKit

/-- A base and the first k products of numbers and strides. -/
def off (b : Int) (ix ss : List Int) : Nat → Int
  | 0 => b
  | k + 1 => off b ix ss k + ix.getD k 0 * ss.getD k 0
/-- Numbers of an index. -/
def NumL (ix : List Int) : Prop := ∀ j, j < ix.length → 0 ≤ ix.getD j 0 ∧ ix.getD j 0 ≤ 60
/-- Strides. -/
def StrL (ss : List Int) : Prop := ∀ j, j < ss.length → -60 ≤ ss.getD j 0 ∧ ss.getD j 0 ≤ 60
theorem mul_bd {x s : Int} (h1 : 0 ≤ x) (h2 : x ≤ 60) (h3 : -60 ≤ s) (h4 : s ≤ 60) : -3600 ≤ x * s ∧ x * s ≤ 3600 := by
  have a := Int.mul_le_mul_of_nonneg_left h4 h1
  have b := Int.mul_le_mul_of_nonneg_left h3 h1
  omega
theorem off_bd {b : Int} {ix ss : List Int} (hb : 0 ≤ b) (hb' : b ≤ 60) (hi : NumL ix) (hs : StrL ss) (hl : ix.length = ss.length) (k : Nat) (hk : k ≤ ix.length) :
    -(3600 * (k : Int)) ≤ off b ix ss k ∧ off b ix ss k ≤ 60 + 3600 * (k : Int) := by
  induction k with
  | zero => simp [off]; omega
  | succ k ih =>
    obtain ⟨i1, i2⟩ := ih (by omega)
    obtain ⟨a1, a2⟩ := hi k (by omega)
    obtain ⟨s1, s2⟩ := hs k (by omega)
    obtain ⟨m1, m2⟩ := mul_bd a1 a2 s1 s2
    rw [off]
    omega
theorem off_step {b : Int} {ix ss : List Int} (hb : 0 ≤ b) (hb' : b ≤ 60) (hi : NumL ix) (hs : StrL ss) (hl : ix.length = ss.length) (h4 : ix.length ≤ 4) {k : Nat} (hk : k < ix.length) {y z : Int} (hy : y = ix.getD k 0) (hz : z = ss.getD k 0) :
    off b ix ss (k + 1) = off b ix ss k + y * z ∧ -20000 ≤ off b ix ss k ∧ off b ix ss k ≤ 20000 ∧ -3600 ≤ y * z ∧ y * z ≤ 3600 ∧ -20000 ≤ off b ix ss k + y * z ∧ off b ix ss k + y * z ≤ 20000 := by
  have h1 := off_bd hb hb' hi hs hl k (by omega)
  have h2 := off_bd hb hb' hi hs hl (k + 1) hk
  obtain ⟨a1, a2⟩ := hi k (by omega)
  obtain ⟨s1, s2⟩ := hs k (by omega)
  obtain ⟨m1, m2⟩ := mul_bd a1 a2 s1 s2
  rw [off] at h2
  subst hy hz
  refine ⟨rfl, ?_, ?_, m1, m2, ?_, ?_⟩ <;> omega

set_option maxHeartbeats 1600000 in
theorem iOffsetAt_any (b : Int) (A A' A2 : Option Addr) (nx c c' c2 : Nat) (ss ix : List Int) (w : World) (h1 : Rd w w.heap.size .i64 A' ss) (h2 : Rd w w.heap.size .i64 A2 ix)
    (hb : 0 ≤ b) (hb' : b ≤ 60) (hi : NumL ix) (hs : StrL ss) (hl : ix.length = ss.length) (h4 : ix.length ≤ 4) :
    Calls Try.prog 92 #[.agg #[.int .i64 b, .slice A nx c, .slice A' ss.length c'], .slice A2 ix.length c2] w (Ret w (.int .i64 (off b ix ss ix.length))) := by
  have HI := Lib.hid hi
  have HS := Lib.hid hs
  have HL := Lib.hid hl
  have H1 := h1.alloc (Nat.le_refl _) (.cells #[.int .i64 b, .slice A nx c, .slice A' ss.length c'] 31)
  have H2 := h2.alloc (Nat.le_refl _) (.cells #[.int .i64 b, .slice A nx c, .slice A' ss.length c'] 31)
  clear hi hs hl h1 h2
  go_enter Try.func92, Try.ntmps92
  go_wp2
  go_loop [5, 6, 7, 12] (fun at_ i6 i7 i => ∃ k : Nat, k ≤ ix.length ∧ i = .int .i64 k ∧ at_ = .int .i64 (off b ix ss k)) (fun _ _ _ i => ix.length - (intOf i).toNat)
  case atStart => exact ⟨0, Nat.zero_le _, rfl, rfl⟩
  case round =>
    obtain ⟨k, hk, rfl, rfl⟩ := hrel
    by_cases hlt : k < ix.length
    · obtain ⟨ad, y, rfl, _, hcell, HY⟩ := H2.get hlt
      obtain ⟨ad', z, rfl, _, hcell', HZ⟩ := H1.get (j := k) (by rw [← HL.out]; exact hlt)
      have i2 : (k : Int) < (ss.length : Int) := by rw [← HL.out]; omega
      obtain ⟨s1, s2, s3, s4, s5, s6, s7⟩ := off_step hb hb' HI.out HS.out HL.out h4 hlt HY.out HZ.out
      have HST := Lib.hid s1
      obtain ⟨p, hp⟩ : ∃ p, p = off b ix ss k := ⟨_, rfl⟩
      rw [← hp] at s2 s3 s6 s7 ⊢
      have HP := Lib.hid hp
      have w1 : IntKind.i64.wrap (y * z) = y * z := IntWalk.i64_in _ (by omega)
      have w2 : IntKind.i64.wrap (p + y * z) = p + y * z := IntWalk.i64_in _ (by omega)
      clear hp s1
      go_wp2
      go_round
      case rel => exact ⟨k + 1, hlt, by go_num, by rw [HST.out, ← HP.out]⟩
      case measure => simp [intOf]; omega
    · obtain rfl : k = ix.length := by omega
      go_wp2
      go_ret
      exact ⟨rfl, (by (repeat' (first | (with_reducible exact Below.refl _ _) | (with_reducible assumption) | (with_reducible refine Below.setCell ?_ ?_ _) | (with_reducible refine Below.al ?_ _) | (with_reducible refine Below.drew ?_) | (with_reducible refine Below.drN ?_ _) | (with_reducible refine Below.step ?_ (by assumption)) | (with_reducible refine Below.alloc ?_ ?_ _))); all_goals (simp; try omega))⟩

set_option maxHeartbeats 1600000 in
theorem sOffset_any (b : Int) (A A' A2 : Option Addr) (nx c c' c2 : Nat) (ss ix : List Int) (w : World) (h1 : Rd w w.heap.size .i64 A' ss) (h2 : Rd w w.heap.size .i64 A2 ix)
    (hb : 0 ≤ b) (hb' : b ≤ 60) (hi : NumL ix) (hs : StrL ss) (hl : ix.length = ss.length) (h4 : ix.length ≤ 4) :
    Calls Try.prog 90 #[.agg #[.int .i64 b, .slice A nx c, .slice A' ss.length c'], .slice A2 ix.length c2] w (Ret w (.int .i64 (off b ix ss ix.length))) := by
  have HI := Lib.hid hi
  have HS := Lib.hid hs
  have HL := Lib.hid hl
  have H1 := h1.alloc (Nat.le_refl _) (.cells #[.int .i64 b, .slice A nx c, .slice A' ss.length c'] 31)
  have H2 := h2.alloc (Nat.le_refl _) (.cells #[.int .i64 b, .slice A nx c, .slice A' ss.length c'] 31)
  clear hi hs hl h1 h2
  go_enter Try.func90, Try.ntmps90
  go_wp2
  go_loopw [5, 6] (fun at_ i wr => ∃ k : Nat, k ≤ ix.length ∧ i = .int .i64 k ∧ at_ = .int .i64 (off b ix ss k) ∧ ∃ n, wr = (w.alloc (.cells #[.int .i64 b, .slice A nx c, .slice A' ss.length c'] 31)).drewN n) (fun _ i _ => ix.length - (intOf i).toNat)
  case atStart => exact ⟨0, Nat.zero_le _, rfl, rfl, 0, rfl⟩
  case round =>
    obtain ⟨k, hk, rfl, rfl, n, rfl⟩ := hrel
    by_cases hlt : k < ix.length
    · obtain ⟨ad, y, rfl, _, hcell, HY⟩ := H2.get hlt
      obtain ⟨ad', z, rfl, _, hcell', HZ⟩ := H1.get (j := k) (by rw [← HL.out]; exact hlt)
      have i0 : (0 : Int) ≤ (k : Int) := by omega
      have i1 : (k : Int) < (ix.length : Int) := by omega
      have i2 : (k : Int) < (ss.length : Int) := by rw [← HL.out]; omega
      obtain ⟨s1, s2, s3, s4, s5, s6, s7⟩ := off_step hb hb' HI.out HS.out HL.out h4 hlt HY.out HZ.out
      have HST := Lib.hid s1
      obtain ⟨p, hp⟩ : ∃ p, p = off b ix ss k := ⟨_, rfl⟩
      rw [← hp] at s2 s3 s6 s7 ⊢
      have HP := Lib.hid hp
      have w1 : IntKind.i64.wrap (y * z) = y * z := IntWalk.i64_in _ (by omega)
      have w2 : IntKind.i64.wrap (p + y * z) = p + y * z := IntWalk.i64_in _ (by omega)
      clear hp s1
      go_wp2
      go_quiet (fail)
      go_wp2
      go_roundw
      case rel => exact ⟨k + 1, hlt, by go_num, by rw [HST.out, ← HP.out], _, rfl⟩
      case measure => simp [intOf]; omega
    · obtain rfl : k = ix.length := by omega
      go_wp2
      go_ret
      exact ⟨rfl, (by (repeat' (first | (with_reducible exact Below.refl _ _) | (with_reducible assumption) | (with_reducible refine Below.setCell ?_ ?_ _) | (with_reducible refine Below.al ?_ _) | (with_reducible refine Below.drew ?_) | (with_reducible refine Below.drN ?_ _) | (with_reducible refine Below.step ?_ (by assumption)) | (with_reducible refine Below.alloc ?_ ?_ _))); all_goals (simp; try omega))⟩

theorem unL_num (xs : List Int) (k : Int) (h : ExtP xs) (hk : 0 ≤ k) (m : Nat) (hm : m ≤ xs.length) : NumL (unL xs k m) := by
  induction m with
  | zero => intro j hj; simp [unL] at hj
  | succ m ih =>
    intro j hj
    rw [unL_length] at hj
    cases j with
    | zero =>
      obtain ⟨h1, h2⟩ := h.2 (xs.length - 1 - m) (by omega)
      obtain ⟨u1, u2⟩ := unK_bd xs k h hk m (by omega)
      have a1 := Int.emod_nonneg (unK xs k m) (show xs.getD (xs.length - 1 - m) 0 ≠ 0 by omega)
      have a2 := Int.emod_lt_of_pos (unK xs k m) (show 0 < xs.getD (xs.length - 1 - m) 0 by omega)
      rw [show (unL xs k (m + 1)).getD 0 0 = unK xs k m % xs.getD (xs.length - 1 - m) 0 by simp [unL]]
      omega
    | succ j =>
      have := ih (by omega) j (by rw [unL_length]; omega)
      rw [show (unL xs k (m + 1)).getD (j + 1) 0 = (unL xs k m).getD j 0 by simp [unL]]
      exact this

/-- The cell of the index with the rank k of a view. -/
def offK (b : Int) (xs ss : List Int) (k : Nat) : Int := off b (unL xs (k : Int) xs.length) ss xs.length
/-- The cells of the first n indices of a view. -/
def offs (b : Int) (xs ss : List Int) (n : Nat) : List Int := (List.range n).map (offK b xs ss)
theorem offs_length (b : Int) (xs ss : List Int) (n : Nat) : (offs b xs ss n).length = n := by simp [offs]
theorem offs_succ (b : Int) (xs ss : List Int) (n : Nat) : offs b xs ss (n + 1) = offs b xs ss n ++ [offK b xs ss n] := by simp [offs, List.range_succ]
end Go.Proofs.Ytnfoofoeimaodaa
