/- The walks over shapes, further: the rank of an index. -/
import Derived.Test.YtdhhdkncglhgfaaShape5
set_option linter.unusedVariables false
namespace Go.Proofs.Ytdhhdkncglhgfaa
open Go.RowKit

theorem rk_step {xs ix : List Int} (hx : Ext xs) (h : idxB xs ix = true) {k : Nat} (hk : k < xs.length) {y z : Int} (hy : y = xs.getD k 0) (hz : z = ix.getD k 0) : rk xs ix (k + 1) = rk xs ix k * y + z ∧ 0 ≤ rk xs ix k * y ∧ rk xs ix k * y ≤ 12960000 ∧ 0 ≤ rk xs ix k * y + z ∧ rk xs ix k * y + z ≤ 12960000 ∧ 0 ≤ y ∧ y ≤ 60 ∧ 0 ≤ z ∧ z ≤ 60 := by
  obtain ⟨a1, a2⟩ := rk_small hx h k (by omega)
  obtain ⟨b1, b2⟩ := rk_small hx h (k + 1) hk
  obtain ⟨h1, h2⟩ := idxB_get h
  obtain ⟨g1, g2⟩ := h2 k (by omega)
  obtain ⟨x1, x2⟩ := hx.2 k hk
  have p1 : 0 ≤ rk xs ix k * xs.getD k 0 := Int.mul_nonneg a1 x1
  rw [rk] at b1 b2
  subst hy hz
  refine ⟨rfl, p1, ?_, b1, b2, x1, x2, ?_, ?_⟩ <;> omega

def rankA (xs ix : List Int) : Int := if shapeB xs = true ∧ idxB xs ix = true then rk xs ix xs.length else -1
theorem rankA_no {xs ix : List Int} (h : ¬ (shapeB xs = true ∧ idxB xs ix = true)) : rankA xs ix = -1 := if_neg h
theorem rankA_yes {xs ix : List Int} (h : shapeB xs = true ∧ idxB xs ix = true) : rankA xs ix = rk xs ix xs.length := if_pos h

set_option maxHeartbeats 1600000 in
theorem iRankOf_any (A A' : Option Addr) (c c' : Nat) (xs ix : List Int) (w : World) (hr : Rd w w.heap.size .i64 A xs) (hr' : Rd w w.heap.size .i64 A' ix) (hl : xs.length ≤ maxLen) (hl' : ix.length ≤ maxLen) : Calls Try.prog 62 #[.slice A xs.length c, .slice A' ix.length c'] w (Ret w (.int .i64 (rankA xs ix))) := by
  have hl2 := hl
  unfold maxLen at hl2
  rcases hv : shapeB xs with _ | _
  · have HR := Lib.hid (rankA_no (xs := xs) (ix := ix) (by simp [hv]))
    rw [HR.out]
    go_enter Try.func62, Try.ntmps62
    go_wp2_with fail
    refine (isShape_any _ _ _ _ _ hr hl).mono ?_; rintro e w1 ⟨rfl, rfl⟩
    rw [hv]
    go_wp2_with fail
    go_ret
    exact ⟨rfl, Below.refl _ _⟩
  · have hx := ext_shape hv
    have hl4 : xs.length ≤ 2000000000 := by have := hx.1; omega
    rcases hi : idxB xs ix with _ | _
    · have HR := Lib.hid (rankA_no (xs := xs) (ix := ix) (by simp [hi]))
      rw [HR.out]
      go_enter Try.func62, Try.ntmps62
      go_wp2_with fail
      refine (isShape_any _ _ _ _ _ hr hl).mono ?_; rintro e w1 ⟨rfl, rfl⟩
      rw [hv]
      go_wp2_with fail
      refine (isIndex_any _ _ _ _ _ _ _ _ _ hr hr' hl4 hl').mono ?_; rintro e w2 ⟨rfl, hb2⟩
      rw [hi]
      go_wp2_with fail
      go_ret
      exact ⟨rfl, hb2⟩
    · have HR := Lib.hid (rankA_yes (xs := xs) (ix := ix) ⟨hv, hi⟩)
      have HN := Lib.hid (idxB_get hi).1
      have HX := Lib.hid hx
      have HV := Lib.hid hi
      rw [HR.out]
      clear hx
      go_enter Try.func62, Try.ntmps62
      go_wp2_with fail
      refine (isShape_any _ _ _ _ _ hr hl).mono ?_; rintro e w1 ⟨rfl, rfl⟩
      rw [hv]
      go_wp2_with fail
      refine (isIndex_any _ _ _ _ _ _ _ _ _ hr hr' hl4 hl').mono ?_; rintro e w2 ⟨rfl, hb2⟩
      rw [hi]
      have rr := hr.to hb2
      have rr' := hr'.to hb2
      clear hi hv
      go_wp2_with fail
      go_loop [5, 19] (fun n i => ∃ k : Nat, k ≤ xs.length ∧ i = .int .i64 k ∧ n = .int .i64 (rk xs ix k)) (fun _ i => xs.length - (intOf i).toNat)
      case atStart => exact ⟨0, Nat.zero_le _, rfl, rfl⟩
      case round =>
        obtain ⟨k, hk, rfl, rfl⟩ := hrel
        by_cases hlt : k < xs.length
        · obtain ⟨ad, y, rfl, _, hcell, HY⟩ := rr.get hlt
          obtain ⟨ad', z, rfl, _, hcell', HZ⟩ := rr'.get (j := k) (by rw [HN.out]; exact hlt)
          have i1 : (0 : Int) ≤ (k : Int) := by omega
          have i2 : (k : Int) < (xs.length : Int) := by omega
          have i4 : (k : Int) < (ix.length : Int) := by rw [HN.out]; exact i2
          obtain ⟨s1, s2, s3, s4, s5, s6, s7, s8, s9⟩ := rk_step HX.out HV.out hlt HY.out HZ.out
          have HS := Lib.hid s1
          obtain ⟨p, hp⟩ : ∃ p, p = rk xs ix k := ⟨_, rfl⟩
          rw [← hp] at s2 s3 s4 s5 ⊢
          have HP := Lib.hid hp
          have w1 : IntKind.i64.wrap (p * y) = p * y := IntWalk.i64_in _ (by omega)
          have w2 : IntKind.i64.wrap (p * y + z) = p * y + z := IntWalk.i64_in _ (by omega)
          clear hp s1
          go_wp2
          go_round
          case rel => exact ⟨k + 1, hlt, by go_num, by rw [HS.out, ← HP.out]⟩
          case measure => simp [intOf]; omega
        · have HT := Lib.hid (show k = xs.length by omega)
          have i3 : ¬ (k : Int) < (ix.length : Int) := by rw [HN.out]; omega
          go_wp2
          go_ret
          exact ⟨ret_int (by rw [HT.out]), hb2⟩
end Go.Proofs.Ytdhhdkncglhgfaa
