/- The walk of the law over ranks and indices. -/
import Derived.Test.YtdhhdkncglhgfaaLawCA
import Derived.Test.YtdhhdkncglhgfaaLawL
import Derived.Test.YtdhhdkncglhgfaaShape6
set_option linter.unusedVariables false
namespace Go.Proofs.Ytdhhdkncglhgfaa
open Go.RowKit

theorem unL_get (xs : List Int) (k : Int) (m j : Nat) (h : j < m) : (unL xs k m).getD j 0 = unK xs k (m - 1 - j) % xs.getD (xs.length - 1 - (m - 1 - j)) 0 := by
  induction m generalizing j with
  | zero => omega
  | succ m ih =>
    rcases j with _ | j
    · simp [unL]
    · have := ih j (by omega)
      rw [show m + 1 - 1 - (j + 1) = m - 1 - j by omega]
      simpa [unL] using this
theorem unK_lt (xs : List Int) (k : Int) (hx : ExtP xs) (hk : 0 ≤ k) (hp : k < prod xs) (m : Nat) (hm : m ≤ xs.length) : unK xs k m < prod (xs.take (xs.length - m)) := by
  induction m with
  | zero => simpa [unK, List.take_of_length_le] using hp
  | succ m ih =>
    have i := ih (by omega)
    rw [show xs.length - m = (xs.length - (m + 1)) + 1 by omega, take_snoc xs _ (by omega), prod_snoc] at i
    obtain ⟨h1, h2⟩ := hx.2 (xs.length - (m + 1)) (by omega)
    rw [show xs.length - (m + 1) = xs.length - 1 - m by omega] at i h1 h2 ⊢
    exact Int.ediv_lt_of_lt_mul (by omega) i
theorem unL_rank (xs : List Int) (k : Int) (hx : ExtP xs) (hk : 0 ≤ k) (hp : k < prod xs) (j : Nat) (hj : j ≤ xs.length) : rk xs (unL xs k xs.length) j = unK xs k (xs.length - j) := by
  induction j with
  | zero =>
    have h1 := unK_lt xs k hx hk hp xs.length (Nat.le_refl _)
    have h2 := (unK_bd xs k hx hk xs.length (Nat.le_refl _)).1
    simp [prod] at h1
    rw [Nat.sub_zero]
    show (0 : Int) = _
    omega
  | succ j ih =>
    have i := ih (by omega)
    have e : rk xs (unL xs k xs.length) (j + 1) = rk xs (unL xs k xs.length) j * xs.getD j 0 + (unL xs k xs.length).getD j 0 := rfl
    rw [e, i, unL_get xs k _ j (by omega), show xs.length - j = (xs.length - 1 - j) + 1 by omega]
    have e2 : unK xs k (xs.length - 1 - j + 1) = unK xs k (xs.length - 1 - j) / xs.getD (xs.length - 1 - (xs.length - 1 - j)) 0 := rfl
    rw [e2, show xs.length - 1 - (xs.length - 1 - j) = j by omega, show xs.length - (j + 1) = xs.length - 1 - j by omega]
    exact Int.ediv_mul_add_emod _ _
theorem idx_good {xs : List Int} {k : Int} (hv : shapeB xs = true) (hk : 0 ≤ k) (hp : k < prod xs) : (idxA xs k).length = xs.length ∧ (∀ j, j < xs.length → 0 ≤ (idxA xs k).getD j 0 ∧ (idxA xs k).getD j 0 < xs.getD j 0 ∧ xs.getD j 0 ≤ 60) ∧ rankA xs (idxA xs k) = k := by
  have hx := ext_shape hv
  have hP := extP_of hx (by omega)
  have e := idxA_yes (xs := xs) (k := k) ⟨hv, hk, hp⟩
  have hl := unL_length xs k xs.length
  have hr : ∀ j, j < xs.length → 0 ≤ (unL xs k xs.length).getD j 0 ∧ (unL xs k xs.length).getD j 0 < xs.getD j 0 ∧ xs.getD j 0 ≤ 60 := fun j hj => by
    obtain ⟨h1, h2⟩ := hP.2 j hj
    rw [unL_get xs k _ j hj, show xs.length - 1 - (xs.length - 1 - j) = j by omega]
    exact ⟨Int.emod_nonneg _ (by omega), Int.emod_lt_of_pos _ (by omega), h2⟩
  rw [e]
  refine ⟨hl, hr, ?_⟩
  have hb : idxB xs (unL xs k xs.length) = true := idxB_yes hl fun j hj => by
    rw [hl] at hj
    obtain ⟨h1, h2, _⟩ := hr j hj
    simp only [badAt, decide_eq_false_iff_not]
    omega
  rw [rankA_yes ⟨hv, hb⟩, unL_rank xs k hP hk hp _ (Nat.le_refl _), Nat.sub_self]
  rfl
theorem idxA_len (xs : List Int) (k : Int) : (idxA xs k).length ≤ xs.length := by
  unfold idxA; split
  · rw [unL_length]; exact Nat.le_refl _
  · simp
set_option maxHeartbeats 3200000 in
theorem FnIndexAt_walk (A : Option Addr) (n : Nat) (bs : List Int) (w : World) (hr : Rd w w.heap.size .u8 A bs) (hl : bs.length ≤ maxLen) (hn : bs.length ≤ n) (hb : ∀ x ∈ bs, 0 ≤ x ∧ x ≤ 255) :
    Calls Try.prog 14 #[.slice A bs.length n] w (Ret w (.bool true)) := by
  by_cases hbig : bs.length > 1048576
  · go_enter Try.func14, Try.ntmps14
    go_wp2_with fail
    go_ret
    exact ⟨rfl, (by (repeat' (first | (with_reducible exact Below.refl _ _) | (with_reducible assumption) | (with_reducible refine Below.setCell ?_ ?_ _) | (with_reducible refine Below.al ?_ _) | (with_reducible refine Below.drew ?_) | (with_reducible refine Below.drN ?_ _) | (with_reducible refine Below.step ?_ (by assumption)) | (with_reducible refine Below.alloc ?_ ?_ _))); all_goals (simp; try omega))⟩
  go_enter Try.func14, Try.ntmps14
  go_wp2_with fail
  refine (DrawIndexAt_any A n bs _ hr hl hn hb).mono ?_; rintro e w1 ⟨A1, c1, xs, k, rfl, hx1, hxc, hx2, hkb, r1, hb1⟩
  clear hr hb
  have hxm : xs.length ≤ maxLen := by simp only [maxLen]; omega
  obtain ⟨ys, Y0, hy1⟩ : ∃ ys, Hid (idxA xs k = ys) ∧ ys.length ≤ 5 := ⟨_, rfl, Nat.le_trans (idxA_len xs k) hx1⟩
  have hy0 : ys.length ≤ maxLen := by simp only [maxLen]; omega
  have HE := Lib.hid (show eqB ys ys = true by simp [eqB])
  go_wp2_with fail
  refine (iIndexAt_any _ _ _ _ _ r1 hxm).mono ?_; rw [Y0.out]; rintro e w2 ⟨A2, c2, rfl, ho2, hb2⟩
  have r2 := r1.to hb2
  have y2 := ho2.rd
  go_wp2_with fail
  refine (sIndexAt_any _ _ _ _ _ r2 hxm).mono ?_; rw [Y0.out]; rintro e w3 ⟨A3, c3, rfl, ho3, hb3⟩
  have r3 := r2.to hb3
  have y3 := y2.to hb3
  go_wp2_with fail
  refine (equalInts_any _ _ _ _ _ _ _ _ _ y3 ho3.rd hy0 hy0).mono ?_; rw [HE.out]; rintro e w4 ⟨rfl, hb4⟩
  have r4 := r3.to hb4
  have y4 := y3.to hb4
  rcases hv : shapeB xs with _ | _
  · have HV := Lib.hid hv
    clear hv
    (go_wp2_with fail; refine (iValidShape_any _ _ _ _ r4 hxm).mono ?_; rw [HV.out]; rintro e w5 ⟨rfl, hb5⟩; have r5 := r4.to hb5; have y5 := y4.to hb5)
    have r6 := r5
    have y6 := y5
    (go_wp2_with fail; refine (sIndexAt_any _ _ _ _ _ r6 hxm).mono ?_; rw [Y0.out]; rintro e w7 ⟨A7, c7, rfl, ho7, hb7⟩; have y7 := y6.to hb7; go_wp2_with fail; refine (equalInts_any _ _ _ _ _ _ _ _ _ y7 ho7.rd hy0 hy0).mono ?_; rw [HE.out]; rintro e w8 ⟨rfl, hb8⟩; go_wp2_with fail; go_ret; exact ⟨rfl, (by (repeat' (first | (with_reducible exact Below.refl _ _) | (with_reducible assumption) | (with_reducible refine Below.setCell ?_ ?_ _) | (with_reducible refine Below.al ?_ _) | (with_reducible refine Below.drew ?_) | (with_reducible refine Below.drN ?_ _) | (with_reducible refine Below.step ?_ (by assumption)) | (with_reducible refine Below.alloc ?_ ?_ _))); all_goals (simp; try omega))⟩)
  have HV := Lib.hid hv
  by_cases hk0 : k < 0
  · clear hv
    (go_wp2_with fail; refine (iValidShape_any _ _ _ _ r4 hxm).mono ?_; rw [HV.out]; rintro e w5 ⟨rfl, hb5⟩; have r5 := r4.to hb5; have y5 := y4.to hb5)
    have r6 := r5
    have y6 := y5
    (go_wp2_with fail; refine (sIndexAt_any _ _ _ _ _ r6 hxm).mono ?_; rw [Y0.out]; rintro e w7 ⟨A7, c7, rfl, ho7, hb7⟩; have y7 := y6.to hb7; go_wp2_with fail; refine (equalInts_any _ _ _ _ _ _ _ _ _ y7 ho7.rd hy0 hy0).mono ?_; rw [HE.out]; rintro e w8 ⟨rfl, hb8⟩; go_wp2_with fail; go_ret; exact ⟨rfl, (by (repeat' (first | (with_reducible exact Below.refl _ _) | (with_reducible assumption) | (with_reducible refine Below.setCell ?_ ?_ _) | (with_reducible refine Below.al ?_ _) | (with_reducible refine Below.drew ?_) | (with_reducible refine Below.drN ?_ _) | (with_reducible refine Below.step ?_ (by assumption)) | (with_reducible refine Below.alloc ?_ ?_ _))); all_goals (simp; try omega))⟩)
  obtain ⟨P, HP⟩ : ∃ P, Hid (prod xs = P) := ⟨_, rfl⟩
  have HC : Hid (cntS xs = P) := by rw [cntS, if_pos hv]; exact HP
  by_cases hk1 : P ≤ k
  · clear hv
    (go_wp2_with fail; refine (iValidShape_any _ _ _ _ r4 hxm).mono ?_; rw [HV.out]; rintro e w5 ⟨rfl, hb5⟩; have r5 := r4.to hb5; have y5 := y4.to hb5)
    go_wp2_with fail
    refine (iCountOf_any _ _ _ _ r5 hxm).mono ?_; rw [HC.out]; rintro e w6 ⟨rfl, hb6⟩
    have r6 := r5.to hb6
    have y6 := y5.to hb6
    (go_wp2_with fail; refine (sIndexAt_any _ _ _ _ _ r6 hxm).mono ?_; rw [Y0.out]; rintro e w7 ⟨A7, c7, rfl, ho7, hb7⟩; have y7 := y6.to hb7; go_wp2_with fail; refine (equalInts_any _ _ _ _ _ _ _ _ _ y7 ho7.rd hy0 hy0).mono ?_; rw [HE.out]; rintro e w8 ⟨rfl, hb8⟩; go_wp2_with fail; go_ret; exact ⟨rfl, (by (repeat' (first | (with_reducible exact Below.refl _ _) | (with_reducible assumption) | (with_reducible refine Below.setCell ?_ ?_ _) | (with_reducible refine Below.al ?_ _) | (with_reducible refine Below.drew ?_) | (with_reducible refine Below.drN ?_ _) | (with_reducible refine Below.step ?_ (by assumption)) | (with_reducible refine Below.alloc ?_ ?_ _))); all_goals (simp; try omega))⟩)
  obtain ⟨hlen, hg, hrk⟩ := idx_good (k := k) hv (by omega) (by rw [HP.out]; omega)
  rw [Y0.out] at hlen hg hrk
  have HL := Lib.hid hlen
  have HG := Lib.hid hg
  have HR := Lib.hid hrk
  clear hv hlen hg hrk
  (go_wp2_with fail; refine (iValidShape_any _ _ _ _ r4 hxm).mono ?_; rw [HV.out]; rintro e w5 ⟨rfl, hb5⟩; have r5 := r4.to hb5; have y5 := y4.to hb5)
  go_wp2_with fail
  refine (iCountOf_any _ _ _ _ r5 hxm).mono ?_; rw [HC.out]; rintro e w6 ⟨rfl, hb6⟩
  have r6 := r5.to hb6
  have y6 := y5.to hb6
  have hbx : Below w.heap.size w w6 := (by (repeat' (first | (with_reducible exact Below.refl _ _) | (with_reducible assumption) | (with_reducible refine Below.setCell ?_ ?_ _) | (with_reducible refine Below.al ?_ _) | (with_reducible refine Below.drew ?_) | (with_reducible refine Below.drN ?_ _) | (with_reducible refine Below.step ?_ (by assumption)) | (with_reducible refine Below.alloc ?_ ?_ _))); all_goals (simp; try omega))
  clear hb1 hb2 hb3 hb4 hb5 hb6 r1 r2 r3 r4 r5 y2 y3 y4 y5 ho2 ho3
  go_wp2_with fail
  go_loopw [6] (fun i wr => ∃ k : Nat, k ≤ xs.length ∧ i = .int .i64 k ∧ ∃ q, wr = w6.drewN q) (fun i _ => xs.length - (intOf i).toNat)
  case atStart => exact ⟨0, Nat.zero_le _, rfl, 0, rfl⟩
  case round =>
    obtain ⟨j, hj, rfl, q, rfl⟩ := hrel
    have hLo := HL.out
    by_cases hlt : j < xs.length
    · obtain ⟨ad, y, rfl, _, hcell, HY⟩ := y6.get (j := j) (by omega)
      obtain ⟨ae, z, rfl, _, hcellz, HZ⟩ := r6.get (j := j) (by omega)
      obtain ⟨s1, s2, s3⟩ := HG.out j hlt
      rw [← HY.out] at s1 s2
      rw [← HZ.out] at s2 s3
      have hlt1 : (j : Int) < (xs.length : Int) := by omega
      have hlt2 : (j : Int) < (ys.length : Int) := by omega
      have hp1 : (0 : Int) ≤ (j : Int) := by omega
      clear hLo
      go_wp2_with fail
      have d1 : decide (y < 0) = false := by simp; omega
      have d2 : decide (z ≤ y) = false := by simp; omega
      go_quiet (fail)
      go_wp2_with fail
      go_roundw
      case rel => exact ⟨j + 1, hlt, by go_num, _, rfl⟩
      case measure => simp [intOf]; omega
    · obtain rfl : j = xs.length := by omega
      have e2 : (ys.length : Int) = (xs.length : Int) := by omega
      clear hLo
      go_wp2_with fail
      refine (iRankOf_any _ _ _ _ _ _ _ (r6.drewN q) (y6.drewN q) hxm hy0).mono ?_; rw [HR.out]; rintro e w9 ⟨rfl, hb9⟩
      go_wp2_with fail
      go_ret
      exact ⟨rfl, (hbx.drN q).trans (hb9.mono hbx.size)⟩
end Go.Proofs.Ytdhhdkncglhgfaa
