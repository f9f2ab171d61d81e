/- The walks of the laws over counts of shapes. -/
import Derived.Test.YtdhhdkncglhgfaaGen2
import Derived.Test.YtdhhdkncglhgfaaShape2
import Derived.Test.YtdhhdkncglhgfaaShape4
set_option linter.unusedVariables false
namespace Go.Proofs.Ytdhhdkncglhgfaa
open Go.RowKit

set_option maxHeartbeats 800000 in
theorem product_any (A : Option Addr) (c B : Nat) (xs : List Int) (w : World) (hr : Rd w B .i64 A xs) (hx : Ext xs) :
    Calls Try.prog 35 #[.slice A xs.length c] w fun e w' => e = .returned (.int .i64 (prod xs)) ∧ w = w' := by
  have hl := hx.1
  have HX := Lib.hid hx
  clear hx
  go_enter Try.func35, Try.ntmps35
  go_wp2
  go_loop [3, 4] (fun n i => ∃ k : Nat, k ≤ xs.length ∧ i = .int .i64 k ∧ n = .int .i64 (prod (xs.take k))) (fun _ i => xs.length - (intOf i).toNat)
  case atStart => exact ⟨0, Nat.zero_le _, rfl, rfl⟩
  case round =>
    obtain ⟨k, hk, rfl, rfl⟩ := hrel
    by_cases hlt : k < xs.length
    · obtain ⟨ad, y, rfl, _, hcell, HY⟩ := hr.get hlt
      have HS := take_snoc' hlt HY
      have b3 := HX.out.bd (k := k + 1) hlt
      rw [HS.out, prod_snoc] at b3
      obtain ⟨p, hp⟩ : ∃ p, p = prod (xs.take k) := ⟨_, rfl⟩
      rw [← hp] at b3 ⊢
      have HP := Lib.hid hp
      clear hp
      obtain ⟨b4, b5⟩ := b3
      go_wp2
      go_round
      case rel => exact ⟨k + 1, hlt, by go_num, by rw [HS.out, prod_snoc, ← HP.out]⟩
      case measure => simp [intOf]; omega
    · have HT := Lib.hid (take_all xs k (by omega))
      go_wp2
      go_ret
      exact ⟨ret_int (by rw [HT.out]), rfl⟩

def inL (n : Int) (xs : List Int) : Bool := decide (n ∈ xs)
set_option maxHeartbeats 800000 in
theorem isIn_any (A : Option Addr) (c B : Nat) (xs : List Int) (n : Int) (w : World) (hr : Rd w B .i64 A xs) (hl : xs.length ≤ 2000000000) :
    Calls Try.prog 36 #[.slice A xs.length c, .int .i64 n] w fun e w' => e = .returned (.bool (inL n xs)) ∧ w = w' := by
  go_enter Try.func36, Try.ntmps36
  go_wp2
  go_loop [5] (fun i => ∃ k : Nat, k ≤ xs.length ∧ i = .int .i64 k ∧ ∀ j, j < k → xs.getD j 0 ≠ n) (fun i => xs.length - (intOf i).toNat)
  case atStart => exact ⟨0, Nat.zero_le _, rfl, fun j hj => absurd hj (by omega)⟩
  case round =>
    obtain ⟨k, hk, rfl, hb⟩ := hrel
    have HB := Lib.hid hb
    clear hb
    by_cases hlt : k < xs.length
    · obtain ⟨ad, y, rfl, _, hcell, HY⟩ := hr.get hlt
      by_cases hy : y = n
      · have HR : Hid (inL n xs = true) := by
          have : n ∈ xs := by rw [← hy, HY.out]; exact mem_getD hlt
          exact decide_eq_true this
        have hy' : (y == n) = true := by simpa using hy
        go_wp2
        go_ret
        exact ⟨ret_bool (by rw [HR.out]), rfl⟩
      · have hy' : (y == n) = false := by simpa using hy
        have HN : Hid (y ≠ n) := hy
        clear hy
        go_wp2
        go_round
        case rel =>
          refine ⟨k + 1, hlt, by go_num, fun j hj => ?_⟩
          rcases Nat.lt_or_ge j k with h | h
          · exact HB.out j h
          · obtain rfl : j = k := by omega
            rw [← HY.out]; exact HN.out
        case measure => simp [intOf]; omega
    · have HR : Hid (inL n xs = false) := by
        refine decide_eq_false fun h => ?_
        obtain ⟨j, hj, e⟩ := List.getElem_of_mem h
        exact HB.out j (by omega) (by simp [List.getD_eq_getElem?_getD, hj, e])
      go_wp2
      go_ret
      exact ⟨ret_bool (by rw [HR.out]), rfl⟩

theorem prod_pos {xs : List Int} (h : ∀ x ∈ xs, 1 ≤ x) : 0 < prod xs := by
  induction xs with
  | nil => simp [prod]
  | cons x l ih =>
    rw [prod_cons]
    have hx := h x (by simp)
    exact Int.mul_pos (by omega) (ih fun y hy => h y (by simp [hy]))
theorem prod_zero_mem {xs : List Int} (hx : Ext xs) : (prod xs == 0) = inL 0 xs := by
  rw [Bool.eq_iff_iff]
  simp only [inL, beq_iff_eq, decide_eq_true_eq]
  constructor
  · intro h
    rcases Classical.em ((0 : Int) ∈ xs) with h0 | h0
    · exact h0
    · exfalso
      have : 0 < prod xs := prod_pos fun y hy => by
        obtain ⟨j, hj, e⟩ := List.getElem_of_mem hy
        have h3 := hx.2 j hj
        have e2 : xs.getD j 0 = y := by simp [List.getD_eq_getElem?_getD, hj, e]
        have : y ≠ 0 := by rintro rfl; exact h0 hy
        omega
      omega
  · intro h
    obtain ⟨j, hj, e⟩ := List.getElem_of_mem h
    exact prod_zero_iff xs j hj (by simp [List.getD_eq_getElem?_getD, hj, e])

set_option maxHeartbeats 1600000 in
theorem FnCountOf_walk (A : Option Addr) (n : Nat) (bs : List Int) (w : World) (hr : Rd w w.heap.size .u8 A bs) (hl : bs.length ≤ maxLen) (hn : bs.length ≤ n) (hb : ∀ x ∈ bs, 0 ≤ x ∧ x ≤ 255) :
    Calls Try.prog 7 #[.slice A bs.length n] w (Ret w (.bool true)) := by
  by_cases hbig : bs.length > 1048576
  · go_enter Try.func7, Try.ntmps7
    go_wp2_with fail
    go_ret
    exact ⟨rfl, (by (repeat' (first | (with_reducible exact Below.refl _ _) | (with_reducible assumption) | (with_reducible refine Below.setCell ?_ ?_ _) | (with_reducible refine Below.al ?_ _) | (with_reducible refine Below.drew ?_) | (with_reducible refine Below.drN ?_ _) | (with_reducible refine Below.step ?_ (by assumption)) | (with_reducible refine Below.alloc ?_ ?_ _))); all_goals (simp; try omega))⟩
  go_enter Try.func7, Try.ntmps7
  go_wp2_with fail
  refine (DrawCountOf_any A n bs _ hr hl hn hb).mono ?_; rintro e w1 ⟨A1, c1, xs, rfl, hx1, hxc, hx2, r1, hb1⟩
  clear hr hb
  have hxm : xs.length ≤ maxLen := by simp only [maxLen]; omega
  have hx1b : xs.length ≤ 2000000000 := by omega
  rcases hv : shapeB xs with _ | _
  · have HC : Hid (cntS xs = -1) := by rw [cntS, hv]; rfl
    clear hv
    go_wp2_with fail
    refine (iCountOf_any _ _ _ _ r1 hxm).mono ?_; rw [HC.out]; rintro e w2 ⟨rfl, hb2⟩
    have r2 := r1.to hb2
    go_wp2_with fail
    refine (sCountOf_any _ _ _ _ r2 hxm).mono ?_; rw [HC.out]; rintro e w3 ⟨rfl, hb3⟩
    have r3 := r2.to hb3
    go_wp2_with fail
    refine (sCountOf_any _ _ _ _ r3 hxm).mono ?_; rw [HC.out]; rintro e w4 ⟨rfl, hb4⟩
    go_wp2_with fail
    go_ret
    exact ⟨rfl, (by (repeat' (first | (with_reducible exact Below.refl _ _) | (with_reducible assumption) | (with_reducible refine Below.setCell ?_ ?_ _) | (with_reducible refine Below.al ?_ _) | (with_reducible refine Below.drew ?_) | (with_reducible refine Below.drN ?_ _) | (with_reducible refine Below.step ?_ (by assumption)) | (with_reducible refine Below.alloc ?_ ?_ _))); all_goals (simp; try omega))⟩
  · have hx := ext_shape hv
    have HZ := Lib.hid (prod_zero_mem hx)
    obtain ⟨P, HP⟩ : ∃ P, Hid (prod xs = P) := ⟨_, rfl⟩
    have HC : Hid (cntS xs = P) := by rw [cntS, if_pos hv]; exact HP
    have hp := prod_shape hv
    rw [HP.out] at hp HZ
    have hp0 : ¬ P < 0 := by omega
    obtain ⟨Z, HZ2⟩ : ∃ Z, Hid (inL 0 xs = Z) := ⟨_, rfl⟩
    rw [HZ2.out] at HZ
    clear hv
    go_wp2_with fail
    refine (iCountOf_any _ _ _ _ r1 hxm).mono ?_; rw [HC.out]; rintro e w2 ⟨rfl, hb2⟩
    have r2 := r1.to hb2
    go_wp2_with fail
    refine (sCountOf_any _ _ _ _ r2 hxm).mono ?_; rw [HC.out]; rintro e w3 ⟨rfl, hb3⟩
    have r3 := r2.to hb3
    go_wp2_with fail
    refine (product_any _ _ _ _ _ r3 hx).mono ?_; rw [HP.out]; rintro e w4 ⟨rfl, rfl⟩
    go_wp2_with fail
    refine (isIn_any _ _ _ _ _ _ r3 hx1b).mono ?_; rw [HZ2.out]; rintro e w4 ⟨rfl, rfl⟩
    have hzz := HZ.out
    go_wp2_with fail
    go_ret
    exact ⟨ret_bool (by simp), (by (repeat' (first | (with_reducible exact Below.refl _ _) | (with_reducible assumption) | (with_reducible refine Below.setCell ?_ ?_ _) | (with_reducible refine Below.al ?_ _) | (with_reducible refine Below.drew ?_) | (with_reducible refine Below.drN ?_ _) | (with_reducible refine Below.step ?_ (by assumption)) | (with_reducible refine Below.alloc ?_ ?_ _))); all_goals (simp; try omega))⟩
end Go.Proofs.Ytdhhdkncglhgfaa
