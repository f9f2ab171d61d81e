/- The walk of the law over changed cells. -/
import Derived.Test.YtdhhdkncglhgfaaGen4
import Derived.Test.YtdhhdkncglhgfaaChg1
import Derived.Test.YtdhhdkncglhgfaaRev
set_option linter.unusedVariables false
namespace Go.Proofs.Ytdhhdkncglhgfaa
open Go.RowKit

/-- A list that is strictly ascending. -/
def Asc (xs : List Int) : Prop := ∀ j, j + 1 < xs.length → xs.getD j 0 < xs.getD (j + 1) 0
set_option maxHeartbeats 1600000 in
theorem ascends_any (A : Option Addr) (c B : Nat) (xs : List Int) (w : World) (hr : Rd w B .i64 A xs) (hl : xs.length ≤ 1000) (ha : Asc xs) :
    Calls Try.prog 44 #[.slice A xs.length c] w fun e w' => e = .returned (.bool true) ∧ Below w.heap.size w w' := by
  have HA := Lib.hid ha
  clear ha
  go_enter Try.func44, Try.ntmps44
  go_wp2_with fail
  go_loopw [3] (fun i wr => ∃ k : Nat, k ≤ xs.length + 1 ∧ 1 ≤ k ∧ i = .int .i64 k ∧ ∃ q, wr = w.drewN q) (fun i _ => xs.length + 1 - (intOf i).toNat)
  case atStart => exact ⟨1, by omega, by omega, rfl, 0, rfl⟩
  case round =>
    obtain ⟨k, hk, hk1, rfl, q, rfl⟩ := hrel
    obtain ⟨j, rfl⟩ : ∃ j, k = j + 1 := ⟨k - 1, by omega⟩
    by_cases hlt : j + 1 < xs.length
    · obtain ⟨ad, y, rfl, _, hcell, HY⟩ := hr.get (j := j + 1) hlt
      obtain ⟨ad', z, e, _, hcellz, HZ⟩ := hr.get (j := j) (by omega)
      cases e
      have hlt2 := HA.out j hlt
      rw [← HY.out, ← HZ.out] at hlt2
      rw [addLit] at hcell
      have i1 : (0 : Int) ≤ (j : Int) + 1 := by omega
      have i2 : (j : Int) + 1 < (xs.length : Int) := by omega
      have i3 : (0 : Int) ≤ (j : Int) := by omega
      have i4 : (j : Int) < (xs.length : Int) := by omega
      have u2 := IntWalk.i64_in (j : Int) (by omega)
      have u3 := IntWalk.i64_in ((j : Int) + 1) (by omega)
      go_wp2_with fail
      have d1 : decide (y ≤ z) = false := by simp; omega
      go_quiet (fail)
      go_wp2_with fail
      go_roundw
      case rel => exact ⟨j + 1 + 1, by omega, by omega, by go_num, _, rfl⟩
      case measure => simp [intOf]; omega
    · have hge : ¬ ((j : Int) + 1 < (xs.length : Int)) := by omega
      go_wp2_with fail
      go_ret
      exact ⟨rfl, (Below.refl _ _).drN _⟩

theorem chL_get (xs ys : List Int) (k : Nat) : (∀ j, j < (chL xs ys k).length → (chL xs ys k).getD j 0 < (k : Int)) ∧ Asc (chL xs ys k) := by
  induction k with
  | zero => exact ⟨fun j hj => by simp [chL] at hj, fun j hj => by simp [chL] at hj⟩
  | succ k ih =>
    rw [chL]
    split
    · exact ⟨fun j hj => by have := ih.1 j hj; omega, ih.2⟩
    · have hg : ∀ j, j < (chL xs ys k).length → (chL xs ys k ++ [(k : Int)]).getD j 0 = (chL xs ys k).getD j 0 := fun j hj => by
        simp [List.getD_eq_getElem?_getD, List.getElem?_append_left hj]
      have hk : (chL xs ys k ++ [(k : Int)]).getD (chL xs ys k).length 0 = (k : Int) := by simp [List.getD_eq_getElem?_getD]
      refine ⟨fun j hj => ?_, fun j hj => ?_⟩
      · simp at hj
        rcases Nat.lt_or_ge j (chL xs ys k).length with h | h
        · rw [hg j h]; have := ih.1 j h; omega
        · obtain rfl : j = (chL xs ys k).length := by omega
          rw [hk]; omega
      · simp at hj
        rw [hg j (by omega)]
        rcases Nat.lt_or_ge (j + 1) (chL xs ys k).length with h | h
        · rw [hg _ h]; exact ih.2 j h
        · obtain e : j + 1 = (chL xs ys k).length := by omega
          rw [e, hk]; exact ih.1 j (by omega)
theorem chL_comm (xs ys : List Int) (k : Nat) : chL xs ys k = chL ys xs k := by
  induction k with
  | zero => rfl
  | succ k ih => rw [chL, chL, ih]; simp only [eq_comm]
theorem chL_self (xs : List Int) (k : Nat) : chL xs xs k = [] := by
  induction k with
  | zero => rfl
  | succ k ih => rw [chL, if_pos rfl, ih]
theorem chL_nil {xs ys : List Int} {k : Nat} (h : chL xs ys k = []) : ∀ j, j < k → xs.getD j 0 = ys.getD j 0 := by
  induction k with
  | zero => intro j hj; omega
  | succ k ih =>
    rw [chL] at h
    split at h
    · rename_i he
      intro j hj
      rcases Nat.lt_or_ge j k with h' | h'
      · exact ih h j h'
      · obtain rfl : j = k := by omega
        exact he
    · simp at h
theorem chg_all {xs ys : List Int} (h1 : memB xs = true) (h2 : memB ys = true) (hl : xs.length = ys.length) :
    chg ys xs = chg xs ys ∧ chg xs xs = [] ∧ Asc (chg xs ys) ∧ (decide ((chg xs ys).length = 0) = eqB xs ys) := by
  have k1 : chOk xs ys = true := by simp [chOk, h1, h2, hl]
  have k2 : chOk ys xs = true := by simp [chOk, h1, h2, hl]
  have k3 : chOk xs xs = true := by simp [chOk, h1]
  rw [chg, if_pos k2, chg, if_pos k1, chg, if_pos k3, ← hl]
  refine ⟨chL_comm _ _ _, chL_self _ _, (chL_get _ _ _).2, ?_⟩
  rw [eqB]
  congr 1
  rw [eq_iff_iff]
  constructor
  · intro h
    have := List.length_eq_zero_iff.1 h
    exact getD_ext' _ _ hl fun j hj => chL_nil this j hj
  · rintro rfl
    rw [chL_self]; rfl
set_option maxHeartbeats 3200000 in
theorem FnChangedBy_walk (A : Option Addr) (n : Nat) (bs : List Int) (w : World) (hr : Rd w w.heap.size .u8 A bs) (hl : bs.length ≤ maxLen) (hn : bs.length ≤ n) (hb : ∀ x ∈ bs, 0 ≤ x ∧ x ≤ 255) :
    Calls Try.prog 9 #[.slice A bs.length n] w (Ret w (.bool true)) := by
  by_cases hbig : bs.length > 1048576
  · go_enter Try.func9, Try.ntmps9
    go_wp2_with fail
    go_ret
    exact ⟨rfl, (by (repeat' (first | (with_reducible exact Below.refl _ _) | (with_reducible assumption) | (with_reducible refine Below.setCell ?_ ?_ _) | (with_reducible refine Below.al ?_ _) | (with_reducible refine Below.drew ?_) | (with_reducible refine Below.drN ?_ _) | (with_reducible refine Below.step ?_ (by assumption)) | (with_reducible refine Below.alloc ?_ ?_ _))); all_goals (simp; try omega))⟩
  go_enter Try.func9, Try.ntmps9
  go_wp2_with fail
  refine (DrawChangedBy_any A n bs _ hr hl hn hb).mono ?_; rintro e w1 ⟨A1, c1, xs, A2, c2, ys, rfl, hx1, hy1, a1, b1, hb1⟩
  clear hr hb
  have hxm : xs.length ≤ maxLen := by simp only [maxLen]; omega
  have hym : ys.length ≤ maxLen := by simp only [maxLen]; omega
  obtain ⟨zs, Z0, hz1⟩ : ∃ zs, Hid (chg xs ys = zs) ∧ zs.length ≤ 60 := ⟨_, rfl, chg_le xs ys⟩
  have hzm : zs.length ≤ maxLen := by simp only [maxLen]; omega
  have HE := Lib.hid (show eqB zs zs = true by simp [eqB])
  go_wp2_with fail
  refine (iChangedBy_any _ _ _ _ _ _ _ a1 b1 hxm hym).mono ?_; rw [Z0.out]; rintro e w2 ⟨A3, c3, rfl, ho2, hb2⟩
  have a2 := a1.to hb2
  have b2 := b1.to hb2
  have z2 := ho2.rd
  go_wp2_with fail
  refine (sChangedBy_any _ _ _ _ _ _ _ a2 b2 hxm hym).mono ?_; rw [Z0.out]; rintro e w3 ⟨A4, c4, rfl, ho3, hb3⟩
  have a3 := a2.to hb3
  have b3 := b2.to hb3
  have z3 := z2.to hb3
  go_wp2_with fail
  refine (equalInts_any _ _ _ _ _ _ _ _ _ z3 ho3.rd hzm hzm).mono ?_; rw [HE.out]; rintro e w4 ⟨rfl, hb4⟩
  have a4 := a3.to hb4
  have b4 := b3.to hb4
  have z4 := z3.to hb4
  rcases hv : memB xs with _ | _
  · have HX := Lib.hid hv
    clear hv
    (go_wp2_with fail; refine (iValidMemory_any _ _ _ _ a4 hxm).mono ?_; rw [HX.out]; rintro e w5 ⟨rfl, hb5⟩; have a5 := a4.to hb5; have b5 := b4.to hb5; have z5 := z4.to hb5)
    have a7 := a5
    have b7 := b5
    have z7 := z5
    (go_wp2_with fail; refine (sChangedBy_any _ _ _ _ _ _ _ a7 b7 hxm hym).mono ?_; rw [Z0.out]; rintro e w8 ⟨A8, c8, rfl, ho8, hb8⟩; have z8 := z7.to hb8; go_wp2_with fail; refine (equalInts_any _ _ _ _ _ _ _ _ _ z8 ho8.rd hzm hzm).mono ?_; rw [HE.out]; rintro e w9 ⟨rfl, hb9⟩; go_wp2_with fail; go_ret; exact ⟨rfl, (by (repeat' (first | (with_reducible exact Below.refl _ _) | (with_reducible assumption) | (with_reducible refine Below.setCell ?_ ?_ _) | (with_reducible refine Below.al ?_ _) | (with_reducible refine Below.drew ?_) | (with_reducible refine Below.drN ?_ _) | (with_reducible refine Below.step ?_ (by assumption)) | (with_reducible refine Below.alloc ?_ ?_ _))); all_goals (simp; try omega))⟩)
  have HX := Lib.hid hv
  rcases hv2 : memB ys with _ | _
  · have HY := Lib.hid hv2
    clear hv hv2
    (go_wp2_with fail; refine (iValidMemory_any _ _ _ _ a4 hxm).mono ?_; rw [HX.out]; rintro e w5 ⟨rfl, hb5⟩; have a5 := a4.to hb5; have b5 := b4.to hb5; have z5 := z4.to hb5)
    (go_wp2_with fail; refine (iValidMemory_any _ _ _ _ b5 hym).mono ?_; rw [HY.out]; rintro e w6 ⟨rfl, hb6⟩; have a6 := a5.to hb6; have b6 := b5.to hb6; have z6 := z5.to hb6)
    have a7 := a6
    have b7 := b6
    have z7 := z6
    (go_wp2_with fail; refine (sChangedBy_any _ _ _ _ _ _ _ a7 b7 hxm hym).mono ?_; rw [Z0.out]; rintro e w8 ⟨A8, c8, rfl, ho8, hb8⟩; have z8 := z7.to hb8; go_wp2_with fail; refine (equalInts_any _ _ _ _ _ _ _ _ _ z8 ho8.rd hzm hzm).mono ?_; rw [HE.out]; rintro e w9 ⟨rfl, hb9⟩; go_wp2_with fail; go_ret; exact ⟨rfl, (by (repeat' (first | (with_reducible exact Below.refl _ _) | (with_reducible assumption) | (with_reducible refine Below.setCell ?_ ?_ _) | (with_reducible refine Below.al ?_ _) | (with_reducible refine Below.drew ?_) | (with_reducible refine Below.drN ?_ _) | (with_reducible refine Below.step ?_ (by assumption)) | (with_reducible refine Below.alloc ?_ ?_ _))); all_goals (simp; try omega))⟩)
  have HY := Lib.hid hv2
  by_cases hlen : xs.length = ys.length
  · obtain ⟨e1, e2, e3, e4⟩ := chg_all hv hv2 hlen
    rw [Z0.out] at e1 e3 e4
    obtain ⟨E, HEE⟩ : ∃ E, Hid (eqB xs ys = E) := ⟨_, rfl⟩
    rw [HEE.out] at e4
    have E1 := Lib.hid e1
    have E2 := Lib.hid e2
    have E3 := Lib.hid e3
    have E4 : Hid (((zs.length : Int) == 0) = E) := by
      rw [← e4]
      show ((zs.length : Int) == 0) = _
      rw [Bool.eq_iff_iff]; simp
    have hlI : ((xs.length : Int) == (ys.length : Int)) = true := by simp; omega
    have HLI : Hid (((xs.length : Int) != (ys.length : Int)) = false) := by
      show ((xs.length : Int) != (ys.length : Int)) = false
      simp [hlen]
    clear hv hv2 e1 e2 e3 e4 hlI
    have hlen' := HLI.out
    clear hlen
    (go_wp2_with fail; refine (iValidMemory_any _ _ _ _ a4 hxm).mono ?_; rw [HX.out]; rintro e w5 ⟨rfl, hb5⟩; have a5 := a4.to hb5; have b5 := b4.to hb5; have z5 := z4.to hb5)
    (go_wp2_with fail; refine (iValidMemory_any _ _ _ _ b5 hym).mono ?_; rw [HY.out]; rintro e w6 ⟨rfl, hb6⟩; have a6 := a5.to hb6; have b6 := b5.to hb6; have z6 := z5.to hb6)
    go_wp2_with fail
    refine (iChangedBy_any _ _ _ _ _ _ _ b6 a6 hym hxm).mono ?_; rw [E1.out]; rintro e w7 ⟨A7, c7, rfl, ho7, hb7⟩
    have a7 := a6.to hb7
    have b7 := b6.to hb7
    have z7 := z6.to hb7
    go_wp2_with fail
    refine (equalInts_any _ _ _ _ _ _ _ _ _ ho7.rd z7 hzm hzm).mono ?_; rw [HE.out]; rintro e w8 ⟨rfl, hb8⟩
    have a8 := a7.to hb8
    have b8 := b7.to hb8
    have z8 := z7.to hb8
    go_wp2_with fail
    refine (iChangedBy_any _ _ _ _ _ _ _ a8 a8 hxm hxm).mono ?_; rw [E2.out]; rintro e w9 ⟨A9, c9, rfl, ho9, hb9⟩
    have a9 := a8.to hb9
    have b9 := b8.to hb9
    have z9 := z8.to hb9
    go_wp2_with fail
    refine (ascends_any _ _ _ _ _ z9 (by omega) E3.out).mono ?_; rintro e w10 ⟨rfl, hb10⟩
    have a10 := a9.to hb10
    have b10 := b9.to hb10
    go_wp2_with fail
    refine (equalInts_any _ _ _ _ _ _ _ _ _ a10 b10 hxm hym).mono ?_; rw [HEE.out]; rintro e w11 ⟨rfl, hb11⟩
    have hq := E4.out
    go_wp2_with fail
    go_ret
    exact ⟨ret_bool (by simp), (by (repeat' (first | (with_reducible exact Below.refl _ _) | (with_reducible assumption) | (with_reducible refine Below.setCell ?_ ?_ _) | (with_reducible refine Below.al ?_ _) | (with_reducible refine Below.drew ?_) | (with_reducible refine Below.drN ?_ _) | (with_reducible refine Below.step ?_ (by assumption)) | (with_reducible refine Below.alloc ?_ ?_ _))); all_goals (simp; try omega))⟩
  · have hlen' : ((xs.length : Int) != (ys.length : Int)) = true := by simp; omega
    clear hv hv2 hlen
    (go_wp2_with fail; refine (iValidMemory_any _ _ _ _ a4 hxm).mono ?_; rw [HX.out]; rintro e w5 ⟨rfl, hb5⟩; have a5 := a4.to hb5; have b5 := b4.to hb5; have z5 := z4.to hb5)
    (go_wp2_with fail; refine (iValidMemory_any _ _ _ _ b5 hym).mono ?_; rw [HY.out]; rintro e w6 ⟨rfl, hb6⟩; have a6 := a5.to hb6; have b6 := b5.to hb6; have z6 := z5.to hb6)
    have a7 := a6
    have b7 := b6
    have z7 := z6
    (go_wp2_with fail; refine (sChangedBy_any _ _ _ _ _ _ _ a7 b7 hxm hym).mono ?_; rw [Z0.out]; rintro e w8 ⟨A8, c8, rfl, ho8, hb8⟩; have z8 := z7.to hb8; go_wp2_with fail; refine (equalInts_any _ _ _ _ _ _ _ _ _ z8 ho8.rd hzm hzm).mono ?_; rw [HE.out]; rintro e w9 ⟨rfl, hb9⟩; go_wp2_with fail; go_ret; exact ⟨rfl, (by (repeat' (first | (with_reducible exact Below.refl _ _) | (with_reducible assumption) | (with_reducible refine Below.setCell ?_ ?_ _) | (with_reducible refine Below.al ?_ _) | (with_reducible refine Below.drew ?_) | (with_reducible refine Below.drN ?_ _) | (with_reducible refine Below.step ?_ (by assumption)) | (with_reducible refine Below.alloc ?_ ?_ _))); all_goals (simp; try omega))⟩)
end Go.Proofs.Ytdhhdkncglhgfaa
