/- The walks over shapes: what is a valid one, and how many indices it has. -/
import Derived.Test.YtdhhdkncglhgfaaAllIn
import Derived.Test.YtdhhdkncglhgfaaLists
set_option linter.unusedVariables false
namespace Go.Proofs.Ytdhhdkncglhgfaa
open Go.RowKit

/-- The product of a list. -/
def prod (xs : List Int) : Int := xs.foldl (· * ·) 1
theorem prod_snoc (xs : List Int) (y : Int) : prod (xs ++ [y]) = prod xs * y := by simp [prod, List.foldl_append]
/-- At most four extents, each between 0 and 60. -/
def Ext (xs : List Int) : Prop := xs.length ≤ 4 ∧ ∀ j, j < xs.length → 0 ≤ xs.getD j 0 ∧ xs.getD j 0 ≤ 60
theorem Ext.get {xs : List Int} (h : Ext xs) {j : Nat} {y : Int} (hj : j < xs.length) (hy : Hid (y = xs.getD j 0)) : 0 ≤ y ∧ y ≤ 60 := by rw [hy.out]; exact h.2 j hj
theorem prod_take_bd (xs : List Int) (h : ∀ j, j < xs.length → 0 ≤ xs.getD j 0 ∧ xs.getD j 0 ≤ 60) (k : Nat) (hk : k ≤ xs.length) : 0 ≤ prod (xs.take k) ∧ prod (xs.take k) ≤ 60 ^ k := by
  induction k with
  | zero => simp [prod]
  | succ k ih =>
    obtain ⟨i1, i2⟩ := ih (by omega)
    obtain ⟨h1, h2⟩ := h k (by omega)
    rw [take_snoc xs k (by omega), prod_snoc, Int.pow_succ]
    exact ⟨Int.mul_nonneg i1 h1, Int.mul_le_mul i2 h2 h1 (by omega)⟩
theorem Ext.bd {xs : List Int} (h : Ext xs) {k : Nat} (hk : k ≤ xs.length) : 0 ≤ prod (xs.take k) ∧ prod (xs.take k) ≤ 12960000 := by
  obtain ⟨h1, h2⟩ := prod_take_bd xs h.2 k hk
  have h4 := h.1
  refine ⟨h1, Int.le_trans h2 ?_⟩
  rcases (show k = 0 ∨ k = 1 ∨ k = 2 ∨ k = 3 ∨ k = 4 by omega) with rfl | rfl | rfl | rfl | rfl <;> decide
theorem Ext.prod {xs : List Int} (h : Ext xs) : 0 ≤ prod xs ∧ prod xs ≤ 12960000 := by
  have := h.bd (Nat.le_refl xs.length)
  rwa [List.take_of_length_le (Nat.le_refl _)] at this

set_option maxHeartbeats 800000 in
theorem count_any (A : Option Addr) (c B : Nat) (xs : List Int) (w : World) (hr : Rd w B .i64 A xs) (hx : Ext xs) :
    Calls Try.prog 79 #[.slice A xs.length c] w fun e w' => e = .returned (.int .i64 (prod xs)) ∧ w = w' := by
  have hl := hx.1
  have HX := Lib.hid hx
  clear hx
  go_enter Try.func79, Try.ntmps79
  go_wp2
  go_loop [3, 4] (fun n i => ∃ k : Nat, k ≤ xs.length ∧ i = .int .i64 k ∧ n = .int .i64 (prod (xs.take k))) (fun _ i => xs.length - (intOf i).toNat)
  case atStart => exact ⟨0, Nat.zero_le _, rfl, rfl⟩
  case round =>
    obtain ⟨k, hk, rfl, rfl⟩ := hrel
    by_cases hlt : k < xs.length
    · obtain ⟨ad, y, rfl, _, hcell, HY⟩ := hr.get hlt
      have HS := take_snoc' hlt HY
      have b3 := HX.out.bd (k := k + 1) hlt
      rw [HS.out, prod_snoc] at b3
      obtain ⟨p, hp⟩ : ∃ p, p = prod (xs.take k) := ⟨_, rfl⟩
      rw [← hp] at b3 ⊢
      have HP := Lib.hid hp
      clear hp
      obtain ⟨b4, b5⟩ := b3
      go_wp2
      go_round
      case rel => exact ⟨k + 1, hlt, by go_num, by rw [HS.out, prod_snoc, ← HP.out]⟩
      case measure => simp [intOf]; omega
    · have HT := Lib.hid (take_all xs k (by omega))
      go_wp2
      go_ret
      exact ⟨ret_int (by rw [HT.out]), rfl⟩
set_option maxHeartbeats 800000 in
theorem countOf_any (A : Option Addr) (c B : Nat) (xs : List Int) (w : World) (hr : Rd w B .i64 A xs) (hx : Ext xs) :
    Calls Try.prog 78 #[.slice A xs.length c] w fun e w' => e = .returned (.int .i64 (prod xs)) ∧ w = w' := by
  have hl := hx.1
  have HX := Lib.hid hx
  clear hx
  go_enter Try.func78, Try.ntmps78
  go_wp2
  go_loop [3, 8] (fun n i => ∃ k : Nat, k ≤ xs.length ∧ i = .int .i64 k ∧ n = .int .i64 (prod (xs.take k))) (fun _ i => xs.length - (intOf i).toNat)
  case atStart => exact ⟨0, Nat.zero_le _, rfl, rfl⟩
  case round =>
    obtain ⟨k, hk, rfl, rfl⟩ := hrel
    by_cases hlt : k < xs.length
    · obtain ⟨ad, y, rfl, _, hcell, HY⟩ := hr.get hlt
      have HS := take_snoc' hlt HY
      have b3 := HX.out.bd (k := k + 1) hlt
      rw [HS.out, prod_snoc] at b3
      obtain ⟨p, hp⟩ : ∃ p, p = prod (xs.take k) := ⟨_, rfl⟩
      rw [← hp] at b3 ⊢
      have HP := Lib.hid hp
      clear hp
      obtain ⟨b4, b5⟩ := b3
      go_wp2
      go_round
      case rel => exact ⟨k + 1, hlt, by go_num, by rw [HS.out, prod_snoc, ← HP.out]⟩
      case measure => simp [intOf]; omega
    · have HT := Lib.hid (take_all xs k (by omega))
      go_wp2
      go_ret
      exact ⟨ret_int (by rw [HT.out]), rfl⟩

def shapeB (xs : List Int) : Bool := decide (xs.length ≤ 4) && (allB 0 60 xs && decide (prod xs ≤ 60))
theorem all_get {l h : Int} {xs : List Int} (e : allB l h xs = true) {j : Nat} (hj : j < xs.length) : l ≤ xs.getD j 0 ∧ xs.getD j 0 ≤ h := by
  have h1 : xs.any (outB l h) = false := by simpa [allB] using e
  rw [List.any_eq_false] at h1
  have := h1 (xs.getD j 0) (by simp [List.getD_eq_getElem?_getD, hj])
  simpa [outB, inB] using this
theorem ext_of {xs : List Int} (h4 : xs.length ≤ 4) (e : allB 0 60 xs = true) : Ext xs := ⟨h4, fun j hj => all_get e hj⟩
theorem ext_shape {xs : List Int} (h : shapeB xs = true) : Ext xs := by
  simp [shapeB] at h
  exact ext_of h.1 h.2.1
theorem prod_shape {xs : List Int} (h : shapeB xs = true) : 0 ≤ prod xs ∧ prod xs ≤ 60 := by
  have h0 := (ext_shape h).prod
  simp [shapeB] at h
  omega

set_option maxHeartbeats 800000 in
theorem validShape_any (A : Option Addr) (c : Nat) (xs : List Int) (w : World) (hr : Rd w w.heap.size .i64 A xs) (hl : xs.length ≤ maxLen) :
    Calls Try.prog 77 #[.slice A xs.length c] w (Ret w (.bool (shapeB xs))) := by
  have hl2 := hl
  unfold maxLen at hl2
  by_cases h4 : xs.length ≤ 4
  · rcases ha : allB 0 60 xs with _ | _
    · have HR := Lib.hid (show shapeB xs = false by simp [shapeB, ha])
      go_enter Try.func77, Try.ntmps77
      go_wp2_with fail
      refine (allIn_any _ _ _ _ _ _ _ hr hl).mono ?_; rintro e w1 ⟨rfl, hb1⟩
      rw [ha]
      go_wp2_with fail
      go_ret
      exact ⟨ret_bool (by rw [HR.out]), (by (repeat' (first | (with_reducible exact Below.refl _ _) | (with_reducible assumption) | (with_reducible refine Below.setCell ?_ ?_ _) | (with_reducible refine Below.al ?_ _) | (with_reducible refine Below.drew ?_) | (with_reducible refine Below.drN ?_ _) | (with_reducible refine Below.step ?_ (by assumption)) | (with_reducible refine Below.alloc ?_ ?_ _))); all_goals (simp; try omega))⟩
    · have hx := ext_of h4 ha
      have HR := Lib.hid (show shapeB xs = decide (prod xs ≤ 60) by simp [shapeB, ha, h4])
      go_enter Try.func77, Try.ntmps77
      go_wp2_with fail
      refine (allIn_any _ _ _ _ _ _ _ hr hl).mono ?_; rintro e w1 ⟨rfl, hb1⟩
      rw [ha]
      have hr1 := hr.to hb1
      go_wp2_with fail
      refine (count_any _ _ _ _ _ hr1 hx).mono ?_; rintro e w2 ⟨rfl, rfl⟩
      go_wp2_with fail
      go_ret
      exact ⟨ret_bool (by rw [HR.out]), (by (repeat' (first | (with_reducible exact Below.refl _ _) | (with_reducible assumption) | (with_reducible refine Below.setCell ?_ ?_ _) | (with_reducible refine Below.al ?_ _) | (with_reducible refine Below.drew ?_) | (with_reducible refine Below.drN ?_ _) | (with_reducible refine Below.step ?_ (by assumption)) | (with_reducible refine Below.alloc ?_ ?_ _))); all_goals (simp; try omega))⟩
  · have HR := Lib.hid (show shapeB xs = false by simp [shapeB, h4])
    go_enter Try.func77, Try.ntmps77
    go_wp2_with fail
    go_ret
    exact ⟨ret_bool (by rw [HR.out]), (by (repeat' (first | (with_reducible exact Below.refl _ _) | (with_reducible assumption) | (with_reducible refine Below.setCell ?_ ?_ _) | (with_reducible refine Below.al ?_ _) | (with_reducible refine Below.drew ?_) | (with_reducible refine Below.drN ?_ _) | (with_reducible refine Below.step ?_ (by assumption)) | (with_reducible refine Below.alloc ?_ ?_ _))); all_goals (simp; try omega))⟩

set_option maxHeartbeats 800000 in
theorem isShape_any (A : Option Addr) (c B : Nat) (xs : List Int) (w : World) (hr : Rd w B .i64 A xs) (hl : xs.length ≤ maxLen) :
    Calls Try.prog 76 #[.slice A xs.length c] w fun e w' => e = .returned (.bool (shapeB xs)) ∧ w = w' := by
  have hl2 := hl
  unfold maxLen at hl2
  by_cases h4 : xs.length ≤ 4
  · go_enter Try.func76, Try.ntmps76
    go_wp2
    go_loop [10] (fun i => ∃ k : Nat, k ≤ xs.length ∧ i = .int .i64 k ∧ Before (outB 0 60) xs k) (fun i => xs.length - (intOf i).toNat)
    case atStart => exact ⟨0, Nat.zero_le _, rfl, fun j hj => absurd hj (by omega)⟩
    case round =>
      obtain ⟨k, hk, rfl, hbf⟩ := hrel
      have HB := Lib.hid hbf
      clear hbf
      by_cases hlt : k < xs.length
      · obtain ⟨ad, y, rfl, _, hcell, HY⟩ := hr.get hlt
        by_cases hp : 0 ≤ y ∧ y ≤ 60
        · obtain ⟨p1, p2⟩ := hp
          have HP := Lib.hid (show outB 0 60 y = false by simp [outB, inB]; omega)
          go_wp2
          go_round
          case rel => exact ⟨k + 1, hlt, by go_num, HB.out.succ HY HP.out⟩
          case measure => simp [intOf]; omega
        · have HR : Hid (shapeB xs = false) := by
            have := any_hit (p := outB 0 60) hlt HY (by simp [outB, inB]; omega)
            show shapeB xs = false
            simp [shapeB, allB, this]
          rcases (show y < 0 ∨ (0 ≤ y ∧ 60 < y) by omega) with hp | ⟨hp, hp2⟩
          all_goals
            go_wp2
            go_ret
            exact ⟨ret_bool (by rw [HR.out]), rfl⟩
      · obtain rfl : k = xs.length := by omega
        have ha : allB 0 60 xs = true := by simp [allB, any_miss HB.out]
        have hx := ext_of h4 ha
        have HR := Lib.hid (show shapeB xs = decide (prod xs ≤ 60) by simp [shapeB, ha, h4])
        clear ha
        go_wp2_with (go_at_call 78; refine (countOf_any _ _ _ _ _ hr hx).mono ?_; rintro e w2 ⟨rfl, rfl⟩)
        go_ret
        exact ⟨ret_bool (by rw [HR.out]), rfl⟩
  · have HR := Lib.hid (show shapeB xs = false by simp [shapeB, h4])
    go_enter Try.func76, Try.ntmps76
    go_wp2_with fail
    go_ret
    exact ⟨ret_bool (by rw [HR.out]), rfl⟩
end Go.Proofs.Ytdhhdkncglhgfaa
