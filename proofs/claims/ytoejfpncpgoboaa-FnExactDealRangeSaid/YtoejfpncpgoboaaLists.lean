/- The walks of the laws' own functions on lists: the copy, the comparison, the marks. -/
import Derived.Test.YtoejfpncpgoboaaFunc
set_option linter.unusedVariables false
namespace Go.Proofs.Ytoejfpncpgoboaa
open Go.RowKit

theorem set_take_snoc (xs : List Int) (n k : Nat) (y : Int) (hk : k < n) (hy : Hid (y = xs.getD k 0)) (hx : k < xs.length) :
    (xs.take k ++ List.replicate (n - k) 0).set k y = xs.take (k + 1) ++ List.replicate (n - (k + 1)) 0 := by
  have h1 : (xs.take k).length = k := by rw [List.length_take]; omega
  have h2 : n - k = (n - (k + 1)) + 1 := by omega
  rw [List.set_append_right _ _ (by omega), h1, Nat.sub_self, h2, List.replicate_succ, List.set_cons_zero, (take_snoc' hx hy).out, List.append_assoc]
  rfl


theorem getD_ext (xs ys : List Int) (hl : xs.length = ys.length) (h : ∀ j, j < xs.length → xs.getD j 0 = ys.getD j 0) : xs = ys := by
  apply List.ext_getElem hl
  intro i h1 h2
  have := h i h1
  simpa [List.getD_eq_getElem?_getD, h1, h2] using this
def eqB (xs ys : List Int) : Bool := decide (xs = ys)
def Same (xs ys : List Int) (k : Nat) : Prop := ∀ j, j < k → xs.getD j 0 = ys.getD j 0
theorem Same.succ {xs ys : List Int} {k : Nat} {y z : Int} (h : Same xs ys k) (hy : Hid (y = xs.getD k 0)) (hz : Hid (z = ys.getD k 0)) (h1 : y = z) : Same xs ys (k + 1) := fun j hj => by
  rcases Nat.lt_or_ge j k with h' | h'
  · exact h j h'
  · obtain rfl : j = k := by omega
    rw [← hy.out, ← hz.out]; exact h1

set_option maxHeartbeats 800000 in
theorem eqIntS_any (A A' : Option Addr) (c c' B B' : Nat) (xs ys : List Int) (w : World) (hr : Rd w B .i64 A xs) (hr' : Rd w B' .i64 A' ys) (hl : xs.length ≤ maxLen) (hl' : ys.length ≤ maxLen) :
    Calls Try.prog 20 #[.slice A xs.length c, .slice A' ys.length c'] w (Ret w (.bool (eqB xs ys))) := by
  unfold maxLen at hl hl'
  by_cases hne : xs.length = ys.length
  · have HN := Lib.hid hne
    go_enter Try.func20, Try.ntmps20
    rw [← hne]
    clear hne
    go_wp2
    go_loopw [5] (fun i wr => ∃ k : Nat, k ≤ xs.length ∧ i = .int .i64 k ∧ Same xs ys k ∧ ∃ n, wr = w.drewN n) (fun i _ => xs.length - (intOf i).toNat)
    case atStart => exact ⟨0, Nat.zero_le _, rfl, fun j hj => absurd hj (by omega), 0, rfl⟩
    case round =>
      obtain ⟨k, hk, rfl, hS, n, rfl⟩ := hrel
      have HS := Lib.hid hS
      clear hS
      by_cases hlt : k < xs.length
      · obtain ⟨ad, y, rfl, _, hcell, HY⟩ := hr.get hlt
        obtain ⟨ad', z, rfl, _, hcell', HZ⟩ := hr'.get (j := k) (by rw [← HN.out]; exact hlt)
        have i1 : (0 : Int) ≤ (k : Int) := by omega
        have i2 : (k : Int) < (xs.length : Int) := by omega
        by_cases hyz : y = z
        · subst hyz
          go_wp2
          go_quiet (fail)
          go_wp2
          go_roundw
          case rel => exact ⟨k + 1, hlt, by go_num, HS.out.succ HY HZ rfl, _, rfl⟩
          case measure => simp [intOf]; omega
        · have HR : Hid (eqB xs ys = false) := by
            have : xs ≠ ys := by
              rintro rfl
              exact hyz (by rw [HY.out, HZ.out])
            exact decide_eq_false this
          have hne' : (y != z) = true := by simpa using hyz
          go_wp2
          go_quiet (fail)
          go_wp2
          go_ret
          exact ⟨ret_bool (by rw [HR.out]), ⟨rfl, rfl, rfl, Nat.le_refl _, fun _ _ => rfl⟩⟩
      · obtain rfl : k = xs.length := by omega
        have HR : Hid (eqB xs ys = true) := by
          have : xs = ys := getD_ext xs ys HN.out HS.out
          exact decide_eq_true this
        go_wp2
        go_ret
        exact ⟨ret_bool (by rw [HR.out]), ⟨rfl, rfl, rfl, Nat.le_refl _, fun _ _ => rfl⟩⟩
  · have HR : Hid (eqB xs ys = false) := by
      have : xs ≠ ys := by rintro rfl; exact hne rfl
      exact decide_eq_false this
    have hne' : ((xs.length : Int) != (ys.length : Int)) = true := by simp; omega
    go_enter Try.func20, Try.ntmps20
    go_wp2
    go_ret
    exact ⟨ret_bool (by rw [HR.out]), ⟨rfl, rfl, rfl, Nat.le_refl _, fun _ _ => rfl⟩⟩

/-- The numbers from k on, n of them. -/
def upF (k : Int) (n : Nat) : List Int := (List.range n).map fun i : Nat => k + (i : Int)
theorem upF_length (k : Int) (n : Nat) : (upF k n).length = n := by simp [upF]
theorem upF_succ (k : Int) (n : Nat) : upF k (n + 1) = upF k n ++ [k + (n : Int)] := by simp [upF, List.range_succ]
theorem upF_get (k : Int) (n j : Nat) (h : j < n) : (upF k n).getD j 0 = k + (j : Int) := by simp [upF, List.getD_eq_getElem?_getD, h]
theorem mark_step (k : Int) (xs : List Int) (j : Nat) (hj : j < xs.length) : (upF k j ++ xs.drop j).set j (k + (j : Int)) = upF k (j + 1) ++ xs.drop (j + 1) := by
  rw [List.set_append_right _ _ (by rw [upF_length]; omega), upF_length, Nat.sub_self, List.drop_eq_getElem_cons hj, List.set_cons_zero, upF_succ, List.append_assoc]
  rfl

set_option maxHeartbeats 800000 in
theorem markIntS_any (A : Option Addr) (c B : Nat) (xs : List Int) (m : Int) (w : World) (hown : Own w B A c xs) (hl : xs.length ≤ 2000000000) (hm : 0 ≤ m) (hm' : m ≤ 2000000000) :
    Calls Try.prog 21 #[.slice A xs.length c, .int .i64 m] w fun e w' => e = .returned (.int .i64 (m + (xs.length : Int))) ∧ Own w' B A c (upF m xs.length) ∧ w.grownBy w' (blk A) := by
  have hlen : ∀ j, j ≤ xs.length → (upF m j ++ xs.drop j).length = xs.length := fun j hj => by rw [List.length_append, upF_length, List.length_drop]; omega
  have HL := Lib.hid hlen
  clear hlen
  go_enter Try.func21, Try.ntmps21
  go_wp2
  go_loopw [1, 5] (fun k i wr => ∃ j : Nat, j ≤ xs.length ∧ i = .int .i64 j ∧ k = .int .i64 (m + (j : Int)) ∧ Own wr B A c (upF m j ++ xs.drop j) ∧ w.grownBy wr (blk A)) (fun _ i _ => xs.length - (intOf i).toNat)
  case atStart => exact ⟨0, Nat.zero_le _, rfl, by simp, by simpa [upF] using hown, World.grownBy.refl _ _⟩
  case round =>
    obtain ⟨j, hj, rfl, rfl, ho, hg⟩ := hrel
    by_cases hlt : j < xs.length
    · obtain ⟨g, y, rfl, _, _, hcell, hfz, _⟩ := ho.at_ (j := j) (by rw [HL.out j hj]; exact hlt)
      have HO := Lib.hid (ho.set j (m + (j : Int)))
      have HS := Lib.hid (mark_step m xs j hlt)
      clear ho
      go_wp2
      go_roundw
      case rel => exact ⟨j + 1, hlt, by go_num, by go_num, by rw [← HS.out]; exact HO.out, grown_setCell hg rfl _⟩
      case measure => simp [intOf]; omega
    · obtain rfl : j = xs.length := by omega
      have HO : Hid (Own wr B A c (upF m xs.length)) := by
        have e : upF m xs.length ++ xs.drop xs.length = upF m xs.length := by simp
        rw [e] at ho; exact ho
      clear ho
      go_wp2
      go_ret
      exact ⟨rfl, HO.out, hg⟩

set_option maxHeartbeats 800000 in
theorem heldIntS_any (A : Option Addr) (c B n : Nat) (m : Int) (w : World) (hr : Rd w B .i64 A (upF m n)) (hl : n ≤ 2000000000) (hm : 0 ≤ m) (hm' : m ≤ 2000000000) :
    Calls Try.prog 22 #[.slice A n c, .int .i64 m] w fun e w' => e = .returned (.int .i64 (m + (n : Int))) ∧ w = w' := by
  go_enter Try.func22, Try.ntmps22
  go_wp2
  go_loop [1, 5] (fun k i => ∃ j : Nat, j ≤ n ∧ i = .int .i64 j ∧ k = .int .i64 (m + (j : Int))) (fun _ i => n - (intOf i).toNat)
  case atStart => exact ⟨0, Nat.zero_le _, rfl, by simp⟩
  case round =>
    obtain ⟨j, hj, rfl, rfl⟩ := hrel
    by_cases hlt : j < n
    · obtain ⟨ad, e, _, hcell⟩ := hr j (by rw [upF_length]; exact hlt)
      subst e
      rw [upF_get m n j hlt] at hcell
      go_wp2
      go_round
      case rel => exact ⟨j + 1, hlt, by go_num, by go_num⟩
      case measure => simp [intOf]; omega
    · obtain rfl : j = n := by omega
      go_wp2
      go_ret
      exact ⟨rfl, rfl⟩
end Go.Proofs.Ytoejfpncpgoboaa
