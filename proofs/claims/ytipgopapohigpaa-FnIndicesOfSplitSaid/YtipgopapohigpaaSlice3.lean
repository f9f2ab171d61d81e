/- The walks over slices of a range, further: what a list has at indices, the indices that a slice takes, the slice of a range, two slices as one. -/
import Derived.Test.YtipgopapohigpaaSlice2
import Derived.Test.YtipgopapohigpaaRange3
set_option linter.unusedVariables false
namespace Go.Proofs.Ytipgopapohigpaa
open Go.RowKit

/-- What a list has at indices. -/
def takes (xs is : List Int) : List Int := is.map fun i => xs.getD i.toNat 0
theorem takes_length (xs is : List Int) : (takes xs is).length = is.length := by simp [takes]
theorem takes_snoc (xs is : List Int) (k : Nat) (i y : Int) (hk : k < is.length) (hi : Hid (i = is.getD k 0)) (hy : Hid (y = xs.getD i.toNat 0)) : Hid (takes xs (is.take (k + 1)) = takes xs (is.take k) ++ [y]) := by
  rw [(take_snoc' hk hi).out, hy.out]
  show takes _ _ = _
  simp [takes]
theorem takes_small {xs is : List Int} (h : SmallL xs) (hin : ∀ j, j < is.length → 0 ≤ is.getD j 0 ∧ is.getD j 0 < (xs.length : Int)) : SmallL (takes xs is) := fun j hj => by
  rw [takes_length] at hj
  have h1 := hin j hj
  have e : (takes xs is).getD j 0 = xs.getD (is.getD j 0).toNat 0 := by simp [takes, List.getD_eq_getElem?_getD, hj]
  rw [e]
  exact h _ (by omega)

set_option maxHeartbeats 1600000 in
theorem takenOf_any (A A' : Option Addr) (c c' : Nat) (xs is : List Int) (w : World) (hr : Rd w w.heap.size .i64 A xs) (hr' : Rd w w.heap.size .i64 A' is) (hl : xs.length ≤ 2000000000) (hl' : is.length ≤ 2000000000)
    (hin : ∀ j, j < is.length → 0 ≤ is.getD j 0 ∧ is.getD j 0 < (xs.length : Int)) :
    Calls Try.prog 63 #[.slice A xs.length c, .slice A' is.length c'] w (RetInts w (takes xs is)) := by
  have HI := Lib.hid hin
  clear hin
  go_enter Try.func63, Try.ntmps63
  go_wp2
  go_loopw [5, 11] (fun v i wr => ∃ (k : Nat) (A1 : Option Addr) (c1 : Nat), k ≤ is.length ∧ i = .int .i64 k ∧ v = .slice A1 k c1 ∧ Own wr w.heap.size A1 c1 (takes xs (is.take k)) ∧ Below w.heap.size w wr) (fun _ i _ => is.length - (intOf i).toNat)
  case atStart => exact ⟨0, _, _, Nat.zero_le _, rfl, rfl, Own.made (by simp) (Nat.le_refl _), (by (repeat' (first | (with_reducible exact Below.refl _ _) | (with_reducible assumption) | (with_reducible refine Below.setCell ?_ ?_ _) | (with_reducible refine Below.al ?_ _) | (with_reducible refine Below.drew ?_) | (with_reducible refine Below.drN ?_ _) | (with_reducible refine Below.step ?_ (by assumption)) | (with_reducible refine Below.alloc ?_ ?_ _))); all_goals (simp; try omega))⟩
  case round =>
    obtain ⟨k, A1, c1, hk, rfl, rfl, hown, hbl⟩ := hrel
    have hq := hbl.size
    by_cases hlt : k < is.length
    · obtain ⟨ad, x, rfl, _, hcell, HX⟩ := (hr'.below hbl).get hlt
      have hx := HI.out k hlt
      rw [← HX.out] at hx
      obtain ⟨hx1, hx2⟩ := hx
      obtain ⟨ad2, y, rfl, _, hcell2, HY⟩ := (hr.below hbl).get (j := x.toNat) (by omega)
      have HS := takes_snoc xs is k x y hlt HX HY
      have HL : Hid ((takes xs (is.take k)).length = k) := by show _ = _; rw [takes_length, List.length_take]; omega
      go_wp2_with (at_builtin; refine wpList_app1 _ rfl (.tmp 15) (.tmp 20) (by rfl) w.heap.size A1 c1 k (takes xs (is.take k)) (by rfl) HL.out (hown.alloc _) wr.heap.size 1 y (by rfl) (by simp) (by omega) (by simp; omega) ?_; intro A2 c2 w1 hown1 hb1 _)
      go_roundw
      case rel => exact ⟨k + 1, A2, c2, hlt, by go_num, rfl, by rw [HS.out]; exact hown1, (hbl.al _).trans hb1⟩
      case measure => simp [intOf]; omega
    · obtain rfl : k = is.length := by omega
      have HT := Lib.hid (List.take_of_length_le (Nat.le_refl is.length))
      have HL := Lib.hid (takes_length xs is)
      rw [HT.out] at hown
      go_wp2
      go_ret
      exact ⟨A1, c1, by rw [HL.out]; rfl, hown, hbl⟩

def idxR (n f t b : Int) (hf ht : Bool) : List Int := if inB n 0 60 = true ∧ sliceB f t b hf ht = true then idx n f t b hf ht else []
theorem inB_yes {n l h : Int} (e : inB n l h = true) : l ≤ n ∧ n ≤ h := by simpa [inB] using e

set_option maxHeartbeats 800000 in
theorem sIndicesOf_any (n f t b : Int) (hf ht : Bool) (w : World) : Calls Try.prog 48 #[.int .i64 n, .agg #[.int .i64 f, .int .i64 t, .int .i64 b, .bool hf, .bool ht]] w (RetInts w (idxR n f t b hf ht)) := by
  rcases h1 : inB n 0 60 with _ | _
  · have HR := Lib.hid (show idxR n f t b hf ht = [] by simp [idxR, h1])
    rw [HR.out]
    go_enter Try.func48, Try.ntmps48
    go_wp2_with fail
    first
      | (refine (inRange_any _ _ _ _).mono ?_; rintro e w1 ⟨rfl, rfl⟩)
      | (refine (inRange_any _ _).mono ?_; rintro e w1 ⟨rfl, hb1⟩)
    rw [h1]
    go_wp2_with fail
    go_ret
    exact ⟨none, 0, rfl, Own.nil _ _, (by (repeat' (first | (with_reducible exact Below.refl _ _) | (with_reducible assumption) | (with_reducible refine Below.setCell ?_ ?_ _) | (with_reducible refine Below.al ?_ _) | (with_reducible refine Below.drew ?_) | (with_reducible refine Below.drN ?_ _) | (with_reducible refine Below.step ?_ (by assumption)) | (with_reducible refine Below.alloc ?_ ?_ _))); all_goals (simp; try omega))⟩
  · have hn := inB_yes h1
    rcases h2 : sliceB f t b hf ht with _ | _
    · have HR := Lib.hid (show idxR n f t b hf ht = [] by simp [idxR, h2])
      rw [HR.out]
      go_enter Try.func48, Try.ntmps48
      go_wp2_with fail
      first
        | (refine (inRange_any _ _ _ _).mono ?_; rintro e w1 ⟨rfl, rfl⟩; have hc1 := trivial; have hb1 := trivial)
        | (refine (inRange_any _ _).mono ?_; rintro e w1 ⟨rfl, hb1⟩; have hc1 := bcel hb1)
      rw [h1]
      go_wp2_with fail
      refine (validSlice_any _ _ _ _ _ _).mono ?_; rintro e w2 ⟨rfl, hb2⟩
      rw [h2]
      go_wp2_with fail
      go_ret
      exact ⟨none, 0, rfl, Own.nil _ _, (by (repeat' (first | (with_reducible exact Below.refl _ _) | (with_reducible assumption) | (with_reducible refine Below.setCell ?_ ?_ _) | (with_reducible refine Below.al ?_ _) | (with_reducible refine Below.drew ?_) | (with_reducible refine Below.drN ?_ _) | (with_reducible refine Below.step ?_ (by assumption)) | (with_reducible refine Below.alloc ?_ ?_ _))); all_goals (simp; try omega))⟩
    · have HR := Lib.hid (show idxR n f t b hf ht = idx n f t b hf ht by simp [idxR, h1, h2])
      rw [HR.out]
      go_enter Try.func48, Try.ntmps48
      go_wp2_with fail
      first
        | (refine (inRange_any _ _ _ _).mono ?_; rintro e w1 ⟨rfl, rfl⟩; have hb1 := Below.refl (w.alloc (.cells #[.int .i64 f, .int .i64 t, .int .i64 b, .bool hf, .bool ht] 34)).heap.size (w.alloc (.cells #[.int .i64 f, .int .i64 t, .int .i64 b, .bool hf, .bool ht] 34)); have hc1 := trivial)
        | (refine (inRange_any _ _).mono ?_; rintro e w1 ⟨rfl, hb1⟩; have hc1 := bcel hb1)
      rw [h1]
      go_wp2_with fail
      refine (validSlice_any _ _ _ _ _ _).mono ?_; rintro e w2 ⟨rfl, hb2⟩
      have g2 := hb1.step hb2
      rw [h2]
      clear hc1
      have hc2 := bcel g2
      go_wp2_with fail
      refine (indices_any _ _ _ _ _ _ _ hn.1 (by omega) h2).mono ?_; rintro e w3 ⟨A, c', rfl, hown, hb3⟩
      have hz := g2.size
      simp at hz
      go_wp2_with fail
      go_ret
      exact ⟨A, c', rfl, hown.mono (by omega), (by (repeat' (first | (with_reducible exact Below.refl _ _) | (with_reducible assumption) | (with_reducible refine Below.setCell ?_ ?_ _) | (with_reducible refine Below.al ?_ _) | (with_reducible refine Below.drew ?_) | (with_reducible refine Below.drN ?_ _) | (with_reducible refine Below.step ?_ (by assumption)) | (with_reducible refine Below.alloc ?_ ?_ _))); all_goals (simp; try omega))⟩
set_option maxHeartbeats 800000 in
theorem iIndicesOf_any (n f t b : Int) (hf ht : Bool) (w : World) : Calls Try.prog 47 #[.int .i64 n, .agg #[.int .i64 f, .int .i64 t, .int .i64 b, .bool hf, .bool ht]] w (RetInts w (idxR n f t b hf ht)) := by
  rcases h1 : inB n 0 60 with _ | _
  · have HR := Lib.hid (show idxR n f t b hf ht = [] by simp [idxR, h1])
    rw [HR.out]
    go_enter Try.func47, Try.ntmps47
    go_wp2_with fail
    first
      | (refine (areCells_any _ _ _ _).mono ?_; rintro e w1 ⟨rfl, rfl⟩)
      | (refine (areCells_any _ _).mono ?_; rintro e w1 ⟨rfl, hb1⟩)
    rw [h1]
    go_wp2_with fail
    go_ret
    exact ⟨none, 0, rfl, Own.nil _ _, (by (repeat' (first | (with_reducible exact Below.refl _ _) | (with_reducible assumption) | (with_reducible refine Below.setCell ?_ ?_ _) | (with_reducible refine Below.al ?_ _) | (with_reducible refine Below.drew ?_) | (with_reducible refine Below.drN ?_ _) | (with_reducible refine Below.step ?_ (by assumption)) | (with_reducible refine Below.alloc ?_ ?_ _))); all_goals (simp; try omega))⟩
  · have hn := inB_yes h1
    rcases h2 : sliceB f t b hf ht with _ | _
    · have HR := Lib.hid (show idxR n f t b hf ht = [] by simp [idxR, h2])
      rw [HR.out]
      go_enter Try.func47, Try.ntmps47
      go_wp2_with fail
      first
        | (refine (areCells_any _ _ _ _).mono ?_; rintro e w1 ⟨rfl, rfl⟩; have hc1 := trivial; have hb1 := trivial)
        | (refine (areCells_any _ _).mono ?_; rintro e w1 ⟨rfl, hb1⟩; have hc1 := bcel hb1)
      rw [h1]
      go_wp2_with fail
      refine (isSlice_any _ _ _ _ _ _).mono ?_; rintro e w2 ⟨rfl, hb2⟩
      rw [h2]
      go_wp2_with fail
      go_ret
      exact ⟨none, 0, rfl, Own.nil _ _, (by (repeat' (first | (with_reducible exact Below.refl _ _) | (with_reducible assumption) | (with_reducible refine Below.setCell ?_ ?_ _) | (with_reducible refine Below.al ?_ _) | (with_reducible refine Below.drew ?_) | (with_reducible refine Below.drN ?_ _) | (with_reducible refine Below.step ?_ (by assumption)) | (with_reducible refine Below.alloc ?_ ?_ _))); all_goals (simp; try omega))⟩
    · have HR := Lib.hid (show idxR n f t b hf ht = idx n f t b hf ht by simp [idxR, h1, h2])
      rw [HR.out]
      go_enter Try.func47, Try.ntmps47
      go_wp2_with fail
      first
        | (refine (areCells_any _ _ _ _).mono ?_; rintro e w1 ⟨rfl, rfl⟩; have hb1 := Below.refl (w.alloc (.cells #[.int .i64 f, .int .i64 t, .int .i64 b, .bool hf, .bool ht] 34)).heap.size (w.alloc (.cells #[.int .i64 f, .int .i64 t, .int .i64 b, .bool hf, .bool ht] 34)); have hc1 := trivial)
        | (refine (areCells_any _ _).mono ?_; rintro e w1 ⟨rfl, hb1⟩; have hc1 := bcel hb1)
      rw [h1]
      go_wp2_with fail
      refine (isSlice_any _ _ _ _ _ _).mono ?_; rintro e w2 ⟨rfl, hb2⟩
      have g2 := hb1.step hb2
      rw [h2]
      clear hc1
      have hc2 := bcel g2
      go_wp2_with fail
      refine (indicesOf_any _ _ _ _ _ _ _ hn.1 (by omega) h2).mono ?_; rintro e w3 ⟨A, c', rfl, hown, hb3⟩
      have hz := g2.size
      simp at hz
      go_wp2_with fail
      go_ret
      exact ⟨A, c', rfl, hown.mono (by omega), (by (repeat' (first | (with_reducible exact Below.refl _ _) | (with_reducible assumption) | (with_reducible refine Below.setCell ?_ ?_ _) | (with_reducible refine Below.al ?_ _) | (with_reducible refine Below.drew ?_) | (with_reducible refine Below.drN ?_ _) | (with_reducible refine Below.step ?_ (by assumption)) | (with_reducible refine Below.alloc ?_ ?_ _))); all_goals (simp; try omega))⟩
end Go.Proofs.Ytipgopapohigpaa
