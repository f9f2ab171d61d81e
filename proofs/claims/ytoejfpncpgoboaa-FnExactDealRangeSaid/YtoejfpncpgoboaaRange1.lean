/- The walks over ranges: what is a valid range, the conversion of a range, its numbers. -/
import Derived.Test.YtoejfpncpgoboaaMath
set_option linter.unusedVariables false
namespace Go.Proofs.Ytoejfpncpgoboaa
open Go.RowKit

def rangeB (a b c : Int) : Bool := decide (-100 ≤ a ∧ a ≤ 100 ∧ -101 ≤ b ∧ b ≤ 101 ∧ -200 ≤ c ∧ c ≤ 200 ∧ c ≠ 0)
def inB (n l h : Int) : Bool := decide (l ≤ n ∧ n ≤ h)
theorem rangeB_eq (a b c : Int) : rangeB a b c = (inB a (-100) 100 && (inB b (-101) 101 && (inB c (-200) 200 && (c != 0)))) := by
  rw [Bool.eq_iff_iff]; simp [rangeB, inB]; omega

set_option maxHeartbeats 400000 in
theorem inRange_any (n l h : Int) (w : World) : Calls Try.prog 45 #[.int .i64 n, .int .i64 l, .int .i64 h] w fun e w' => e = .returned (.bool (inB n l h)) ∧ w = w' := by
  go_enter Try.func45, Try.ntmps45
  go_wp2
  all_goals (go_ret; exact ⟨ret_bool (by rw [Bool.eq_iff_iff]; simp [inB]; omega), rfl⟩)

set_option maxHeartbeats 400000 in
theorem isRange_any (a b c : Int) (w : World) : Calls Try.prog 46 #[.agg #[.int .i64 a, .int .i64 b, .int .i64 c]] w (Ret w (.bool (rangeB a b c))) := by
  go_enter Try.func46, Try.ntmps46
  go_wp2
  all_goals (go_ret; exact ⟨ret_bool (by rw [Bool.eq_iff_iff]; simp [rangeB]; omega), (by (repeat' (first | (with_reducible exact Below.refl _ _) | (with_reducible assumption) | (with_reducible refine Below.setCell ?_ ?_ _) | (with_reducible refine Below.al ?_ _) | (with_reducible refine Below.drew ?_) | (with_reducible refine Below.drN ?_ _) | (with_reducible refine Below.step ?_ (by assumption)) | (with_reducible refine Below.alloc ?_ ?_ _))); all_goals (simp; try omega))⟩)

set_option maxHeartbeats 400000 in
theorem validRange_any (a b c : Int) (w : World) : Calls Try.prog 43 #[.agg #[.int .i64 a, .int .i64 b, .int .i64 c]] w (Ret w (.bool (rangeB a b c))) := by
  go_enter Try.func43, Try.ntmps43
  go_wp2_with (go_at_call 45; refine (inRange_any _ _ _ _).mono ?_; rintro e w' ⟨rfl, rfl⟩)
  all_goals (go_ret; exact ⟨ret_bool (by rw [rangeB_eq]; simp [*]), (by (repeat' (first | (with_reducible exact Below.refl _ _) | (with_reducible assumption) | (with_reducible refine Below.setCell ?_ ?_ _) | (with_reducible refine Below.al ?_ _) | (with_reducible refine Below.drew ?_) | (with_reducible refine Below.drN ?_ _) | (with_reducible refine Below.step ?_ (by assumption)) | (with_reducible refine Below.alloc ?_ ?_ _))); all_goals (simp; try omega))⟩)

set_option maxHeartbeats 400000 in
theorem toRange_any (a b c : Int) (w : World) : Calls Try.prog 14 #[.agg #[.int .i64 a, .int .i64 b, .int .i64 c]] w (Ret w (.agg #[.int .i64 a, .int .i64 b, .int .i64 c])) := by
  go_enter Try.func14, Try.ntmps14
  go_wp2
  exact bodyPost_ret (v := .agg #[.int .i64 a, .int .i64 b, .int .i64 c]) (by simp [results, Try.results14, go_sem]) rfl ⟨rfl, (by (repeat' (first | (with_reducible exact Below.refl _ _) | (with_reducible assumption) | (with_reducible refine Below.setCell ?_ ?_ _) | (with_reducible refine Below.al ?_ _) | (with_reducible refine Below.drew ?_) | (with_reducible refine Below.drN ?_ _) | (with_reducible refine Below.step ?_ (by assumption)) | (with_reducible refine Below.alloc ?_ ?_ _))); all_goals (simp; try omega))⟩

set_option maxHeartbeats 800000 in
theorem numbers_up (a b c : Int) (hs : Small a b c) (hc : 0 < c) (w : World) : Calls Try.prog 44 #[.agg #[.int .i64 a, .int .i64 b, .int .i64 c]] w (RetInts w (nums a b c)) := by
  have hb0 := hs
  obtain ⟨h1, h2, h3, h4, h5, h6, h7⟩ := hb0
  go_enter Try.func44, Try.ntmps44
  go_wp2
  go_loopw [3, 4] (fun v x wr => ∃ (k : Nat) (A : Option Addr) (c' : Nat), k ≤ cnt a b c ∧ x = .int .i64 (a + (k : Int) * c) ∧ v = .slice A k c' ∧ Own wr (w.heap.size + 1) A c' (prg a c k) ∧ Below (w.heap.size + 1) (w.alloc (.cells #[.int .i64 a, .int .i64 b, .int .i64 c] 26)) wr)
    (fun _ x _ => (b - intOf x).toNat)
  case atStart => exact ⟨0, _, _, Nat.zero_le _, by simp, rfl, Own.made (by simp) (by simp), (by (repeat' (first | (with_reducible exact Below.refl _ _) | (with_reducible assumption) | (with_reducible refine Below.setCell ?_ ?_ _) | (with_reducible refine Below.al ?_ _) | (with_reducible refine Below.drew ?_) | (with_reducible refine Below.drN ?_ _) | (with_reducible refine Below.step ?_ (by assumption)) | (with_reducible refine Below.alloc ?_ ?_ _))); all_goals (simp; try omega))⟩
  case round =>
    obtain ⟨k, A, c', hk, rfl, rfl, hown, hbl⟩ := hrel
    have q0 := hbl.cell (p := ⟨w.heap.size, 0, none⟩) (by simp)
    have q1 := hbl.cell (p := ⟨w.heap.size, 1, none⟩) (by simp)
    have q2 := hbl.cell (p := ⟨w.heap.size, 2, none⟩) (by simp)
    have q3 := hbl.size
    simp at q0 q1 q2 q3
    have hbd := up_bd a b c k hs hc hk
    have hstep := up_lt a b c k hc
    have hnext : a + ((k + 1 : Nat) : Int) * c = a + (k : Int) * c + c := by rw [Int.natCast_add, Int.add_mul]; simp; omega
    have H1 := Lib.hid hstep
    have H2 := Lib.hid hnext
    clear hstep hnext
    obtain ⟨x, hx⟩ : ∃ x : Int, x = a + (k : Int) * c := ⟨_, rfl⟩
    rw [← hx] at hbd ⊢
    have HX := Lib.hid hx
    clear hx
    by_cases hlt : x < b
    · go_wp2_with (at_builtin; refine wpList_app1 _ rfl (.tmp 32) (.tmp 34) (by rfl) (w.heap.size + 1) A c' k (prg a c k) (by rfl) (prg_length a c k) (hown.alloc _) wr.heap.size 1 x (by rfl) (by simp) (by omega) (by simp; omega) ?_; intro A' c'' w1 hown1 hb1 _; have hbl1 := (hbl.alloc q3 _).trans hb1; have q5 := hbl1.cell (p := ⟨w.heap.size, 2, none⟩) (by simp); simp at q5)
      have hk1 : k < cnt a b c := H1.out.1 (by rw [← HX.out]; exact hlt)
      go_roundw
      case rel => exact ⟨k + 1, A', c'', hk1, by rw [H2.out, ← HX.out], rfl, by rw [prg_succ, ← HX.out]; exact hown1, hbl1⟩
      case measure => simp [intOf]; omega
    · have hk1 : cnt a b c = k := by
        have : ¬ k < cnt a b c := fun h => hlt (by rw [HX.out]; exact H1.out.2 h)
        omega
      have HK := Lib.hid hk1
      clear hk1
      go_wp2
      go_ret
      refine ⟨A, c', by unfold nums; rw [HK.out, prg_length]; rfl, ?_, ?_⟩
      · unfold nums; rw [HK.out]; exact hown.mono (by omega)
      · exact ((Below.refl _ _).alloc (Nat.le_refl _) _).trans (hbl.mono (by omega))
set_option maxHeartbeats 800000 in
theorem numbers_down (a b c : Int) (hs : Small a b c) (hc : c < 0) (w : World) : Calls Try.prog 44 #[.agg #[.int .i64 a, .int .i64 b, .int .i64 c]] w (RetInts w (nums a b c)) := by
  have hb0 := hs
  obtain ⟨h1, h2, h3, h4, h5, h6, h7⟩ := hb0
  go_enter Try.func44, Try.ntmps44
  go_wp2
  go_loopw [3, 4] (fun v x wr => ∃ (k : Nat) (A : Option Addr) (c' : Nat), k ≤ cnt a b c ∧ x = .int .i64 (a + (k : Int) * c) ∧ v = .slice A k c' ∧ Own wr (w.heap.size + 1) A c' (prg a c k) ∧ Below (w.heap.size + 1) (w.alloc (.cells #[.int .i64 a, .int .i64 b, .int .i64 c] 26)) wr)
    (fun _ x _ => (intOf x - b).toNat)
  case atStart => exact ⟨0, _, _, Nat.zero_le _, by simp, rfl, Own.made (by simp) (by simp), (by (repeat' (first | (with_reducible exact Below.refl _ _) | (with_reducible assumption) | (with_reducible refine Below.setCell ?_ ?_ _) | (with_reducible refine Below.al ?_ _) | (with_reducible refine Below.drew ?_) | (with_reducible refine Below.drN ?_ _) | (with_reducible refine Below.step ?_ (by assumption)) | (with_reducible refine Below.alloc ?_ ?_ _))); all_goals (simp; try omega))⟩
  case round =>
    obtain ⟨k, A, c', hk, rfl, rfl, hown, hbl⟩ := hrel
    have q0 := hbl.cell (p := ⟨w.heap.size, 0, none⟩) (by simp)
    have q1 := hbl.cell (p := ⟨w.heap.size, 1, none⟩) (by simp)
    have q2 := hbl.cell (p := ⟨w.heap.size, 2, none⟩) (by simp)
    have q3 := hbl.size
    simp at q0 q1 q2 q3
    have hbd := down_bd a b c k hs hc hk
    have hstep := down_lt a b c k hc
    have hnext : a + ((k + 1 : Nat) : Int) * c = a + (k : Int) * c + c := by rw [Int.natCast_add, Int.add_mul]; simp; omega
    have H1 := Lib.hid hstep
    have H2 := Lib.hid hnext
    clear hstep hnext
    obtain ⟨x, hx⟩ : ∃ x : Int, x = a + (k : Int) * c := ⟨_, rfl⟩
    rw [← hx] at hbd ⊢
    have HX := Lib.hid hx
    clear hx
    by_cases hlt : b < x
    · go_wp2_with (at_builtin; refine wpList_app1 _ rfl (.tmp 32) (.tmp 34) (by rfl) (w.heap.size + 1) A c' k (prg a c k) (by rfl) (prg_length a c k) (hown.alloc _) wr.heap.size 1 x (by rfl) (by simp) (by omega) (by simp; omega) ?_; intro A' c'' w1 hown1 hb1 _; have hbl1 := (hbl.alloc q3 _).trans hb1; have q5 := hbl1.cell (p := ⟨w.heap.size, 2, none⟩) (by simp); simp at q5)
      have hk1 : k < cnt a b c := H1.out.1 (by rw [← HX.out]; exact hlt)
      go_roundw
      case rel => exact ⟨k + 1, A', c'', hk1, by rw [H2.out, ← HX.out], rfl, by rw [prg_succ, ← HX.out]; exact hown1, hbl1⟩
      case measure => simp [intOf]; omega
    · have hk1 : cnt a b c = k := by
        have : ¬ k < cnt a b c := fun h => hlt (by rw [HX.out]; exact H1.out.2 h)
        omega
      have HK := Lib.hid hk1
      clear hk1
      go_wp2
      go_ret
      refine ⟨A, c', by unfold nums; rw [HK.out, prg_length]; rfl, ?_, ?_⟩
      · unfold nums; rw [HK.out]; exact hown.mono (by omega)
      · exact ((Below.refl _ _).alloc (Nat.le_refl _) _).trans (hbl.mono (by omega))
theorem numbers_any (a b c : Int) (hs : Small a b c) (w : World) : Calls Try.prog 44 #[.agg #[.int .i64 a, .int .i64 b, .int .i64 c]] w (RetInts w (nums a b c)) := by
  rcases (show 0 < c ∨ c < 0 by have := hs.2.2.2.2.2.2; omega) with h | h
  · exact numbers_up a b c hs h w
  · exact numbers_down a b c hs h w
set_option maxHeartbeats 800000 in
theorem numbersOf_up (a b c : Int) (hs : Small a b c) (hc : 0 < c) (w : World) : Calls Try.prog 47 #[.agg #[.int .i64 a, .int .i64 b, .int .i64 c]] w (RetInts w (nums a b c)) := by
  have hb0 := hs
  obtain ⟨h1, h2, h3, h4, h5, h6, h7⟩ := hb0
  go_enter Try.func47, Try.ntmps47
  go_wp2
  go_loopw [3, 4] (fun v x wr => ∃ (k : Nat) (A : Option Addr) (c' : Nat), k ≤ cnt a b c ∧ x = .int .i64 (a + (k : Int) * c) ∧ v = .slice A k c' ∧ Own wr (w.heap.size + 1) A c' (prg a c k) ∧ Below (w.heap.size + 1) (w.alloc (.cells #[.int .i64 a, .int .i64 b, .int .i64 c] 26)) wr)
    (fun _ x _ => (b - intOf x).toNat)
  case atStart => exact ⟨0, _, _, Nat.zero_le _, by simp, rfl, Own.made (by simp) (by simp), (by (repeat' (first | (with_reducible exact Below.refl _ _) | (with_reducible assumption) | (with_reducible refine Below.setCell ?_ ?_ _) | (with_reducible refine Below.al ?_ _) | (with_reducible refine Below.drew ?_) | (with_reducible refine Below.drN ?_ _) | (with_reducible refine Below.step ?_ (by assumption)) | (with_reducible refine Below.alloc ?_ ?_ _))); all_goals (simp; try omega))⟩
  case round =>
    obtain ⟨k, A, c', hk, rfl, rfl, hown, hbl⟩ := hrel
    have q0 := hbl.cell (p := ⟨w.heap.size, 0, none⟩) (by simp)
    have q1 := hbl.cell (p := ⟨w.heap.size, 1, none⟩) (by simp)
    have q2 := hbl.cell (p := ⟨w.heap.size, 2, none⟩) (by simp)
    have q3 := hbl.size
    simp at q0 q1 q2 q3
    have hbd := up_bd a b c k hs hc hk
    have hstep := up_lt a b c k hc
    have hnext : a + ((k + 1 : Nat) : Int) * c = a + (k : Int) * c + c := by rw [Int.natCast_add, Int.add_mul]; simp; omega
    have H1 := Lib.hid hstep
    have H2 := Lib.hid hnext
    clear hstep hnext
    obtain ⟨x, hx⟩ : ∃ x : Int, x = a + (k : Int) * c := ⟨_, rfl⟩
    rw [← hx] at hbd ⊢
    have HX := Lib.hid hx
    clear hx
    by_cases hlt : x < b
    · go_wp2_with (at_builtin; refine wpList_app1 _ rfl (.tmp 32) (.tmp 34) (by rfl) (w.heap.size + 1) A c' k (prg a c k) (by rfl) (prg_length a c k) (hown.alloc _) wr.heap.size 1 x (by rfl) (by simp) (by omega) (by simp; omega) ?_; intro A' c'' w1 hown1 hb1 _; have hbl1 := (hbl.alloc q3 _).trans hb1; have q5 := hbl1.cell (p := ⟨w.heap.size, 2, none⟩) (by simp); simp at q5)
      have hk1 : k < cnt a b c := H1.out.1 (by rw [← HX.out]; exact hlt)
      go_roundw
      case rel => exact ⟨k + 1, A', c'', hk1, by rw [H2.out, ← HX.out], rfl, by rw [prg_succ, ← HX.out]; exact hown1, hbl1⟩
      case measure => simp [intOf]; omega
    · have hk1 : cnt a b c = k := by
        have : ¬ k < cnt a b c := fun h => hlt (by rw [HX.out]; exact H1.out.2 h)
        omega
      have HK := Lib.hid hk1
      clear hk1
      go_wp2
      go_ret
      refine ⟨A, c', by unfold nums; rw [HK.out, prg_length]; rfl, ?_, ?_⟩
      · unfold nums; rw [HK.out]; exact hown.mono (by omega)
      · exact ((Below.refl _ _).alloc (Nat.le_refl _) _).trans (hbl.mono (by omega))
set_option maxHeartbeats 800000 in
theorem numbersOf_down (a b c : Int) (hs : Small a b c) (hc : c < 0) (w : World) : Calls Try.prog 47 #[.agg #[.int .i64 a, .int .i64 b, .int .i64 c]] w (RetInts w (nums a b c)) := by
  have hb0 := hs
  obtain ⟨h1, h2, h3, h4, h5, h6, h7⟩ := hb0
  go_enter Try.func47, Try.ntmps47
  go_wp2
  go_loopw [3, 4] (fun v x wr => ∃ (k : Nat) (A : Option Addr) (c' : Nat), k ≤ cnt a b c ∧ x = .int .i64 (a + (k : Int) * c) ∧ v = .slice A k c' ∧ Own wr (w.heap.size + 1) A c' (prg a c k) ∧ Below (w.heap.size + 1) (w.alloc (.cells #[.int .i64 a, .int .i64 b, .int .i64 c] 26)) wr)
    (fun _ x _ => (intOf x - b).toNat)
  case atStart => exact ⟨0, _, _, Nat.zero_le _, by simp, rfl, Own.made (by simp) (by simp), (by (repeat' (first | (with_reducible exact Below.refl _ _) | (with_reducible assumption) | (with_reducible refine Below.setCell ?_ ?_ _) | (with_reducible refine Below.al ?_ _) | (with_reducible refine Below.drew ?_) | (with_reducible refine Below.drN ?_ _) | (with_reducible refine Below.step ?_ (by assumption)) | (with_reducible refine Below.alloc ?_ ?_ _))); all_goals (simp; try omega))⟩
  case round =>
    obtain ⟨k, A, c', hk, rfl, rfl, hown, hbl⟩ := hrel
    have q0 := hbl.cell (p := ⟨w.heap.size, 0, none⟩) (by simp)
    have q1 := hbl.cell (p := ⟨w.heap.size, 1, none⟩) (by simp)
    have q2 := hbl.cell (p := ⟨w.heap.size, 2, none⟩) (by simp)
    have q3 := hbl.size
    simp at q0 q1 q2 q3
    have hbd := down_bd a b c k hs hc hk
    have hstep := down_lt a b c k hc
    have hnext : a + ((k + 1 : Nat) : Int) * c = a + (k : Int) * c + c := by rw [Int.natCast_add, Int.add_mul]; simp; omega
    have H1 := Lib.hid hstep
    have H2 := Lib.hid hnext
    clear hstep hnext
    obtain ⟨x, hx⟩ : ∃ x : Int, x = a + (k : Int) * c := ⟨_, rfl⟩
    rw [← hx] at hbd ⊢
    have HX := Lib.hid hx
    clear hx
    by_cases hlt : b < x
    · go_wp2_with (at_builtin; refine wpList_app1 _ rfl (.tmp 32) (.tmp 34) (by rfl) (w.heap.size + 1) A c' k (prg a c k) (by rfl) (prg_length a c k) (hown.alloc _) wr.heap.size 1 x (by rfl) (by simp) (by omega) (by simp; omega) ?_; intro A' c'' w1 hown1 hb1 _; have hbl1 := (hbl.alloc q3 _).trans hb1; have q5 := hbl1.cell (p := ⟨w.heap.size, 2, none⟩) (by simp); simp at q5)
      have hk1 : k < cnt a b c := H1.out.1 (by rw [← HX.out]; exact hlt)
      go_roundw
      case rel => exact ⟨k + 1, A', c'', hk1, by rw [H2.out, ← HX.out], rfl, by rw [prg_succ, ← HX.out]; exact hown1, hbl1⟩
      case measure => simp [intOf]; omega
    · have hk1 : cnt a b c = k := by
        have : ¬ k < cnt a b c := fun h => hlt (by rw [HX.out]; exact H1.out.2 h)
        omega
      have HK := Lib.hid hk1
      clear hk1
      go_wp2
      go_ret
      refine ⟨A, c', by unfold nums; rw [HK.out, prg_length]; rfl, ?_, ?_⟩
      · unfold nums; rw [HK.out]; exact hown.mono (by omega)
      · exact ((Below.refl _ _).alloc (Nat.le_refl _) _).trans (hbl.mono (by omega))
theorem numbersOf_any (a b c : Int) (hs : Small a b c) (w : World) : Calls Try.prog 47 #[.agg #[.int .i64 a, .int .i64 b, .int .i64 c]] w (RetInts w (nums a b c)) := by
  rcases (show 0 < c ∨ c < 0 by have := hs.2.2.2.2.2.2; omega) with h | h
  · exact numbersOf_up a b c hs h w
  · exact numbersOf_down a b c hs h w
end Go.Proofs.Ytoejfpncpgoboaa
