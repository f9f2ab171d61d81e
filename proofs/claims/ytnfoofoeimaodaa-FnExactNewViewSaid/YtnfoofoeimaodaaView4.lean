/- The walks over views: sizes, copies, comparison. -/
import Derived.Test.YtnfoofoeimaodaaView3
import Derived.Test.YtnfoofoeimaodaaTens2
set_option linter.unusedVariables false
namespace Go.Proofs.Ytnfoofoeimaodaa
open Go.RowKit
set_option maxHeartbeats 800000 in
theorem szView_any (b : Int) (A A' : Option Addr) (c c' n n' : Nat) (w : World) (hn : n ≤ maxLen) (hn' : n' ≤ maxLen) :
    Calls Try.prog 21 #[.agg #[.int .i64 b, .slice A n c, .slice A' n' c'], .int .i64 1048576] w (Ret w (.int .i64 (szB n n'))) := by
  by_cases h : 1048576 < n
  · have HR := Lib.hid (szB_hi (n := n) (n' := n') (by omega))
    have H1 := Lib.hid (show (1048576 : Int) < (n : Int) by omega)
    clear h
    go_enter Try.func21, Try.ntmps21
    go_wp2_with fail
    refine (szIntS_hi _ _ _ _ _ hn (by omega) (by omega) H1.out).mono ?_; rintro e w1 ⟨rfl, rfl⟩
    go_wp2_with fail
    go_ret
    exact ⟨ret_int (by rw [HR.out]), (by (repeat' (first | (with_reducible exact Below.refl _ _) | (with_reducible assumption) | (with_reducible refine Below.setCell ?_ ?_ _) | (with_reducible refine Below.al ?_ _) | (with_reducible refine Below.drew ?_) | (with_reducible refine Below.drN ?_ _) | (with_reducible refine Below.step ?_ (by assumption)) | (with_reducible refine Below.alloc ?_ ?_ _))); all_goals (simp; try omega))⟩
  · have H1 := Lib.hid (show (n : Int) ≤ 1048576 by omega)
    have h2 : ¬ (1048576 - (n : Int) < 0) := by omega
    by_cases h' : (1048576 - (n : Int)) < (n' : Int)
    · have HR := Lib.hid (szB_hi (n := n) (n' := n') (by omega))
      have H2 := Lib.hid h'
      clear h h'
      go_enter Try.func21, Try.ntmps21
      go_wp2_with fail
      refine (szIntS_lo _ _ _ _ _ (by omega) (by omega) H1.out).mono ?_; rintro e w1 ⟨rfl, rfl⟩
      go_wp2_with fail
      refine (szIntS_hi _ _ _ _ _ hn' (by omega) (by omega) H2.out).mono ?_; rintro e w1 ⟨rfl, rfl⟩
      go_wp2_with fail
      go_ret
      exact ⟨ret_int (by rw [HR.out]), (by (repeat' (first | (with_reducible exact Below.refl _ _) | (with_reducible assumption) | (with_reducible refine Below.setCell ?_ ?_ _) | (with_reducible refine Below.al ?_ _) | (with_reducible refine Below.drew ?_) | (with_reducible refine Below.drN ?_ _) | (with_reducible refine Below.step ?_ (by assumption)) | (with_reducible refine Below.alloc ?_ ?_ _))); all_goals (simp; try omega))⟩
    · have HR := Lib.hid (szB_lo (n := n) (n' := n') (by omega))
      have H2 := Lib.hid (show (n' : Int) ≤ 1048576 - (n : Int) by omega)
      have h3 : ¬ (1048576 - (n : Int) - (n' : Int) < 0) := by omega
      clear h h'
      go_enter Try.func21, Try.ntmps21
      go_wp2_with fail
      refine (szIntS_lo _ _ _ _ _ (by omega) (by omega) H1.out).mono ?_; rintro e w1 ⟨rfl, rfl⟩
      go_wp2_with fail
      refine (szIntS_lo _ _ _ _ _ (by omega) (by omega) H2.out).mono ?_; rintro e w1 ⟨rfl, rfl⟩
      go_wp2_with fail
      go_ret
      exact ⟨ret_int (by rw [HR.out]), (by (repeat' (first | (with_reducible exact Below.refl _ _) | (with_reducible assumption) | (with_reducible refine Below.setCell ?_ ?_ _) | (with_reducible refine Below.al ?_ _) | (with_reducible refine Below.drew ?_) | (with_reducible refine Below.drN ?_ _) | (with_reducible refine Below.step ?_ (by assumption)) | (with_reducible refine Below.alloc ?_ ?_ _))); all_goals (simp; try omega))⟩

def RetView (w : World) (b : Int) (xs vs : List Int) (e : Ending) (w' : World) : Prop :=
  ∃ A c A' c', e = .returned (.agg #[.int .i64 b, .slice A xs.length c, .slice A' vs.length c']) ∧ Own w' w.heap.size A c xs ∧ Own w' w.heap.size A' c' vs ∧ Below w.heap.size w w' ∧ (blk A' = none ∨ blk A' ≠ blk A)
set_option maxHeartbeats 1600000 in
theorem toView_any (b : Int) (A A' : Option Addr) (c c' : Nat) (xs vs : List Int) (w : World) (h0 : Rd w w.heap.size .i64 A xs) (h0' : Rd w w.heap.size .i64 A' vs) (hl : xs.length ≤ 2000000000) (hl' : vs.length ≤ 2000000000) :
    Calls Try.prog 23 #[.agg #[.int .i64 b, .slice A xs.length c, .slice A' vs.length c']] w (RetView w b xs vs) := by
  go_enter Try.func23, Try.ntmps23
  go_wp2_with fail
  refine (toIntS_any _ _ _ _ ((((h0.alloc (Nat.le_refl _) _).alloc (by simp) _).alloc (by simp <;> omega) _).more (by simp <;> omega)) hl).mono ?_; rintro e w1 ⟨A1, c1, rfl, ho1, hb1⟩
  have z1 := hb1.size
  simp at z1
  have z1x := Nat.lt_of_succ_le z1
  have z1y : w.heap.size + 1 < w1.heap.size := by omega
  have z1z : w.heap.size < w1.heap.size := by omega
  obtain ⟨hc1, hf1⟩ := bcell hb1
  go_wp2_with fail
  have r1' : Rd w1 w.heap.size .i64 A' vs := (((h0'.alloc (Nat.le_refl _) _).alloc (by simp <;> omega) _).alloc (by simp <;> omega) _).below (hb1.mono (by simp <;> omega))
  refine (toIntS_any _ _ _ _ ((r1'.below ((Below.refl _ _).setCell (by simp <;> omega) _)).more (by simp <;> omega)) hl').mono ?_; rintro e w2 ⟨A2, c2, rfl, ho2, hb2⟩
  have z2 := hb2.size
  simp at z2
  have z2x := Nat.lt_of_lt_of_le z1x z2
  have z2y := Nat.lt_of_lt_of_le z1y z2
  obtain ⟨hc2, hf2⟩ := bcell hb2
  go_wp2_with fail
  have hd : blk A2 = none ∨ blk A2 ≠ blk A1 := by
    rcases h : blk A2 with _ | k
    · exact .inl rfl
    · refine .inr fun e => ?_
      have h1 := (ho2.ge _ h).1
      have h2 := (ho1.ge _ e.symm).2
      simp at h1
      omega
  exact bodyPost_ret (v := .agg #[.int .i64 b, .slice A1 xs.length c1, .slice A2 vs.length c2]) (by simp [results, Try.results23, go_sem, hc2, hc1, z1y]) rfl ⟨A1, c1, A2, c2, rfl, ((((ho1.mono (B' := w.heap.size + 1 + 1 + 1) (by simp)).setOff (by omega) _ _).below hb2 (Nat.le_refl _)).setOff (by omega) _ _ |>.setOff (by omega) _ _ |>.setOff (by omega) _ _ |>.setOff (by omega) _ _).mono (by omega), (((((ho2.mono (B' := w.heap.size + 1 + 1 + 1) (by simp; omega)).setOff (by omega) _ _).setOff (by omega) _ _).setOff (by omega) _ _).setOff (by omega) _ _).mono (by omega), (by (repeat' (first | (with_reducible exact Below.refl _ _) | (with_reducible assumption) | (with_reducible refine Below.setCell ?_ ?_ _) | (with_reducible refine Below.al ?_ _) | (with_reducible refine Below.drew ?_) | (with_reducible refine Below.drN ?_ _) | (with_reducible refine Below.step ?_ (by assumption)) | (with_reducible refine Below.alloc ?_ ?_ _))); all_goals (simp; try omega)), hd⟩

set_option maxHeartbeats 1600000 in
theorem eqView_same (b : Int) (A1 A2 A3 A4 : Option Addr) (c1 c2 c3 c4 : Nat) (xs vs : List Int) (w : World) (h1 : Rd w w.heap.size .i64 A1 xs) (h2 : Rd w w.heap.size .i64 A2 vs) (h3 : Rd w w.heap.size .i64 A3 xs) (h4 : Rd w w.heap.size .i64 A4 vs) (hl : xs.length ≤ maxLen) (hl' : vs.length ≤ maxLen) :
    Calls Try.prog 25 #[.agg #[.int .i64 b, .slice A1 xs.length c1, .slice A2 vs.length c2], .agg #[.int .i64 b, .slice A3 xs.length c3, .slice A4 vs.length c4]] w (Ret w (.bool true)) := by
  have HE := Lib.hid (show eqB xs xs = true by simp [eqB])
  have HE' := Lib.hid (show eqB vs vs = true by simp [eqB])
  go_enter Try.func25, Try.ntmps25
  go_wp2_with fail
  refine (eqIntS_any _ _ _ _ _ _ _ _ _ ((h1.alloc (Nat.le_refl _) _).alloc (by simp) _) ((h3.alloc (Nat.le_refl _) _).alloc (by simp) _) hl hl).mono ?_; rintro e w1 ⟨rfl, hb1⟩
  rw [HE.out]
  have hc1 := bcel hb1
  have z1 := hb1.size
  go_wp2_with fail
  refine (eqIntS_any _ _ _ _ _ _ _ _ _ ((((h2.alloc (Nat.le_refl _) _).alloc (by simp) _).more (by simp <;> omega)).to hb1) ((((h4.alloc (Nat.le_refl _) _).alloc (by simp) _).more (by simp <;> omega)).to hb1) hl' hl').mono ?_; rintro e w2 ⟨rfl, hb2⟩
  rw [HE'.out]
  go_wp2_with fail
  go_ret
  exact ⟨rfl, (by (repeat' (first | (with_reducible exact Below.refl _ _) | (with_reducible assumption) | (with_reducible refine Below.setCell ?_ ?_ _) | (with_reducible refine Below.al ?_ _) | (with_reducible refine Below.drew ?_) | (with_reducible refine Below.drN ?_ _) | (with_reducible refine Below.step ?_ (by assumption)) | (with_reducible refine Below.alloc ?_ ?_ _))); all_goals (simp; try omega))⟩

set_option maxHeartbeats 800000 in
theorem sValidView_any (b : Int) (A A' : Option Addr) (c c' : Nat) (xs vs : List Int) (w : World) (h0 : Rd w w.heap.size .i64 A xs) (h0' : Rd w w.heap.size .i64 A' vs) (hl : xs.length ≤ maxLen) (hl' : vs.length ≤ maxLen) :
    Calls Try.prog 52 #[.agg #[.int .i64 b, .slice A xs.length c, .slice A' vs.length c']] w (Ret w (.bool (viewB b xs vs))) := by
  go_enter Try.func52, Try.ntmps52
  go_wp2_with fail
  refine (validView_any _ _ _ _ _ _ _ _ ((h0.alloc (Nat.le_refl _) _).more (by simp <;> omega)) ((h0'.alloc (Nat.le_refl _) _).more (by simp <;> omega)) hl hl').mono ?_; rintro e w1 ⟨rfl, hb1⟩
  go_wp2_with fail
  go_ret
  exact ⟨rfl, (by (repeat' (first | (with_reducible exact Below.refl _ _) | (with_reducible assumption) | (with_reducible refine Below.setCell ?_ ?_ _) | (with_reducible refine Below.al ?_ _) | (with_reducible refine Below.drew ?_) | (with_reducible refine Below.drN ?_ _) | (with_reducible refine Below.step ?_ (by assumption)) | (with_reducible refine Below.alloc ?_ ?_ _))); all_goals (simp; try omega))⟩
set_option maxHeartbeats 800000 in
theorem iValidView_any (b : Int) (A A' : Option Addr) (c c' : Nat) (xs vs : List Int) (w : World) (h0 : Rd w w.heap.size .i64 A xs) (h0' : Rd w w.heap.size .i64 A' vs) (hl : xs.length ≤ maxLen) (hl' : vs.length ≤ maxLen) :
    Calls Try.prog 53 #[.agg #[.int .i64 b, .slice A xs.length c, .slice A' vs.length c']] w (Ret w (.bool (viewB b xs vs))) := by
  go_enter Try.func53, Try.ntmps53
  go_wp2_with fail
  refine (isView_any _ _ _ _ _ _ _ _ ((h0.alloc (Nat.le_refl _) _).more (by simp <;> omega)) ((h0'.alloc (Nat.le_refl _) _).more (by simp <;> omega)) hl hl').mono ?_; rintro e w1 ⟨rfl, hb1⟩
  go_wp2_with fail
  go_ret
  exact ⟨rfl, (by (repeat' (first | (with_reducible exact Below.refl _ _) | (with_reducible assumption) | (with_reducible refine Below.setCell ?_ ?_ _) | (with_reducible refine Below.al ?_ _) | (with_reducible refine Below.drew ?_) | (with_reducible refine Below.drN ?_ _) | (with_reducible refine Below.step ?_ (by assumption)) | (with_reducible refine Below.alloc ?_ ?_ _))); all_goals (simp; try omega))⟩
end Go.Proofs.Ytnfoofoeimaodaa
