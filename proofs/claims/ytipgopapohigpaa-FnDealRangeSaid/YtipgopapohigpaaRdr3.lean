/- What the generators of ranges give. -/
import Derived.Test.YtipgopapohigpaaRdr2
set_option linter.unusedVariables false
namespace Go.Proofs.Ytipgopapohigpaa
open Go.RowKit

theorem below_some {w w1 w2 : World} {g : Nat} (hb : Below w.heap.size w w1) (hg : w1.grownBy w2 (some g)) (hB : w.heap.size ≤ g) : Below w.heap.size w w2 := hb.trans (below_of_grown hg hb.size (by intro k e; cases e; exact hB))
theorem below_z {w w1 : World} (h : Below w.heap.size w w1) : w.heap.size ≤ w1.heap.size := h.size

set_option maxHeartbeats 800000 in
theorem DrawNormalRange_any (A : Option Addr) (n : Nat) (bs : List Int) (w : World) (hr : Rd w w.heap.size .u8 A bs) (hl : bs.length ≤ maxLen) (hc : bs.length ≤ n) (hb : ∀ x ∈ bs, 0 ≤ x ∧ x ≤ 255) :
    Calls Try.prog 15 #[.slice A bs.length n] w fun e w' => ∃ a b c : Int, e = .returned (.agg #[.int .i64 a, .int .i64 b, .int .i64 c]) ∧ (-300 ≤ a ∧ a ≤ 300) ∧ (-300 ≤ b ∧ b ≤ 300) ∧ (-300 ≤ c ∧ c ≤ 300) ∧ Below w.heap.size w w' := by
  go_enter Try.func15, Try.ntmps15
  go_wp2_with fail
  refine (newReader_any A n bs _ ((hr.alloc (Nat.le_refl _) _).more (by simp)) hl hc hb).mono ?_; rintro e w1 ⟨g, rfl, hR1, hb1⟩
  obtain ⟨hc1, hf1⟩ := bcell hb1
  have g1 := hR1.ge
  have z1 := hb1.size
  simp at g1 z1
  go_wp2_with fail
  refine (someRange_any _ g _ _ hR1 (by omega)).mono ?_; rintro e w2 ⟨a, b, c, rfl, ha, hb', hc', hR2, hg2⟩
  have hb2 := below_some hb1 hg2 (by simp; omega)
  clear hc1 hf1
  obtain ⟨hc2, hf2⟩ := bcell hb2
  go_wp2_with fail
  refine bodyPost_ret (v := .agg #[.int .i64 a, .int .i64 b, .int .i64 c]) (by simp [results, Try.results15, go_sem, hc2]) rfl ⟨_, _, _, rfl, ha, hb', hc', (by (repeat' (first | (with_reducible exact Below.refl _ _) | (with_reducible assumption) | (with_reducible refine Below.setCell ?_ ?_ _) | (with_reducible refine Below.al ?_ _) | (with_reducible refine Below.drew ?_) | (with_reducible refine Below.drN ?_ _) | (with_reducible refine Below.step ?_ (by assumption)) | (with_reducible refine Below.alloc ?_ ?_ _))); all_goals (simp; try omega))⟩
set_option maxHeartbeats 800000 in
theorem DrawNumbersOf_any (A : Option Addr) (n : Nat) (bs : List Int) (w : World) (hr : Rd w w.heap.size .u8 A bs) (hl : bs.length ≤ maxLen) (hc : bs.length ≤ n) (hb : ∀ x ∈ bs, 0 ≤ x ∧ x ≤ 255) :
    Calls Try.prog 26 #[.slice A bs.length n] w fun e w' => ∃ a b c : Int, e = .returned (.agg #[.int .i64 a, .int .i64 b, .int .i64 c]) ∧ (-300 ≤ a ∧ a ≤ 300) ∧ (-300 ≤ b ∧ b ≤ 300) ∧ (-300 ≤ c ∧ c ≤ 300) ∧ Below w.heap.size w w' := by
  go_enter Try.func26, Try.ntmps26
  go_wp2_with fail
  refine (newReader_any A n bs _ ((hr.alloc (Nat.le_refl _) _).more (by simp)) hl hc hb).mono ?_; rintro e w1 ⟨g, rfl, hR1, hb1⟩
  obtain ⟨hc1, hf1⟩ := bcell hb1
  have g1 := hR1.ge
  have z1 := hb1.size
  simp at g1 z1
  go_wp2_with fail
  refine (someRange_any _ g _ _ hR1 (by omega)).mono ?_; rintro e w2 ⟨a, b, c, rfl, ha, hb', hc', hR2, hg2⟩
  have hb2 := below_some hb1 hg2 (by simp; omega)
  clear hc1 hf1
  obtain ⟨hc2, hf2⟩ := bcell hb2
  go_wp2_with fail
  refine bodyPost_ret (v := .agg #[.int .i64 a, .int .i64 b, .int .i64 c]) (by simp [results, Try.results26, go_sem, hc2]) rfl ⟨_, _, _, rfl, ha, hb', hc', (by (repeat' (first | (with_reducible exact Below.refl _ _) | (with_reducible assumption) | (with_reducible refine Below.setCell ?_ ?_ _) | (with_reducible refine Below.al ?_ _) | (with_reducible refine Below.drew ?_) | (with_reducible refine Below.drN ?_ _) | (with_reducible refine Below.step ?_ (by assumption)) | (with_reducible refine Below.alloc ?_ ?_ _))); all_goals (simp; try omega))⟩
set_option maxHeartbeats 800000 in
theorem DrawValidRange_any (A : Option Addr) (n : Nat) (bs : List Int) (w : World) (hr : Rd w w.heap.size .u8 A bs) (hl : bs.length ≤ maxLen) (hc : bs.length ≤ n) (hb : ∀ x ∈ bs, 0 ≤ x ∧ x ≤ 255) :
    Calls Try.prog 28 #[.slice A bs.length n] w fun e w' => ∃ a b c : Int, e = .returned (.agg #[.int .i64 a, .int .i64 b, .int .i64 c]) ∧ (-300 ≤ a ∧ a ≤ 300) ∧ (-300 ≤ b ∧ b ≤ 300) ∧ (-300 ≤ c ∧ c ≤ 300) ∧ Below w.heap.size w w' := by
  go_enter Try.func28, Try.ntmps28
  go_wp2_with fail
  refine (newReader_any A n bs _ ((hr.alloc (Nat.le_refl _) _).more (by simp)) hl hc hb).mono ?_; rintro e w1 ⟨g, rfl, hR1, hb1⟩
  obtain ⟨hc1, hf1⟩ := bcell hb1
  have g1 := hR1.ge
  have z1 := hb1.size
  simp at g1 z1
  go_wp2_with fail
  refine (someRange_any _ g _ _ hR1 (by omega)).mono ?_; rintro e w2 ⟨a, b, c, rfl, ha, hb', hc', hR2, hg2⟩
  have hb2 := below_some hb1 hg2 (by simp; omega)
  clear hc1 hf1
  obtain ⟨hc2, hf2⟩ := bcell hb2
  go_wp2_with fail
  refine bodyPost_ret (v := .agg #[.int .i64 a, .int .i64 b, .int .i64 c]) (by simp [results, Try.results28, go_sem, hc2]) rfl ⟨_, _, _, rfl, ha, hb', hc', (by (repeat' (first | (with_reducible exact Below.refl _ _) | (with_reducible assumption) | (with_reducible refine Below.setCell ?_ ?_ _) | (with_reducible refine Below.al ?_ _) | (with_reducible refine Below.drew ?_) | (with_reducible refine Below.drN ?_ _) | (with_reducible refine Below.step ?_ (by assumption)) | (with_reducible refine Below.alloc ?_ ?_ _))); all_goals (simp; try omega))⟩
set_option maxHeartbeats 800000 in
theorem DrawLenOf_any (A : Option Addr) (n : Nat) (bs : List Int) (w : World) (hr : Rd w w.heap.size .u8 A bs) (hl : bs.length ≤ maxLen) (hc : bs.length ≤ n) (hb : ∀ x ∈ bs, 0 ≤ x ∧ x ≤ 255) :
    Calls Try.prog 35 #[.slice A bs.length n] w fun e w' => ∃ a b c : Int, e = .returned (.agg #[.int .i64 a, .int .i64 b, .int .i64 c]) ∧ (-300 ≤ a ∧ a ≤ 300) ∧ (-300 ≤ b ∧ b ≤ 300) ∧ (-300 ≤ c ∧ c ≤ 300) ∧ Below w.heap.size w w' := by
  go_enter Try.func35, Try.ntmps35
  go_wp2_with fail
  refine (newReader_any A n bs _ ((hr.alloc (Nat.le_refl _) _).more (by simp)) hl hc hb).mono ?_; rintro e w1 ⟨g, rfl, hR1, hb1⟩
  obtain ⟨hc1, hf1⟩ := bcell hb1
  have g1 := hR1.ge
  have z1 := hb1.size
  simp at g1 z1
  go_wp2_with fail
  refine (someRange_any _ g _ _ hR1 (by omega)).mono ?_; rintro e w2 ⟨a, b, c, rfl, ha, hb', hc', hR2, hg2⟩
  have hb2 := below_some hb1 hg2 (by simp; omega)
  clear hc1 hf1
  obtain ⟨hc2, hf2⟩ := bcell hb2
  go_wp2_with fail
  refine bodyPost_ret (v := .agg #[.int .i64 a, .int .i64 b, .int .i64 c]) (by simp [results, Try.results35, go_sem, hc2]) rfl ⟨_, _, _, rfl, ha, hb', hc', (by (repeat' (first | (with_reducible exact Below.refl _ _) | (with_reducible assumption) | (with_reducible refine Below.setCell ?_ ?_ _) | (with_reducible refine Below.al ?_ _) | (with_reducible refine Below.drew ?_) | (with_reducible refine Below.drN ?_ _) | (with_reducible refine Below.step ?_ (by assumption)) | (with_reducible refine Below.alloc ?_ ?_ _))); all_goals (simp; try omega))⟩
set_option maxHeartbeats 800000 in
theorem DrawSumOf_any (A : Option Addr) (n : Nat) (bs : List Int) (w : World) (hr : Rd w w.heap.size .u8 A bs) (hl : bs.length ≤ maxLen) (hc : bs.length ≤ n) (hb : ∀ x ∈ bs, 0 ≤ x ∧ x ≤ 255) :
    Calls Try.prog 40 #[.slice A bs.length n] w fun e w' => ∃ a b c : Int, e = .returned (.agg #[.int .i64 a, .int .i64 b, .int .i64 c]) ∧ (-300 ≤ a ∧ a ≤ 300) ∧ (-300 ≤ b ∧ b ≤ 300) ∧ (-300 ≤ c ∧ c ≤ 300) ∧ Below w.heap.size w w' := by
  go_enter Try.func40, Try.ntmps40
  go_wp2_with fail
  refine (newReader_any A n bs _ ((hr.alloc (Nat.le_refl _) _).more (by simp)) hl hc hb).mono ?_; rintro e w1 ⟨g, rfl, hR1, hb1⟩
  obtain ⟨hc1, hf1⟩ := bcell hb1
  have g1 := hR1.ge
  have z1 := hb1.size
  simp at g1 z1
  go_wp2_with fail
  refine (someRange_any _ g _ _ hR1 (by omega)).mono ?_; rintro e w2 ⟨a, b, c, rfl, ha, hb', hc', hR2, hg2⟩
  have hb2 := below_some hb1 hg2 (by simp; omega)
  clear hc1 hf1
  obtain ⟨hc2, hf2⟩ := bcell hb2
  go_wp2_with fail
  refine bodyPost_ret (v := .agg #[.int .i64 a, .int .i64 b, .int .i64 c]) (by simp [results, Try.results40, go_sem, hc2]) rfl ⟨_, _, _, rfl, ha, hb', hc', (by (repeat' (first | (with_reducible exact Below.refl _ _) | (with_reducible assumption) | (with_reducible refine Below.setCell ?_ ?_ _) | (with_reducible refine Below.al ?_ _) | (with_reducible refine Below.drew ?_) | (with_reducible refine Below.drN ?_ _) | (with_reducible refine Below.step ?_ (by assumption)) | (with_reducible refine Below.alloc ?_ ?_ _))); all_goals (simp; try omega))⟩
set_option maxHeartbeats 800000 in
theorem DrawReverseRange_any (A : Option Addr) (n : Nat) (bs : List Int) (w : World) (hr : Rd w w.heap.size .u8 A bs) (hl : bs.length ≤ maxLen) (hc : bs.length ≤ n) (hb : ∀ x ∈ bs, 0 ≤ x ∧ x ≤ 255) :
    Calls Try.prog 43 #[.slice A bs.length n] w fun e w' => ∃ a b c : Int, e = .returned (.agg #[.int .i64 a, .int .i64 b, .int .i64 c]) ∧ (-300 ≤ a ∧ a ≤ 300) ∧ (-300 ≤ b ∧ b ≤ 300) ∧ (-300 ≤ c ∧ c ≤ 300) ∧ Below w.heap.size w w' := by
  go_enter Try.func43, Try.ntmps43
  go_wp2_with fail
  refine (newReader_any A n bs _ ((hr.alloc (Nat.le_refl _) _).more (by simp)) hl hc hb).mono ?_; rintro e w1 ⟨g, rfl, hR1, hb1⟩
  obtain ⟨hc1, hf1⟩ := bcell hb1
  have g1 := hR1.ge
  have z1 := hb1.size
  simp at g1 z1
  go_wp2_with fail
  refine (someRange_any _ g _ _ hR1 (by omega)).mono ?_; rintro e w2 ⟨a, b, c, rfl, ha, hb', hc', hR2, hg2⟩
  have hb2 := below_some hb1 hg2 (by simp; omega)
  clear hc1 hf1
  obtain ⟨hc2, hf2⟩ := bcell hb2
  go_wp2_with fail
  refine bodyPost_ret (v := .agg #[.int .i64 a, .int .i64 b, .int .i64 c]) (by simp [results, Try.results43, go_sem, hc2]) rfl ⟨_, _, _, rfl, ha, hb', hc', (by (repeat' (first | (with_reducible exact Below.refl _ _) | (with_reducible assumption) | (with_reducible refine Below.setCell ?_ ?_ _) | (with_reducible refine Below.al ?_ _) | (with_reducible refine Below.drew ?_) | (with_reducible refine Below.drN ?_ _) | (with_reducible refine Below.step ?_ (by assumption)) | (with_reducible refine Below.alloc ?_ ?_ _))); all_goals (simp; try omega))⟩
end Go.Proofs.Ytipgopapohigpaa
