/- What the generators of a range and a number give. -/
import Derived.Test.YtipgopapohigpaaRdr3
set_option linter.unusedSimpArgs false
set_option linter.unusedVariables false
namespace Go.Proofs.Ytipgopapohigpaa
open Go.RowKit

set_option maxHeartbeats 1600000 in
theorem DrawNumberAt_any (A : Option Addr) (n : Nat) (bs : List Int) (w : World) (hr : Rd w w.heap.size .u8 A bs) (hl : bs.length ≤ maxLen) (hc : bs.length ≤ n) (hb : ∀ x ∈ bs, 0 ≤ x ∧ x ≤ 255) :
    Calls Try.prog 37 #[.slice A bs.length n] w fun e w' => ∃ a b c x : Int, e = .returned (.tuple #[.agg #[.int .i64 a, .int .i64 b, .int .i64 c], .int .i64 x]) ∧ (-300 ≤ a ∧ a ≤ 300) ∧ (-300 ≤ b ∧ b ≤ 300) ∧ (-300 ≤ c ∧ c ≤ 300) ∧ (-300 ≤ x ∧ x ≤ 300) ∧ Below w.heap.size w w' := by
  go_enter Try.func37, Try.ntmps37
  go_wp2_with fail
  refine (newReader_any A n bs _ ((hr.alloc (Nat.le_refl _) _).more (by simp)) hl hc hb).mono ?_; rintro e w1 ⟨g, rfl, hR1, hb1⟩
  obtain ⟨hc1, hf1⟩ := bcell hb1
  have g1 := hR1.ge
  have z1 := hb1.size
  simp at g1 z1
  go_wp2_with fail
  refine (someRange_any _ g _ _ hR1 (by omega)).mono ?_; rintro e w2 ⟨a, b, c, rfl, ha, hb', hc', hR2, hg2⟩
  have hb2 := below_some hb1 hg2 (by simp; omega)
  clear hc1 hf1
  obtain ⟨hc2, hf2⟩ := bcell hb2
  have z2 := hb2.size
  simp at z2
  have l2 := hR2.lt
  go_wp2_with fail
  refine (pick_any _ g _ _ _ (by repeat' (first | (with_reducible assumption) | (with_reducible apply Rdr.alloc) | (with_reducible apply Rdr.drew) | omega)) (by omega) (by omega)).mono ?_; rintro e w3 ⟨x3, rfl, p3, _, q3, hR3, hg3⟩
  have q3 := q3 (by omega)
  have hb3 := below_some hb2 hg3 (by simp; omega)
  clear hc2 hf2
  obtain ⟨hc3, hf3⟩ := bcell hb3
  have z3 := hb3.size
  simp at z3
  have l3 := hR3.lt
  go_wp2_with fail
  refine (one_any _ g _ _ _ [0, 1, -1, 2, -2, x3, -9, 30] _ (by repeat' (first | (with_reducible assumption) | (with_reducible apply Rdr.alloc) | (with_reducible apply Rdr.drew) | omega)) (by omega) (Rd_lit _ _ _ _ rfl) (blk_ne (by omega)) (by simp) (by simp)).mono ?_; rintro e w4 ⟨x4, rfl, p4, hR4, hg4⟩
  have p4 := mid_of p4 (by simp; try omega)
  have hb4 := below_some (hb3.al _) hg4 (by simp; omega)
  clear hc3 hf3
  obtain ⟨hc4, hf4⟩ := bcell hb4
  go_wp2_with fail
  refine bodyPost_ret (v := .tuple #[.agg #[.int .i64 a, .int .i64 b, .int .i64 c], .int .i64 x4]) (by simp [results, Try.results37, go_sem, hc4]) rfl ⟨_, _, _, _, rfl, ha, hb', hc', p4, (by (repeat' (first | (with_reducible exact Below.refl _ _) | (with_reducible assumption) | (with_reducible refine Below.setCell ?_ ?_ _) | (with_reducible refine Below.al ?_ _) | (with_reducible refine Below.drew ?_) | (with_reducible refine Below.drN ?_ _) | (with_reducible refine Below.step ?_ (by assumption)) | (with_reducible refine Below.alloc ?_ ?_ _))); all_goals (simp; try omega))⟩
set_option maxHeartbeats 1600000 in
theorem DrawPlaceOf_any (A : Option Addr) (n : Nat) (bs : List Int) (w : World) (hr : Rd w w.heap.size .u8 A bs) (hl : bs.length ≤ maxLen) (hc : bs.length ≤ n) (hb : ∀ x ∈ bs, 0 ≤ x ∧ x ≤ 255) :
    Calls Try.prog 32 #[.slice A bs.length n] w fun e w' => ∃ a b c x : Int, e = .returned (.tuple #[.agg #[.int .i64 a, .int .i64 b, .int .i64 c], .int .i64 x]) ∧ (-300 ≤ a ∧ a ≤ 300) ∧ (-300 ≤ b ∧ b ≤ 300) ∧ (-300 ≤ c ∧ c ≤ 300) ∧ (-300 ≤ x ∧ x ≤ 300) ∧ Below w.heap.size w w' := by
  go_enter Try.func32, Try.ntmps32
  go_wp2_with fail
  refine (newReader_any A n bs _ ((hr.alloc (Nat.le_refl _) _).more (by simp)) hl hc hb).mono ?_; rintro e w1 ⟨g, rfl, hR1, hb1⟩
  obtain ⟨hc1, hf1⟩ := bcell hb1
  have g1 := hR1.ge
  have z1 := hb1.size
  simp at g1 z1
  go_wp2_with fail
  refine (someRange_any _ g _ _ hR1 (by omega)).mono ?_; rintro e w2 ⟨a, b, c, rfl, ha, hb', hc', hR2, hg2⟩
  have hb2 := below_some hb1 hg2 (by simp; omega)
  clear hc1 hf1
  obtain ⟨hc2, hf2⟩ := bcell hb2
  have z2 := hb2.size
  simp at z2
  have l2 := hR2.lt
  go_wp2_with fail
  refine (pick_any _ g _ _ _ (by repeat' (first | (with_reducible assumption) | (with_reducible apply Rdr.alloc) | (with_reducible apply Rdr.drew) | omega)) (by omega) (by omega)).mono ?_; rintro e w3 ⟨x3, rfl, p3, _, q3, hR3, hg3⟩
  have q3 := q3 (by omega)
  have hb3 := below_some hb2 hg3 (by simp; omega)
  clear hc2 hf2
  obtain ⟨hc3, hf3⟩ := bcell hb3
  have z3 := hb3.size
  simp at z3
  have l3 := hR3.lt
  go_wp2_with fail
  refine (one_any _ g _ _ _ [1, 3, 5, 4, x3 - 20] _ (by repeat' (first | (with_reducible assumption) | (with_reducible apply Rdr.alloc) | (with_reducible apply Rdr.drew) | omega)) (by omega) (Rd_lit _ _ _ _ rfl) (blk_ne (by omega)) (by simp) (by simp)).mono ?_; rintro e w4 ⟨x4, rfl, p4, hR4, hg4⟩
  have p4 := mid_of p4 (by simp; try omega)
  have hb4 := below_some (hb3.al _) hg4 (by simp; omega)
  clear hc3 hf3
  obtain ⟨hc4, hf4⟩ := bcell hb4
  go_wp2_with fail
  refine bodyPost_ret (v := .tuple #[.agg #[.int .i64 a, .int .i64 b, .int .i64 c], .int .i64 x4]) (by simp [results, Try.results32, go_sem, hc4]) rfl ⟨_, _, _, _, rfl, ha, hb', hc', p4, (by (repeat' (first | (with_reducible exact Below.refl _ _) | (with_reducible assumption) | (with_reducible refine Below.setCell ?_ ?_ _) | (with_reducible refine Below.al ?_ _) | (with_reducible refine Below.drew ?_) | (with_reducible refine Below.drN ?_ _) | (with_reducible refine Below.step ?_ (by assumption)) | (with_reducible refine Below.alloc ?_ ?_ _))); all_goals (simp; try omega))⟩
end Go.Proofs.Ytipgopapohigpaa
