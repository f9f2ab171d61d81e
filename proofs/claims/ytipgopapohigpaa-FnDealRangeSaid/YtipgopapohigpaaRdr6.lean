/- What the generators of slices give. -/
import Derived.Test.YtipgopapohigpaaRdr4
import Derived.Test.YtipgopapohigpaaRdr5
set_option linter.unusedSimpArgs false
set_option linter.unusedVariables false
namespace Go.Proofs.Ytipgopapohigpaa
open Go.RowKit

set_option maxHeartbeats 1600000 in
theorem DrawValidSlice_any (A : Option Addr) (n : Nat) (bs : List Int) (w : World) (hr : Rd w w.heap.size .u8 A bs) (hl : bs.length ≤ maxLen) (hc : bs.length ≤ n) (hb : ∀ x ∈ bs, 0 ≤ x ∧ x ≤ 255) :
    Calls Try.prog 23 #[.slice A bs.length n] w fun e w' => ∃ f t b : Int, ∃ hf ht : Bool, e = .returned (.agg #[.int .i64 f, .int .i64 t, .int .i64 b, .bool hf, .bool ht]) ∧ Mid f ∧ Mid t ∧ Mid b ∧ Below w.heap.size w w' := by
  go_enter Try.func23, Try.ntmps23
  go_wp2_with fail
  refine (newReader_any A n bs _ ((hr.alloc (Nat.le_refl _) _).more (by simp)) hl hc hb).mono ?_; rintro e w1 ⟨g, rfl, hR1, hb1⟩
  obtain ⟨hc1, hf1⟩ := bcell hb1
  have g1 := hR1.ge
  have z1 := hb1.size
  simp at g1 z1
  go_wp2_with fail
  refine (someSlice_any _ g _ _ hR1 (by omega)).mono ?_; rintro e w2 ⟨f, t, b, hf, ht, rfl, mf, mt, mb, hR2, hg2⟩
  have hb2 := below_some hb1 hg2 (by simp; omega)
  clear hc1 hf1
  obtain ⟨hc2, hf2⟩ := bcell hb2
  go_wp2_with fail
  refine bodyPost_ret (v := .agg #[.int .i64 f, .int .i64 t, .int .i64 b, .bool hf, .bool ht]) (by simp [results, Try.results23, go_sem, hc2]) rfl ⟨_, _, _, _, _, rfl, mf, mt, mb, (by (repeat' (first | (with_reducible exact Below.refl _ _) | (with_reducible assumption) | (with_reducible refine Below.setCell ?_ ?_ _) | (with_reducible refine Below.al ?_ _) | (with_reducible refine Below.drew ?_) | (with_reducible refine Below.drN ?_ _) | (with_reducible refine Below.step ?_ (by assumption)) | (with_reducible refine Below.alloc ?_ ?_ _))); all_goals (simp; try omega))⟩

set_option maxHeartbeats 1600000 in
theorem DrawIndicesOf_any (A : Option Addr) (n : Nat) (bs : List Int) (w : World) (hr : Rd w w.heap.size .u8 A bs) (hl : bs.length ≤ maxLen) (hc : bs.length ≤ n) (hb : ∀ x ∈ bs, 0 ≤ x ∧ x ≤ 255) :
    Calls Try.prog 46 #[.slice A bs.length n] w fun e w' => ∃ i f t b : Int, ∃ hf ht : Bool, e = .returned (.tuple #[.int .i64 i, .agg #[.int .i64 f, .int .i64 t, .int .i64 b, .bool hf, .bool ht]]) ∧ Mid i ∧ Mid f ∧ Mid t ∧ Mid b ∧ Below w.heap.size w w' := by
  go_enter Try.func46, Try.ntmps46
  go_wp2_with fail
  refine (newReader_any A n bs _ ((hr.alloc (Nat.le_refl _) _).more (by simp)) hl hc hb).mono ?_; rintro e w1 ⟨g, rfl, hR1, hb1⟩
  obtain ⟨hc1, hf1⟩ := bcell hb1
  have g1 := hR1.ge
  have z1 := hb1.size
  simp at g1 z1
  go_wp2_with fail
  refine (pick_any _ g _ _ _ (by repeat' (first | (with_reducible assumption) | (with_reducible apply Rdr.alloc) | (with_reducible apply Rdr.drew) | omega)) (by omega) (by omega)).mono ?_; rintro e w2 ⟨x2, rfl, p2, _, q2, hR2, hg2⟩
  have q2 := q2 (by omega)
  have hb2 := below_some hb1 hg2 (by simp; omega)
  clear hc1 hf1
  obtain ⟨hc2, hf2⟩ := bcell hb2
  have z2 := hb2.size
  simp at z2
  have l2 := hR2.lt
  go_wp2_with fail
  refine (one_any _ g _ _ _ [6, 5, 10, x2, 0, 1, 60, 61, -1] _ (by repeat' (first | (with_reducible assumption) | (with_reducible apply Rdr.alloc) | (with_reducible apply Rdr.drew) | omega)) (by omega) (Rd_lit _ _ _ _ rfl) (blk_ne (by omega)) (by simp) (by simp)).mono ?_; rintro e w3 ⟨x3, rfl, p3, hR3, hg3⟩
  have p3 := mid_of p3 (by simp; try omega)
  have hb3 := below_some (hb2.al _) hg3 (by simp; omega)
  clear hc2 hf2
  obtain ⟨hc3, hf3⟩ := bcell hb3
  go_wp2_with fail
  refine (someSlice_any _ g _ _ hR3 (by omega)).mono ?_; rintro e w4 ⟨f, t, b, hf, ht, rfl, mf, mt, mb, hR4, hg4⟩
  have hb4 := below_some hb3 hg4 (by simp; omega)
  clear hc3 hf3
  obtain ⟨hc4, hf4⟩ := bcell hb4
  go_wp2_with fail
  refine bodyPost_ret (v := .tuple #[.int .i64 x3, .agg #[.int .i64 f, .int .i64 t, .int .i64 b, .bool hf, .bool ht]]) (by simp [results, Try.results46, go_sem, hc4]) rfl ⟨_, _, _, _, _, _, rfl, p3, mf, mt, mb, (by (repeat' (first | (with_reducible exact Below.refl _ _) | (with_reducible assumption) | (with_reducible refine Below.setCell ?_ ?_ _) | (with_reducible refine Below.al ?_ _) | (with_reducible refine Below.drew ?_) | (with_reducible refine Below.drN ?_ _) | (with_reducible refine Below.step ?_ (by assumption)) | (with_reducible refine Below.alloc ?_ ?_ _))); all_goals (simp; try omega))⟩

set_option maxHeartbeats 1600000 in
theorem DrawDealRange_any (A : Option Addr) (n : Nat) (bs : List Int) (w : World) (hr : Rd w w.heap.size .u8 A bs) (hl : bs.length ≤ maxLen) (hc : bs.length ≤ n) (hb : ∀ x ∈ bs, 0 ≤ x ∧ x ≤ 255) :
    Calls Try.prog 50 #[.slice A bs.length n] w fun e w' => ∃ a b c x : Int, e = .returned (.tuple #[.agg #[.int .i64 a, .int .i64 b, .int .i64 c], .int .i64 x]) ∧ (-300 ≤ a ∧ a ≤ 300) ∧ (-300 ≤ b ∧ b ≤ 300) ∧ (-300 ≤ c ∧ c ≤ 300) ∧ (-300 ≤ x ∧ x ≤ 300) ∧ Below w.heap.size w w' := by
  go_enter Try.func50, Try.ntmps50
  go_wp2_with fail
  refine (newReader_any A n bs _ ((hr.alloc (Nat.le_refl _) _).more (by simp)) hl hc hb).mono ?_; rintro e w1 ⟨g, rfl, hR1, hb1⟩
  obtain ⟨hc1, hf1⟩ := bcell hb1
  have g1 := hR1.ge
  have z1 := hb1.size
  simp at g1 z1
  go_wp2_with fail
  refine (someRange_any _ g _ _ hR1 (by omega)).mono ?_; rintro e w2 ⟨a, b, c, rfl, ha, hb', hc', hR2, hg2⟩
  have hb2 := below_some hb1 hg2 (by simp; omega)
  clear hc1 hf1
  obtain ⟨hc2, hf2⟩ := bcell hb2
  have z2 := hb2.size
  simp at z2
  have l2 := hR2.lt
  go_wp2_with fail
  refine (one_any _ g _ _ _ [2, 3, 1, 4, 6, 7, 0] _ (by repeat' (first | (with_reducible assumption) | (with_reducible apply Rdr.alloc) | (with_reducible apply Rdr.drew) | omega)) (by omega) (Rd_lit _ _ _ _ rfl) (blk_ne (by omega)) (by simp) (by simp)).mono ?_; rintro e w4 ⟨x4, rfl, p4, hR4, hg4⟩
  have p4 := mid_of p4 (by simp; try omega)
  have hb4 := below_some (hb2.al _) hg4 (by simp; omega)
  clear hc2 hf2
  obtain ⟨hc4, hf4⟩ := bcell hb4
  go_wp2_with fail
  refine bodyPost_ret (v := .tuple #[.agg #[.int .i64 a, .int .i64 b, .int .i64 c], .int .i64 x4]) (by simp [results, Try.results50, go_sem, hc4]) rfl ⟨_, _, _, _, rfl, ha, hb', hc', p4, (by (repeat' (first | (with_reducible exact Below.refl _ _) | (with_reducible assumption) | (with_reducible refine Below.setCell ?_ ?_ _) | (with_reducible refine Below.al ?_ _) | (with_reducible refine Below.drew ?_) | (with_reducible refine Below.drN ?_ _) | (with_reducible refine Below.step ?_ (by assumption)) | (with_reducible refine Below.alloc ?_ ?_ _))); all_goals (simp; try omega))⟩
end Go.Proofs.Ytipgopapohigpaa
