/- The generator of slices. -/
import Derived.Test.YtipgopapohigpaaRdr3
import Derived.Test.YtipgopapohigpaaCells
import Derived.Deep.DeepCutAuto
set_option linter.unusedSimpArgs false
set_option linter.unusedVariables false
namespace Go.Proofs.Ytipgopapohigpaa
open Go.RowKit

theorem Rd_litN (w : World) (n : Nat) (hn : n = w.heap.size) (xs : List Int) (t : TypeId) (cs : Array Value) (h : cs = (xs.map (Value.int .i64)).toArray) : Rd (w.alloc (.cells cs t)) (w.alloc (.cells cs t)).heap.size .i64 (some ⟨n, 0, none⟩) xs := by
  subst hn; exact Rd_lit w xs t cs h
def SlSt (w : World) (B g R V k : Nat) (wc : World) : Prop :=
  ∃ f t b : Int, ∃ hf ht : Bool, Bx wc V [.int .i64 f, .int .i64 t, .int .i64 b, .bool hf, .bool ht] ∧ Bx wc R [.int .i64 0, .int .i64 0, .int .i64 0, .bool false, .bool false] ∧ Mid f ∧ Mid t ∧ Mid b ∧ Rdr wc B g k ∧ w.grownBy wc (some g) ∧ (w.heap.size ≤ R ∧ R < V ∧ g < R)

set_option maxHeartbeats 400000 in
theorem someSlice_any (B g k : Nat) (w : World) (h : Rdr w B g k) (hk : k ≤ 10000) :
    Calls Try.prog 65 #[.pointer (some ⟨g, 0, none⟩)] w fun e w' => ∃ f t b : Int, ∃ hf ht : Bool, e = .returned (.agg #[.int .i64 f, .int .i64 t, .int .i64 b, .bool hf, .bool ht]) ∧ Mid f ∧ Mid t ∧ Mid b ∧ Rdr w' B g (k + 12) ∧ w.grownBy w' (some g) := by
  have hg := h.lt
  have hB := h.ge
  go_enter Try.func65, Try.ntmps65
  go_wp2_with fail
  have b0 := Bx.new w [.int .i64 0, .int .i64 0, .int .i64 0, .bool false, .bool false] 34
  refine (one_any B g _ _ _ [1, 2, -1, 3, -2, 1, 5] _ (by repeat' (first | (with_reducible assumption) | (with_reducible apply Rdr.alloc) | (with_reducible apply Rdr.drew) | (with_reducible apply Rdr.set) | omega)) (by omega) (Rd_litN _ _ (by simp) _ _ _ rfl) (blk_ne (by omega)) (by simp) (by simp)).mono ?_; rintro e w1 ⟨x1, rfl, p1, hR1, hg1⟩
  have p1 := mid_of p1 (by simp; try omega)
  have z1 := hg1.size
  simp at z1
  have b1 := (b0.alloc _).grown hg1 (by simp; omega)
  have v1 := Bx.new w1 [.int .i64 0, .int .i64 0, .int .i64 x1, .bool false, .bool false] 34
  have g1 : w.grownBy w1 (some g) := (by repeat' (first | (with_reducible exact grown_self _ _) | (with_reducible assumption) | (with_reducible refine grown_trans ?_ (by assumption)) | (with_reducible refine grown_alloc ?_ _) | (with_reducible refine grown_nset ?_ (by omega) _)))
  go_wp2_with fail
  refine (pick_any B g _ _ _ (by repeat' (first | (with_reducible assumption) | (with_reducible apply Rdr.alloc) | (with_reducible apply Rdr.drew) | (with_reducible apply Rdr.set) | omega)) (by omega) (by omega)).mono ?_; rintro e w2 ⟨x2, rfl, p2, _, q2, hR2, hg2⟩
  have q2 := q2 (by omega)
  have z2 := hg2.size
  simp at z2
  have hg' : g < w1.heap.size := hR1.lt
  have b2 := (b1.alloc _).grown hg2 (by simp; omega)
  have v2 := v1.grown hg2 (by simp; omega)
  have g2 : w.grownBy w2 (some g) := grown_trans (grown_alloc g1 _) hg2
  obtain ⟨V, hV⟩ : ∃ V, V = w1.heap.size := ⟨_, rfl⟩
  rw [← hV] at v2 z1 z2 hg' ⊢
  clear hV b0 b1 v1 hg1 hR1 hg2 g1
  go_upto_if 10 with fail
  go_cut [] (fun wc => SlSt w B g w.heap.size V (k + 5) wc)
  case first =>
    by_cases hx : x2 = 0
    · obtain ⟨⟨c0, c1, c2, c3, c4⟩, f0, f1, f2, f3, f4⟩ := v2.five
      go_wp2_with fail
      refine (pick_any B g _ _ _ (by repeat' (first | (with_reducible assumption) | (with_reducible apply Rdr.alloc) | (with_reducible apply Rdr.drew) | (with_reducible apply Rdr.set) | omega)) (by omega) (by omega)).mono ?_; rintro e w3 ⟨x3, rfl, p3, _, q3, hR3, hg3⟩
      have q3 := q3 (by omega)
      have z3 := hg3.size
      simp at z3
      have b3 := (b2.other (b := V) (by omega) _).grown hg3 (by simp; omega)
      have v3 := (v2.set 3 (.bool true)).grown hg3 (by simp; omega)
      have g3 : w.grownBy w3 (some g) := grown_trans (grown_nset g2 (by omega) _) hg3
      clear hR2 c0 c1 c2 c3 c4 f0 f1 f2 f3 f4
      go_wp2_with fail
      refine (one_any B g _ _ _ [1, 2, 0, -1, -3, x3, 30, -30] _ (by repeat' (first | (with_reducible assumption) | (with_reducible apply Rdr.alloc) | (with_reducible apply Rdr.drew) | (with_reducible apply Rdr.set) | omega)) (by omega) (Rd_litN _ _ (by simp) _ _ _ rfl) (blk_ne (by omega)) (by simp) (by simp)).mono ?_; rintro e w4 ⟨x4, rfl, p4, hR4, hg4⟩
      have p4 := mid_of p4 (by simp; try omega)
      have z4 := hg4.size
      simp at z4
      have b4 := (b3.alloc _).grown hg4 (by simp; omega)
      have v4 := (v3.alloc _).grown hg4 (by simp; omega)
      simp only [List.set_cons_zero, List.set_cons_succ] at v4
      have g4 : w.grownBy w4 (some g) := grown_trans (grown_alloc g3 _) hg4
      obtain ⟨⟨c0, c1, c2, c3, c4⟩, f0, f1, f2, f3, f4⟩ := v4.five
      go_wp2_with fail
      go_meet
      refine ⟨_, _, _, _, _, v4.set 0 _, b4.other (by omega) _, ?_, ?_, ?_, hR4.set (by omega) (by omega) _ |>.le (by omega), grown_nset g4 (by omega) _, by omega, by omega, by omega⟩ <;> (first | assumption | (unfold Mid; omega))
    · go_wp2_with fail
      go_meet
      exact ⟨_, _, _, _, _, v2, b2, by unfold Mid; omega, by unfold Mid; omega, by unfold Mid; omega, hR2.le (by omega), g2, by omega, by omega, by omega⟩
  case rest =>
    clear v2 b2 g2 hR2 h
    obtain ⟨f, t, b, hf, ht, v5, b5, mf, mt, mb, hR5, g5, o1, o2, o3⟩ := hcut
    have z5 := hR5.lt
    have z5' := v5.lt
    have z5'' := g5.size
    go_wp2_with fail
    refine (pick_any B g _ _ _ (by repeat' (first | (with_reducible assumption) | (with_reducible apply Rdr.alloc) | (with_reducible apply Rdr.drew) | (with_reducible apply Rdr.set) | omega)) (by omega) (by omega)).mono ?_; rintro e w6 ⟨x6, rfl, p6, _, q6, hR6, hg6⟩
    have q6 := q6 (by omega)
    have z6 := hg6.size
    have b6 := b5.grown hg6 (by simp; omega)
    have v6 := v5.grown hg6 (by simp; omega)
    have g6 : w.grownBy w6 (some g) := grown_trans g5 hg6
    clear hR5 v5 b5 g5
    go_upto_if 20 with fail
    go_cut [] (fun wc => SlSt w B g w.heap.size V (k + 8) wc)
    case first =>
      by_cases hx : x6 = 0
      · obtain ⟨⟨c0, c1, c2, c3, c4⟩, f0, f1, f2, f3, f4⟩ := v6.five
        go_wp2_with fail
        refine (pick_any B g _ _ _ (by repeat' (first | (with_reducible assumption) | (with_reducible apply Rdr.alloc) | (with_reducible apply Rdr.drew) | (with_reducible apply Rdr.set) | omega)) (by omega) (by omega)).mono ?_; rintro e w7 ⟨x7, rfl, p7, _, q7, hR7, hg7⟩
        have q7 := q7 (by omega)
        have z7 := hg7.size
        simp at z7
        have b7 := (b6.other (b := V) (by omega) _).grown hg7 (by simp; omega)
        have v7 := (v6.set 4 (.bool true)).grown hg7 (by simp; omega)
        have g7 : w.grownBy w7 (some g) := grown_trans (grown_nset g6 (by omega) _) hg7
        clear hR6 c0 c1 c2 c3 c4 f0 f1 f2 f3 f4
        go_wp2_with fail
        refine (one_any B g _ _ _ [4, 3, -1, -2, 0, x7, 30, -30] _ (by repeat' (first | (with_reducible assumption) | (with_reducible apply Rdr.alloc) | (with_reducible apply Rdr.drew) | (with_reducible apply Rdr.set) | omega)) (by omega) (Rd_litN _ _ (by simp) _ _ _ rfl) (blk_ne (by omega)) (by simp) (by simp)).mono ?_; rintro e w8 ⟨x8, rfl, p8, hR8, hg8⟩
        have p8 := mid_of p8 (by simp; try omega)
        have z8 := hg8.size
        simp at z8
        have b8 := (b7.alloc _).grown hg8 (by simp; omega)
        have v8 := (v7.alloc _).grown hg8 (by simp; omega)
        simp only [List.set_cons_zero, List.set_cons_succ] at v8
        have g8 : w.grownBy w8 (some g) := grown_trans (grown_alloc g7 _) hg8
        obtain ⟨⟨c0, c1, c2, c3, c4⟩, f0, f1, f2, f3, f4⟩ := v8.five
        go_wp2_with fail
        go_meet
        refine ⟨_, _, _, _, _, v8.set 1 _, b8.other (by omega) _, ?_, ?_, ?_, hR8.set (by omega) (by omega) _ |>.le (by omega), grown_nset g8 (by omega) _, by omega, by omega, by omega⟩ <;> (first | assumption | (unfold Mid; omega))
      · go_wp2_with fail
        go_meet
        exact ⟨_, _, _, _, _, v6, b6, mf, mt, mb, hR6.le (by omega), g6, by omega, by omega, by omega⟩
    case rest =>
      clear v6 b6 g6 hR6 mf mt mb
      obtain ⟨f, t, b, hf, ht, v5, b5, mf, mt, mb, hR5, g5, o1, o2, o3⟩ := hcut
      have z5 := hR5.lt
      have z5' := v5.lt
      have z5'' := g5.size
      go_wp2_with fail
      refine (pick_any B g _ _ _ (by repeat' (first | (with_reducible assumption) | (with_reducible apply Rdr.alloc) | (with_reducible apply Rdr.drew) | (with_reducible apply Rdr.set) | omega)) (by omega) (by omega)).mono ?_; rintro e w7 ⟨x7, rfl, p7, _, q7, hR7, hg7⟩
      have q7 := q7 (by omega)
      have z7 := hg7.size
      have b7 := b5.grown hg7 (by simp; omega)
      have v7 := v5.grown hg7 (by simp; omega)
      have g7 : w.grownBy w7 (some g) := grown_trans g5 hg7
      clear hR5 v5 b5 g5
      have nV : V ≠ w.heap.size := by omega
      obtain ⟨⟨c0, c1, c2, c3, c4⟩, f0, f1, f2, f3, f4⟩ := v7.five
      obtain ⟨⟨d0, d1, d2, d3, d4⟩, e0, e1, e2, e3, e4⟩ := b7.five
      by_cases k0 : x7 = 0
      · go_wp2_with fail
        refine (one_any B g _ _ _ [0, 201] _ (by repeat' (first | (with_reducible assumption) | (with_reducible apply Rdr.alloc) | (with_reducible apply Rdr.drew) | (with_reducible apply Rdr.set) | omega)) (by omega) (Rd_litN _ _ (by simp) _ _ _ rfl) (blk_ne (by omega)) (by simp) (by simp)).mono ?_; rintro e w8 ⟨x8, rfl, p8, hR8, hg8⟩
        have p8 := mid_of p8 (by simp; try omega)
        have z8 := hg8.size
        simp at z8
        have b8 := (b7.alloc _).grown hg8 (by simp; omega)
        have v8 := (v7.alloc _).grown hg8 (by simp; omega)
        have g8 : w.grownBy w8 (some g) := grown_trans (grown_alloc g7 _) hg8
        clear hR7 v7 b7 g7 c0 c1 c2 c3 c4 f0 f1 f2 f3 f4 d0 d1 d2 d3 d4 e0 e1 e2 e3 e4
        obtain ⟨⟨c0, c1, c2, c3, c4⟩, f0, f1, f2, f3, f4⟩ := v8.five
        obtain ⟨⟨d0, d1, d2, d3, d4⟩, e0, e1, e2, e3, e4⟩ := b8.five
        go_wp2_with fail
        refine bodyPost_ret (v := .agg #[.int .i64 f, .int .i64 t, .int .i64 x8, .bool hf, .bool ht]) (by simp [results, Try.results65, go_sem, World.cell?_setCell_other, nV, Ne.symm nV, c0, c1, c2, c3, c4, d0, d1, d2, d3, d4]) rfl ⟨_, _, _, _, _, rfl, mf, mt, p8, Rdr.le (by repeat' (first | (with_reducible assumption) | (with_reducible apply Rdr.alloc) | (with_reducible apply Rdr.drew) | (with_reducible apply Rdr.set) | omega)) (by omega), (by repeat' (first | (with_reducible exact grown_self _ _) | (with_reducible assumption) | (with_reducible refine grown_trans ?_ (by assumption)) | (with_reducible refine grown_alloc ?_ _) | (with_reducible refine grown_nset ?_ (by omega) _)))⟩
      by_cases k1 : x7 = 1
      · go_wp2_with fail
        refine bodyPost_ret (v := .agg #[.int .i64 101, .int .i64 t, .int .i64 b, .bool hf, .bool ht]) (by simp [results, Try.results65, go_sem, World.cell?_setCell_other, nV, Ne.symm nV, c0, c1, c2, c3, c4, d0, d1, d2, d3, d4]) rfl ⟨_, _, _, _, _, rfl, (by unfold Mid; omega), mt, mb, Rdr.le (by repeat' (first | (with_reducible assumption) | (with_reducible apply Rdr.alloc) | (with_reducible apply Rdr.drew) | (with_reducible apply Rdr.set) | omega)) (by omega), (by repeat' (first | (with_reducible exact grown_self _ _) | (with_reducible assumption) | (with_reducible refine grown_trans ?_ (by assumption)) | (with_reducible refine grown_alloc ?_ _) | (with_reducible refine grown_nset ?_ (by omega) _)))⟩
      by_cases k2 : x7 = 2
      · go_wp2_with fail
        refine (one_any B g _ _ _ [1, -101] _ (by repeat' (first | (with_reducible assumption) | (with_reducible apply Rdr.alloc) | (with_reducible apply Rdr.drew) | (with_reducible apply Rdr.set) | omega)) (by omega) (Rd_litN _ _ (by simp) _ _ _ rfl) (blk_ne (by omega)) (by simp) (by simp)).mono ?_; rintro e w8 ⟨x8, rfl, p8, hR8, hg8⟩
        have p8 := mid_of p8 (by simp; try omega)
        have z8 := hg8.size
        simp at z8
        have b8 := (b7.alloc _).grown hg8 (by simp; omega)
        have v8 := (v7.alloc _).grown hg8 (by simp; omega)
        have g8 : w.grownBy w8 (some g) := grown_trans (grown_alloc g7 _) hg8
        clear hR7 v7 b7 g7 c0 c1 c2 c3 c4 f0 f1 f2 f3 f4 d0 d1 d2 d3 d4 e0 e1 e2 e3 e4
        obtain ⟨⟨c0, c1, c2, c3, c4⟩, f0, f1, f2, f3, f4⟩ := v8.five
        obtain ⟨⟨d0, d1, d2, d3, d4⟩, e0, e1, e2, e3, e4⟩ := b8.five
        go_wp2_with fail
        refine bodyPost_ret (v := .agg #[.int .i64 f, .int .i64 x8, .int .i64 b, .bool hf, .bool ht]) (by simp [results, Try.results65, go_sem, World.cell?_setCell_other, nV, Ne.symm nV, c0, c1, c2, c3, c4, d0, d1, d2, d3, d4]) rfl ⟨_, _, _, _, _, rfl, mf, p8, mb, Rdr.le (by repeat' (first | (with_reducible assumption) | (with_reducible apply Rdr.alloc) | (with_reducible apply Rdr.drew) | (with_reducible apply Rdr.set) | omega)) (by omega), (by repeat' (first | (with_reducible exact grown_self _ _) | (with_reducible assumption) | (with_reducible refine grown_trans ?_ (by assumption)) | (with_reducible refine grown_alloc ?_ _) | (with_reducible refine grown_nset ?_ (by omega) _)))⟩
      · go_wp2_with fail
        refine bodyPost_ret (v := .agg #[.int .i64 f, .int .i64 t, .int .i64 b, .bool hf, .bool ht]) (by simp [results, Try.results65, go_sem, World.cell?_setCell_other, nV, Ne.symm nV, c0, c1, c2, c3, c4, d0, d1, d2, d3, d4]) rfl ⟨_, _, _, _, _, rfl, mf, mt, mb, Rdr.le (by repeat' (first | (with_reducible assumption) | (with_reducible apply Rdr.alloc) | (with_reducible apply Rdr.drew) | (with_reducible apply Rdr.set) | omega)) (by omega), (by repeat' (first | (with_reducible exact grown_self _ _) | (with_reducible assumption) | (with_reducible refine grown_trans ?_ (by assumption)) | (with_reducible refine grown_alloc ?_ _) | (with_reducible refine grown_nset ?_ (by omega) _)))⟩
end Go.Proofs.Ytipgopapohigpaa
