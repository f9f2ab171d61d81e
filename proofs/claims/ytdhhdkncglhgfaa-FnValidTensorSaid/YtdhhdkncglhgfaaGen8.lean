/- The generator of tensors that may be invalid, and what the law draws of it. -/
import Derived.Test.YtdhhdkncglhgfaaGen7
set_option linter.unusedSimpArgs false
set_option linter.unusedVariables false
namespace Go.Proofs.Ytdhhdkncglhgfaa
open Go.RowKit

theorem Rd.setOther {w : World} {A : Option Addr} {xs : List Int} {g : Nat} (h : Rd w w.heap.size .i64 A xs) (hne : ∀ b, blk A = some b → b ≠ g) (j : Nat) (u : Value) : Rd (w.setCell ⟨g, j, none⟩ u) (w.setCell ⟨g, j, none⟩ u).heap.size .i64 A xs := fun i hi => by
  obtain ⟨a, e, hb, hc⟩ := h i hi
  refine ⟨a, e, by simpa using hb, ?_⟩
  have : a.block ≠ g := hne _ (by rw [e]; rfl)
  rw [World.cell?_setCell_other _ _ _ _ (by intro e2; apply this; rw [← addBlock a i, ← e2])]
  exact hc

set_option maxHeartbeats 6400000 in
theorem someTensor_any (B g k : Nat) (w : World) (h : Rdr w B g k) (hk : k ≤ 9000) :
    Calls Try.prog 86 #[.pointer (some ⟨g, 0, none⟩)] w fun e w' => ∃ A1 c1 xs A2 c2 vs, e = .returned (.agg #[.slice A1 xs.length c1, .slice A2 vs.length c2]) ∧ xs.length ≤ 5 ∧ vs.length ≤ 61 ∧ Rd w' w'.heap.size .i64 A1 xs ∧ Rd w' w'.heap.size .i64 A2 vs ∧ (∀ b, blk A1 = some b → w.heap.size ≤ b) ∧ (∀ b, blk A2 = some b → w.heap.size ≤ b) ∧ Rdr w' B g (k + 70) ∧ w.grownBy w' (some g) := by
  have hg := h.lt
  have hB := h.ge
  go_enter Try.func86, Try.ntmps86
  go_wp2_with fail
  have b0 := Bx.new w [.slice none 0 0, .slice none 0 0] 49
  refine (goodShape_any B g k _ (h.alloc _) (by omega)).mono ?_; rintro e w1 ⟨As, cs, xs, rfl, hG, ho1, hR1, hg1⟩
  have b1 := b0.grown hg1 (by simp; omega)
  have g1 : w.grownBy w1 (some g) := (by repeat' (first | (with_reducible exact grown_self _ _) | (with_reducible assumption) | (with_reducible refine grown_trans ?_ (by assumption)) | (with_reducible refine grown_alloc ?_ _) | (with_reducible refine grown_nset ?_ (by omega) _)))
  have hl := hG.1
  go_wp2_with fail
  refine (tensorFor_any B g _ As cs xs _ hR1 (by omega) ho1.rd hG).mono ?_; rintro e w2 ⟨A1, c1, A2, c2, vs, rfl, hv, o1, o2, hne, hR2, hg2⟩
  have b2 := b1.grown hg2 (by simp; omega)
  have g2 := grown_trans g1 hg2
  have z1 := g1.size
  have z2 := g2.size
  have zb := b1.lt
  have ha1 := o1.ge
  have ha2 := o2.ge
  have b2 := b2.alloc (.cells #[.slice A1 xs.length c1, .slice A2 vs.length c2] 49)
  have p1 := o1.alloc (.cells #[.slice A1 xs.length c1, .slice A2 vs.length c2] 49)
  have p2 := o2.alloc (.cells #[.slice A1 xs.length c1, .slice A2 vs.length c2] 49)
  have v2 := Bx.new w2 [.slice A1 xs.length c1, .slice A2 vs.length c2] 49
  have R2 := hR2.alloc (.cells #[.slice A1 xs.length c1, .slice A2 vs.length c2] 49)
  have g2 := grown_alloc g2 (.cells #[.slice A1 xs.length c1, .slice A2 vs.length c2] 49)
  obtain ⟨V, hV⟩ : ∃ V, V = w2.heap.size := ⟨_, rfl⟩
  have zv := b2.lt
  have zV : w.heap.size < V := by have := b1.lt; have := hg2.size; omega
  have zw : w1.heap.size ≤ V := by have := hg2.size; omega
  rw [← hV] at v2 ha1 ha2
  go_wp2_with fail
  refine (pick_any B g _ _ _ R2 (by omega) (by omega)).mono ?_; rintro e w3 ⟨x3, rfl, p3, _, q3, hR3, hg3⟩
  have b3 := b2.grown hg3 (by simp; omega)
  have v3 := v2.grown hg3 (by simp; omega)
  have r1 := p1.gr hg3 (by omega)
  have r2 := p2.gr hg3 (by omega)
  have g3 := grown_trans g2 hg3
  have z3 := v3.lt
  rw [← hV]
  clear hV b0 b1 b2 v2 p1 p2 g1 g2 o1 o2 hR1 hR2 R2 hg1 hg2 hg3 ho1 h
  have nV : V ≠ w.heap.size := by omega
  have HG := Lib.hid hG
  clear hG
  obtain ⟨⟨c0, c1'⟩, f0, f1⟩ := v3.two
  obtain ⟨⟨d0, d1⟩, e0, e1⟩ := b3.two
  have m1 : ∀ b, blk A1 = some b → w1.heap.size + 1 ≤ b ∧ b < V := ha1
  have m2 : ∀ b, blk A2 = some b → w1.heap.size + 1 ≤ b ∧ b < V := ha2
  by_cases k0 : x3 = 0
  · have K : ∀ w4 : World, (w3.alloc (.cells #[.int .i64 1] 3)).grownBy w4 (Value.slice A2 vs.length c2).ownBlock → Below (w1.heap.size + 1) (w3.alloc (.cells #[.int .i64 1] 3)) w4 → Bx w4 V [.slice A1 xs.length c1, .slice A2 vs.length c2] ∧ Bx w4 w.heap.size [.slice none 0 0, .slice none 0 0] ∧ Own w4 (w1.heap.size + 1) A1 c1 xs ∧ Rdr w4 B g (k + 70) ∧ w.grownBy w4 (some g) := by
      intro w4 hg4 hb4
      rw [ownBlock_slice] at hg4
      refine ⟨(v3.alloc _).grown hg4 ?_, (b3.alloc _).below hb4 (by omega), (r1.alloc _).kept hg4 ?_, (((hR3.alloc _).app hb4 (by omega) (by omega))).le (by omega), grown_app (grown_alloc g3 _) hb4 (by omega)⟩
      · intro e
        have := m2 V e.symm
        omega
      · rcases e : blk A1 with _ | j
        · exact .inl rfl
        · refine .inr fun e2 => ?_
          exact hne j e e2
    go_wp2_with (at_builtin; refine wpList_app1 _ rfl (.tmp 13) (.tmp 14) (by rfl) (w1.heap.size + 1) A2 c2 vs.length vs (by rfl) rfl (r2.alloc _) w3.heap.size 1 1 (by rfl) (by simp) (by omega) (by simp; omega) ?_; intro A4 c4 w4 ho4 hb4 hg4; obtain ⟨v4, b4, r4, R4, g4⟩ := K w4 hg4 hb4; have z4 := v4.lt; clear c0 c1' f0 f1 d0 d1 e0 e1; obtain ⟨⟨c0, c1'⟩, f0, f1⟩ := v4.two; obtain ⟨⟨d0, d1⟩, e0, e1⟩ := b4.two)
    have hA4 : ∀ b, blk A4 = some b → b ≠ V := fun b e e3 => by
      obtain ⟨ga, y, e2, _, _, hc, _⟩ := ho4.at_ (j := 0) (by simp)
      rw [e2] at e
      simp [blk] at e
      rw [e, e3, c0] at hc
      simp at hc
    refine bodyPost_ret (v := .agg #[.slice A1 xs.length c1, .slice A4 (vs.length + 1) c4]) (by simp [results, Try.results86, go_sem, World.cell?_setCell_other, nV, Ne.symm nV, c0, c1', d0, d1]) rfl ⟨A1, c1, xs, A4, c4, vs ++ [1], by simp, by omega, by simp; omega, (((r4.setK (fun j e => by have := m1 j e; omega)).setO (by omega) _ _).setO (by omega) _ _).rd, (((ho4.setK hA4).setO (by omega) _ _).setO (by omega) _ _).rd, (fun b e => by have := m1 b e; omega), (fun b e => by have := ho4.ge b e; omega), Rdr.le (by repeat' (first | (with_reducible assumption) | (with_reducible apply Rdr.alloc) | (with_reducible apply Rdr.drew) | (with_reducible apply Rdr.set) | omega)) (by omega), (by repeat' (first | (with_reducible exact grown_self _ _) | (with_reducible assumption) | (with_reducible refine grown_trans ?_ (by assumption)) | (with_reducible refine grown_alloc ?_ _) | (with_reducible refine grown_nset ?_ (by omega) _)))⟩
  by_cases k1 : x3 = 1
  · have K : ∀ w4 : World, (w3.alloc (.cells #[.int .i64 (-1)] 3)).grownBy w4 (Value.slice A1 xs.length c1).ownBlock → Below (w1.heap.size + 1) (w3.alloc (.cells #[.int .i64 (-1)] 3)) w4 → Bx w4 V [.slice A1 xs.length c1, .slice A2 vs.length c2] ∧ Bx w4 w.heap.size [.slice none 0 0, .slice none 0 0] ∧ Own w4 (w1.heap.size + 1) A2 c2 vs ∧ Rdr w4 B g (k + 70) ∧ w.grownBy w4 (some g) := by
      intro w4 hg4 hb4
      rw [ownBlock_slice] at hg4
      refine ⟨(v3.alloc _).grown hg4 ?_, (b3.alloc _).below hb4 (by omega), (r2.alloc _).kept hg4 ?_, (((hR3.alloc _).app hb4 (by omega) (by omega))).le (by omega), grown_app (grown_alloc g3 _) hb4 (by omega)⟩
      · intro e
        have := m1 V e.symm
        omega
      · rcases e : blk A2 with _ | j
        · exact .inl rfl
        · refine .inr fun e2 => ?_
          exact hne j e2.symm e.symm
    go_wp2_with (at_builtin; refine wpList_app1 _ rfl (.tmp 20) (.tmp 21) (by rfl) (w1.heap.size + 1) A1 c1 xs.length xs (by rfl) rfl (r1.alloc _) w3.heap.size 1 (-1) (by rfl) (by simp) (by omega) (by simp; omega) ?_; intro A4 c4 w4 ho4 hb4 hg4; obtain ⟨v4, b4, r4, R4, g4⟩ := K w4 hg4 hb4; have z4 := v4.lt; clear c0 c1' f0 f1 d0 d1 e0 e1; obtain ⟨⟨c0, c1'⟩, f0, f1⟩ := v4.two; obtain ⟨⟨d0, d1⟩, e0, e1⟩ := b4.two)
    have hA4 : ∀ b, blk A4 = some b → b ≠ V := fun b e e3 => by
      obtain ⟨ga, y, e2, _, _, hc, _⟩ := ho4.at_ (j := 0) (by simp)
      rw [e2] at e
      simp [blk] at e
      rw [e, e3, c0] at hc
      simp at hc
    refine bodyPost_ret (v := .agg #[.slice A4 (xs.length + 1) c4, .slice A2 vs.length c2]) (by simp [results, Try.results86, go_sem, World.cell?_setCell_other, nV, Ne.symm nV, c0, c1', d0, d1]) rfl ⟨A4, c4, xs ++ [-1], A2, c2, vs, by simp, by simp; omega, by omega, (((ho4.setK hA4).setO (by omega) _ _).setO (by omega) _ _).rd, (((r4.setK (fun j e => by have := m2 j e; omega)).setO (by omega) _ _).setO (by omega) _ _).rd, (fun b e => by have := ho4.ge b e; omega), (fun b e => by have := m2 b e; omega), Rdr.le (by repeat' (first | (with_reducible assumption) | (with_reducible apply Rdr.alloc) | (with_reducible apply Rdr.drew) | (with_reducible apply Rdr.set) | omega)) (by omega), (by repeat' (first | (with_reducible exact grown_self _ _) | (with_reducible assumption) | (with_reducible refine grown_trans ?_ (by assumption)) | (with_reducible refine grown_alloc ?_ _) | (with_reducible refine grown_nset ?_ (by omega) _)))⟩
  · go_wp2_with fail
    refine bodyPost_ret (v := .agg #[.slice A1 xs.length c1, .slice A2 vs.length c2]) (by simp [results, Try.results86, go_sem, World.cell?_setCell_other, nV, Ne.symm nV, c0, c1', d0, d1]) rfl ⟨A1, c1, xs, A2, c2, vs, rfl, by omega, by omega, ((r1.setO (by omega) _ _).setO (by omega) _ _).rd, ((r2.setO (by omega) _ _).setO (by omega) _ _).rd, (fun b e => by have := m1 b e; omega), (fun b e => by have := m2 b e; omega), Rdr.le (by repeat' (first | (with_reducible assumption) | (with_reducible apply Rdr.alloc) | (with_reducible apply Rdr.drew) | (with_reducible apply Rdr.set) | omega)) (by omega), (by repeat' (first | (with_reducible exact grown_self _ _) | (with_reducible assumption) | (with_reducible refine grown_trans ?_ (by assumption)) | (with_reducible refine grown_alloc ?_ _) | (with_reducible refine grown_nset ?_ (by omega) _)))⟩
end Go.Proofs.Ytdhhdkncglhgfaa
