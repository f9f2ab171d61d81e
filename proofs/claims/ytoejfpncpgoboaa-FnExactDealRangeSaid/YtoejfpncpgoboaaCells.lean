/- A block of the call's own that holds a known row of values. No condition. -/
import Derived.Test.YtoejfpncpgoboaaRdr1
set_option linter.unusedVariables false
namespace Go.Proofs.Ytoejfpncpgoboaa
open Go.RowKit

/-- Block g holds the row cs, and may be written. -/
def Bx (w : World) (g : Nat) (cs : List Value) : Prop := ∃ t, w.heap[g]? = some (.cells cs.toArray t (0, 0))
section
variable {w w' : World} {g : Nat} {cs : List Value}
theorem Bx.lt (h : Bx w g cs) : g < w.heap.size := by
  obtain ⟨t, h⟩ := h
  rcases Nat.lt_or_ge g w.heap.size with hlt | hge
  · exact hlt
  · rw [Array.getElem?_eq_none hge] at h; cases h
theorem Bx.cell {v : Value} (h : Bx w g cs) (j : Nat) (hj : cs[j]? = some v) : w.cell? ⟨g, j, none⟩ = some v := by
  obtain ⟨t, h⟩ := h
  simp [World.cell?, h, hj]
theorem Bx.frz (h : Bx w g cs) (j : Nat) : w.frozen? ⟨g, j, none⟩ = false := by
  obtain ⟨t, h⟩ := h
  exact frozen_of_row w g j _ t h
theorem Bx.set (h : Bx w g cs) (j : Nat) (v : Value) : Bx (w.setCell ⟨g, j, none⟩ v) g (cs.set j v) := by
  obtain ⟨t, h⟩ := h
  refine ⟨t, ?_⟩
  rw [heap_setCell_same w g j _ t v h]
  simp
theorem Bx.other (h : Bx w g cs) {b o : Nat} (hb : b ≠ g) (v : Value) : Bx (w.setCell ⟨b, o, none⟩ v) g cs := by
  obtain ⟨t, h⟩ := h
  exact ⟨t, (Below.heap_setCell w ⟨b, o, none⟩ v g (Ne.symm hb)).trans h⟩
theorem Bx.grown {row : Option Nat} (h : Bx w g cs) (hg : w.grownBy w' row) (hne : some g ≠ row) : Bx w' g cs := by
  have hl := h.lt
  obtain ⟨t, h⟩ := h
  exact ⟨t, (hg.block g hl hne).trans h⟩
theorem Bx.below {B : Nat} (h : Bx w g cs) (hb : Below B w w') (hB : g < B) : Bx w' g cs := by
  obtain ⟨t, h⟩ := h
  exact ⟨t, (hb.block g hB).trans h⟩
theorem Bx.step (h : Bx w g cs) (hb : Below w.heap.size w w') : Bx w' g cs := h.below hb h.lt
theorem Bx.alloc (h : Bx w g cs) (o : Obj) : Bx (w.alloc o) g cs := h.step ((Below.refl _ _).alloc (Nat.le_refl _) o)
theorem Bx.drew (h : Bx w g cs) : Bx w.drew g cs := h
theorem Bx.new (w : World) (cs : List Value) (t : TypeId) : Bx (w.alloc (.cells cs.toArray t)) w.heap.size cs := ⟨t, heap_alloc_new w _⟩
theorem Bx.three {a b c : Value} (h : Bx w g [a, b, c]) : (w.cell? ⟨g, 0, none⟩ = some a ∧ w.cell? ⟨g, 1, none⟩ = some b ∧ w.cell? ⟨g, 2, none⟩ = some c) ∧ w.frozen? ⟨g, 0, none⟩ = false ∧ w.frozen? ⟨g, 1, none⟩ = false ∧ w.frozen? ⟨g, 2, none⟩ = false :=
  ⟨⟨h.cell 0 rfl, h.cell 1 rfl, h.cell 2 rfl⟩, h.frz _, h.frz _, h.frz _⟩
theorem Bx.two {a b : Value} (h : Bx w g [a, b]) : (w.cell? ⟨g, 0, none⟩ = some a ∧ w.cell? ⟨g, 1, none⟩ = some b) ∧ w.frozen? ⟨g, 0, none⟩ = false ∧ w.frozen? ⟨g, 1, none⟩ = false :=
  ⟨⟨h.cell 0 rfl, h.cell 1 rfl⟩, h.frz _, h.frz _⟩
theorem Bx.five {a b c d e : Value} (h : Bx w g [a, b, c, d, e]) : (w.cell? ⟨g, 0, none⟩ = some a ∧ w.cell? ⟨g, 1, none⟩ = some b ∧ w.cell? ⟨g, 2, none⟩ = some c ∧ w.cell? ⟨g, 3, none⟩ = some d ∧ w.cell? ⟨g, 4, none⟩ = some e) ∧ w.frozen? ⟨g, 0, none⟩ = false ∧ w.frozen? ⟨g, 1, none⟩ = false ∧ w.frozen? ⟨g, 2, none⟩ = false ∧ w.frozen? ⟨g, 3, none⟩ = false ∧ w.frozen? ⟨g, 4, none⟩ = false :=
  ⟨⟨h.cell 0 rfl, h.cell 1 rfl, h.cell 2 rfl, h.cell 3 rfl, h.cell 4 rfl⟩, h.frz _, h.frz _, h.frz _, h.frz _, h.frz _⟩
end
theorem grown_self (w : World) (row : Option Nat) : w.grownBy w row := ⟨rfl, rfl, rfl, Nat.le_refl _, fun _ _ _ => rfl⟩
theorem grown_nset {a w : World} {b o : Nat} {row : Option Nat} (h : a.grownBy w row) (hb : a.heap.size ≤ b) (v : Value) : a.grownBy (w.setCell ⟨b, o, none⟩ v) row :=
  ⟨h.os, h.tape, h.output, by simpa [World.setCell] using h.size, fun i hi hne => (Below.heap_setCell w ⟨b, o, none⟩ v i (by simp; omega)).trans (h.block i hi hne)⟩
end Go.Proofs.Ytoejfpncpgoboaa
