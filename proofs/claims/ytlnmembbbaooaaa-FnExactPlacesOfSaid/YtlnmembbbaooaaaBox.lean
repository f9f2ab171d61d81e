/- A struct of three cells in a variable. -/
import Derived.Test.YtlnmembbbaooaaaStep
set_option linter.unusedVariables false
namespace Go.Proofs.Ytlnmembbbaooaaa
open Go.RowKit
/-- Three cells in a variable. -/
def Bq (w : World) (g : Nat) (a b c : Value) : Prop := g < w.heap.size ∧ w.cell? ⟨g, 0, none⟩ = some a ∧ w.cell? ⟨g, 1, none⟩ = some b ∧ w.cell? ⟨g, 2, none⟩ = some c
theorem Bq.keep {w w' : World} {g : Nat} {a b c : Value} (h : Bq w g a b c) (hz : w.heap.size ≤ w'.heap.size) (hk : ∀ o, w'.cell? ⟨g, o, none⟩ = w.cell? ⟨g, o, none⟩) : Bq w' g a b c :=
  ⟨Nat.lt_of_lt_of_le h.1 hz, (hk 0).trans h.2.1, (hk 1).trans h.2.2.1, (hk 2).trans h.2.2.2⟩
theorem Bq.to {w w' : World} {g : Nat} {a b c : Value} (h : Bq w g a b c) (hb : Below w.heap.size w w') : Bq w' g a b c := h.keep hb.size fun o => hb.cell (p := ⟨g, o, none⟩) h.1
theorem Bq.lower {w w' : World} {g B : Nat} {a b c : Value} (h : Bq w g a b c) (hg : g < B) (hb : Below B w w') : Bq w' g a b c := h.keep hb.size fun o => hb.cell (p := ⟨g, o, none⟩) hg
theorem Bq.made (w : World) (a b c : Value) (T : TypeId) : Bq (w.alloc (.cells #[a, b, c] T)) w.heap.size a b c := ⟨by simp, by simp [go_sem], by simp [go_sem], by simp [go_sem]⟩
theorem Bq.far {w w' : World} {g : Nat} {a b c : Value} {row : Option Nat} (h : Bq w g a b c) (hg : w.grownBy w' row) (hne : some g ≠ row) : Bq w' g a b c :=
  h.keep hg.size fun o => hg.cell_far ⟨g, o, none⟩ h.1 hne
theorem blk_sep {w w' : World} {B B' c c' : Nat} {A A' : Option Addr} {xs ys : List Int} (h : Own w B A c xs) (h' : Own w' B' A' c' ys) (hB : w.heap.size ≤ B') : blk A' = none ∨ blk A' ≠ blk A := by
  rcases hb : blk A' with _ | k
  · exact .inl rfl
  · refine .inr fun e => ?_
    have h1 := (h'.ge _ hb).1
    have h2 := (h.ge _ e.symm).2
    omega
end Go.Proofs.Ytlnmembbbaooaaa
