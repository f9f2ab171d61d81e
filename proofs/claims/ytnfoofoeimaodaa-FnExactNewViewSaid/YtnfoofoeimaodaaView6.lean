/- The walks over views: marks. -/
import Derived.Test.YtnfoofoeimaodaaView5
set_option linter.unusedVariables false
namespace Go.Proofs.Ytnfoofoeimaodaa
open Go.RowKit
def Marked (w : World) (B : Nat) (A A' : Option Addr) (c c' n n' : Nat) (m : Int) (e : Ending) (w' : World) : Prop :=
  e = .returned (.int .i64 (m + (n : Int) + (n' : Int))) ∧ Own w' B A c (upF m n) ∧ Own w' B A' c' (upF (m + (n : Int)) n') ∧ Below B w w' ∧
    ∀ g o, g < w.heap.size → some g ≠ blk A → some g ≠ blk A' → w'.cell? ⟨g, o, none⟩ = w.cell? ⟨g, o, none⟩
set_option maxHeartbeats 1600000 in
theorem markView_any (b : Int) (A A' : Option Addr) (c c' B : Nat) (xs vs : List Int) (m : Int) (w : World) (hown : Own w B A c xs) (hown' : Own w B A' c' vs) (hd : blk A' = none ∨ blk A' ≠ blk A) (hl : xs.length ≤ 100000000) (hl' : vs.length ≤ 100000000) (hm : 0 ≤ m) (hm' : m ≤ 1000000000) (hB : B ≤ w.heap.size) :
    Calls Try.prog 50 #[.agg #[.int .i64 b, .slice A xs.length c, .slice A' vs.length c'], .int .i64 m] w (Marked w B A A' c c' xs.length vs.length m) := by
  have hge := hown.ge
  have hge' := hown'.ge
  go_enter Try.func50, Try.ntmps50
  go_wp2_with fail
  refine (markIntS_any _ _ _ _ _ _ (hown.alloc _) (by omega) hm (by omega)).mono ?_; rintro e w1 ⟨rfl, ho1, hg1⟩
  have z1 := hg1.size
  simp at z1
  have hne : some w.heap.size ≠ blk A := by intro h; have := (hge _ h.symm).2; omega
  have hne' : some w.heap.size ≠ blk A' := by intro h; have := (hge' _ h.symm).2; omega
  have hc1 := fun o => hg1.cell_far ⟨w.heap.size, o, none⟩ (by simp) hne
  have q1 := (hown'.alloc (.cells #[.int .i64 b, .slice A xs.length c, .slice A' vs.length c'] 31)).kept hg1 hd
  go_wp2_with fail
  refine (markIntS_any _ _ _ _ _ _ q1 (by omega) (by omega) (by omega)).mono ?_; rintro e w2 ⟨rfl, ho2, hg2⟩
  have hd2 : blk A = none ∨ blk A ≠ blk A' := by
    rcases hd with h | h
    · rw [h]; rcases h0 : blk A with _ | k
      · exact .inl rfl
      · exact .inr (by simp)
    · exact .inr h.symm
  have o2 := ho1.kept hg2 hd2
  go_wp2_with fail
  go_ret
  refine ⟨rfl, o2, ho2, ?_, ?_⟩
  · have b1 := below_of_grown (B := B) hg1 (by simp; omega) (fun k hk => (hge k hk).1)
    have b2 := below_of_grown (B := B) hg2 (by omega) (fun k hk => (hge' k hk).1)
    exact (((Below.refl _ _).alloc hB _).trans b1).trans b2
  · intro g o hg h1 h2
    rw [hg2.cell_far ⟨g, o, none⟩ (by simp; omega) h2, hg1.cell_far ⟨g, o, none⟩ (by simp; omega) h1, World.cell?_alloc_lt _ _ _ hg]
set_option maxHeartbeats 1600000 in
theorem heldView_any (b : Int) (A A' : Option Addr) (c c' n n' : Nat) (m : Int) (w : World) (hr : Rd w w.heap.size .i64 A (upF m n)) (hr' : Rd w w.heap.size .i64 A' (upF (m + (n : Int)) n')) (hl : n ≤ 100000000) (hl' : n' ≤ 100000000) (hm : 0 ≤ m) (hm' : m ≤ 1000000000) :
    Calls Try.prog 51 #[.agg #[.int .i64 b, .slice A n c, .slice A' n' c'], .int .i64 m] w (Ret w (.int .i64 (m + (n : Int) + (n' : Int)))) := by
  have hp : ¬ (m + (n : Int) < 0) := by omega
  have hp' : ¬ (m + (n : Int) + (n' : Int) < 0) := by omega
  go_enter Try.func51, Try.ntmps51
  go_wp2_with fail
  refine (heldIntS_any _ _ _ _ _ _ (hr.alloc (Nat.le_refl _) _) (by omega) hm (by omega)).mono ?_; rintro e w1 ⟨rfl, rfl⟩
  go_wp2_with fail
  refine (heldIntS_any _ _ _ _ _ _ (hr'.alloc (Nat.le_refl _) _) (by omega) (by omega) (by omega)).mono ?_; rintro e w2 ⟨rfl, rfl⟩
  go_wp2_with fail
  go_ret
  exact ⟨rfl, (by (repeat' (first | (with_reducible exact Below.refl _ _) | (with_reducible assumption) | (with_reducible refine Below.setCell ?_ ?_ _) | (with_reducible refine Below.al ?_ _) | (with_reducible refine Below.drew ?_) | (with_reducible refine Below.drN ?_ _) | (with_reducible refine Below.step ?_ (by assumption)) | (with_reducible refine Below.alloc ?_ ?_ _))); all_goals (simp; try omega))⟩

/-- A view in a variable. -/
def Bx (w : World) (g : Nat) (S : Value × Value × Value) : Prop := g < w.heap.size ∧ w.cell? ⟨g, 0, none⟩ = some S.1 ∧ w.cell? ⟨g, 1, none⟩ = some S.2.1 ∧ w.cell? ⟨g, 2, none⟩ = some S.2.2
theorem Bx.keep {w w' : World} {g : Nat} {S : Value × Value × Value} (h : Bx w g S) (hz : w.heap.size ≤ w'.heap.size) (hk : ∀ o, w'.cell? ⟨g, o, none⟩ = w.cell? ⟨g, o, none⟩) : Bx w' g S :=
  ⟨Nat.lt_of_lt_of_le h.1 hz, (hk 0).trans h.2.1, (hk 1).trans h.2.2.1, (hk 2).trans h.2.2.2⟩
theorem Bx.to {w w' : World} {g : Nat} {S : Value × Value × Value} (h : Bx w g S) (hb : Below w.heap.size w w') : Bx w' g S := h.keep hb.size fun o => hb.cell (p := ⟨g, o, none⟩) h.1
theorem Bx.lower {w w' : World} {g B : Nat} {S : Value × Value × Value} (h : Bx w g S) (hg : g < B) (hb : Below B w w') : Bx w' g S := h.keep hb.size fun o => hb.cell (p := ⟨g, o, none⟩) hg
theorem Bx.made (w : World) (a b c : Value) (T : TypeId) : Bx (w.alloc (.cells #[a, b, c] T)) w.heap.size (a, b, c) := ⟨by simp, by simp [go_sem], by simp [go_sem], by simp [go_sem]⟩
end Go.Proofs.Ytnfoofoeimaodaa
