/- Words for memory that the walks of this seat use: a slice that reads as a list of integers; a slice of the call's own that holds a list of integers; small lemmas on worlds. No condition. -/
import Derived.Test.YtoejfpncpgoboaaChecked
import Derived.WalkKit
import Derived.Below
import Derived.Laws.OwnMore
import Derived.Deep.AppendLies
import Derived.Deep.Draws
import Derived.Laws.Rows
import Derived.Maps.AppendAt
import Derived.RegionTactic
import Derived.OwnWalk
import Derived.Deep.QuietTactic
import Derived.BigQuiet
import Derived.Lib.Hide
import Derived.Deep.Light
import Derived.BigRegion
set_option linter.unusedVariables false
namespace Go.Proofs.Ytoejfpncpgoboaa
open Go.RowKit

theorem _root_.Go.RowKit.Below.al {a w : World} (h : Below a.heap.size a w) (o : Obj) : Below a.heap.size a (w.alloc o) := h.alloc h.size o
theorem _root_.Go.RowKit.Below.drN {B : Nat} {a w : World} (h : Below B a w) (n : Nat) : Below B a (w.drewN n) := ⟨h.os, h.tape, h.output, h.size, h.block⟩
theorem _root_.Go.RowKit.Below.step {a b c : World} (h : Below a.heap.size a b) (k : Below b.heap.size b c) : Below a.heap.size a c := h.trans (k.mono h.size)

theorem Try.infoInt : (Try.prog.info? 3).map (fun i => (i.zero, i.size, i.bytes)) = some (some (.int .i64 0), 1, 8) := by kernel_rfl
theorem addBlock (a : Addr) (n : Nat) : (a.add n).block = a.block := by unfold Addr.add; split <;> rfl
theorem addZero (a : Addr) : a.add 0 = a := by simp [Addr.add]
theorem addLit (a : Addr) (n : Nat) : a.add (n + 1) = ⟨a.block, a.off + (n + 1), none⟩ := by simp [Addr.add]
theorem addAdd (a : Addr) (i j : Nat) : (a.add i).add j = a.add (i + j) := by
  unfold Addr.add
  by_cases hi : i = 0 <;> by_cases hj : j = 0 <;> simp [hi, hj, Nat.add_assoc]

/-- The slice that begins at A reads, below block B, as the integers xs of kind k. -/
def Rd (w : World) (B : Nat) (k : IntKind) (A : Option Addr) (xs : List Int) : Prop :=
  ∀ j, j < xs.length → ∃ a, A = some a ∧ a.block < B ∧ w.cell? (a.add j) = some (.int k (xs.getD j 0))

section
variable {w w' : World} {B B' : Nat} {k : IntKind} {A : Option Addr} {xs : List Int}
theorem Rd.keep (h : Rd w B k A xs) (hk : ∀ p : Addr, p.block < B → w'.cell? p = w.cell? p) : Rd w' B k A xs := fun j hj => by
  obtain ⟨a, e, hb, hc⟩ := h j hj
  exact ⟨a, e, hb, (hk _ (by rw [addBlock]; exact hb)).trans hc⟩
theorem Rd.more (h : Rd w B k A xs) (hB : B ≤ B') : Rd w B' k A xs := fun j hj => by
  obtain ⟨a, e, hb, hc⟩ := h j hj
  exact ⟨a, e, by omega, hc⟩
theorem Rd.below (h : Rd w B k A xs) (hb : Below B w w') : Rd w' B k A xs := h.keep fun _ hp => hb.cell hp
theorem Rd.to (h : Rd w w.heap.size k A xs) (hb : Below w.heap.size w w') : Rd w' w'.heap.size k A xs := (h.below hb).more hb.size
theorem Rd.drew (h : Rd w B k A xs) : Rd w.drew B k A xs := h
theorem Rd.drewN (h : Rd w B k A xs) (n : Nat) : Rd (w.drewN n) B k A xs := h
theorem Rd.alloc (h : Rd w B k A xs) (hB : B ≤ w.heap.size) (o : Obj) : Rd (w.alloc o) B k A xs := h.keep fun p hp => World.cell?_alloc_lt w o p (by omega)
theorem Rd.get (h : Rd w B k A xs) {j : Nat} (hj : j < xs.length) : ∃ a y, A = some a ∧ a.block < B ∧ w.cell? (a.add j) = some (.int k y) ∧ Hid (y = xs.getD j 0) := by
  obtain ⟨a, e, hb, hc⟩ := h j hj
  exact ⟨a, _, e, hb, hc, rfl⟩
theorem Rd.nil (w : World) (B : Nat) (k : IntKind) (A : Option Addr) : Rd w B k A [] := fun j hj => absurd hj (by simp)
theorem Rd.take (h : Rd w B k A xs) (n : Nat) : Rd w B k A (xs.take n) := fun j hj => by
  have hj' : j < n ∧ j < xs.length := by rw [List.length_take] at hj; omega
  obtain ⟨a, e, hb, hc⟩ := h j hj'.2
  refine ⟨a, e, hb, ?_⟩
  have : (xs.take n).getD j 0 = xs.getD j 0 := by simp [List.getD_eq_getElem?_getD, hj'.1]
  rw [this]; exact hc
end

/-- The slice that begins at A with room for c is the call's own (its row lies in a block from B on), and holds the integers xs. -/
def Own (w : World) (B : Nat) (A : Option Addr) (c : Nat) (xs : List Int) : Prop := w.ownsRow B 3 1 (.slice A xs.length c) xs.length (xs.map (Value.int .i64))

section
variable {w w' : World} {B B' : Nat} {A : Option Addr} {c : Nat} {xs : List Int}
theorem Own.rd (h : Own w B A c xs) : Rd w w.heap.size .i64 A xs := fun j hj => by
  rcases h.2 with ⟨hv, hn⟩ | ⟨g, cap, cur, hv, hg, hh, hnc, hcm, hcs, ht⟩
  · omega
  · injection hv with hA _ _
    subst hA
    refine ⟨⟨g, 0, none⟩, rfl, ?_, ?_⟩
    · rcases Nat.lt_or_ge g w.heap.size with hlt | hge
      · exact hlt
      · rw [Array.getElem?_eq_none hge] at hh; cases hh
    · have := World.ownsRow.cells h (g := g) rfl j (.int .i64 (xs.getD j 0)) (by simp [List.getElem?_map, List.getElem?_eq_getElem hj, List.getD_eq_getElem?_getD])
      exact this
theorem Own.nil (w : World) (B : Nat) : Own w B none 0 [] := World.ownsRow_nil w B _ 1
theorem Own.made {w : World} {B g : Nat} (hg : w.heap.size = g) (hB : B ≤ g) : Own (w.alloc (.cells #[] 3)) B (some ⟨g, 0, none⟩) 0 [] := by
  subst hg
  exact World.ownsRow_made w #[] 0 hB (by simp [maxLen]) rfl
theorem Own.mono (h : Own w B A c xs) (hB : B' ≤ B) : Own w B' A c xs := by
  refine ⟨h.1, ?_⟩
  rcases h.2 with h2 | ⟨g, cap, cur, hv, hg, r⟩
  · exact .inl h2
  · exact .inr ⟨g, cap, cur, hv, by omega, r⟩
theorem Own.keep (h : Own w B A c xs) (hk : ∀ g, B ≤ g → g < w.heap.size → w'.heap[g]? = w.heap[g]?) : Own w' B A c xs := by
  refine ⟨h.1, ?_⟩
  rcases h.2 with h2 | ⟨g, cap, cur, hv, hg, hh, r⟩
  · exact .inl h2
  · refine .inr ⟨g, cap, cur, hv, hg, ?_, r⟩
    rw [hk g hg (by
      rcases Nat.lt_or_ge g w.heap.size with hlt | hge
      · exact hlt
      · rw [Array.getElem?_eq_none hge] at hh; cases hh)]
    exact hh
theorem Own.below {B' : Nat} (h : Own w B A c xs) (hb : Below B' w w') (hB : w.heap.size ≤ B') : Own w' B A c xs := h.keep fun g _ hg => hb.block g (by omega)
theorem Own.alloc (h : Own w B A c xs) (o : Obj) : Own (w.alloc o) B A c xs := h.keep fun g _ hg => Below.heap_alloc w o g hg
theorem Own.drew (h : Own w B A c xs) : Own w.drew B A c xs := h
theorem Own.drewN (h : Own w B A c xs) (n : Nat) : Own (w.drewN n) B A c xs := h
theorem Own.cap_le (h : Own w B A c xs) : xs.length ≤ c := by
  rcases h.2 with ⟨hv, hn⟩ | ⟨g, cap, cur, hv, _, _, hnc, _⟩
  · omega
  · injection hv with _ _ hc; omega
end

/-- The block in which a slice lies, if there is one. -/
def blk (A : Option Addr) : Option Nat := A.map (·.block)
theorem ownBlock_slice (A : Option Addr) (n c : Nat) : (Value.slice A n c).ownBlock = blk A := by cases A <;> rfl

section
variable {w w' : World} {B g j c : Nat} {A : Option Addr} {xs : List Int} {y : Int}
theorem Own.at_ (h : Own w B A c xs) (hj : j < xs.length) : ∃ g y, A = some ⟨g, 0, none⟩ ∧ B ≤ g ∧ g < w.heap.size ∧ w.cell? ⟨g, j, none⟩ = some (.int .i64 y) ∧ w.frozen? ⟨g, j, none⟩ = false ∧ Hid (y = xs.getD j 0) := by
  have h0 : World.ownsRow w B 3 1 (.slice A xs.length c) xs.length (xs.map (Value.int .i64)) := h
  rcases h0.2 with ⟨hv, hn⟩ | ⟨g, cap, cur, hv, hg, hh, hnc, hcm, hcs, ht⟩
  · omega
  · injection hv with hA _ _
    subst hA
    have hlt : g < w.heap.size := by
      rcases Nat.lt_or_ge g w.heap.size with hlt | hge
      · exact hlt
      · rw [Array.getElem?_eq_none hge] at hh; cases hh
    refine ⟨g, xs.getD j 0, rfl, hg, hlt, ?_, World.ownsRow.frozenAt h0 j, rfl⟩
    have := World.ownsRow.cellAt h0 j (by omega)
    rw [this]
    simp [List.getElem?_map, List.getElem?_eq_getElem hj, List.getD_eq_getElem?_getD]
theorem Own.set (h : Own w B (some ⟨g, 0, none⟩) c xs) (j : Nat) (y : Int) : Own (w.setCell ⟨g, j, none⟩ (.int .i64 y)) B (some ⟨g, 0, none⟩) c (xs.set j y) := by
  have h0 : World.ownsRow w B 3 1 (.slice (some ⟨g, 0, none⟩) xs.length c) xs.length (xs.map (Value.int .i64)) := h
  have := (World.ownsRow.stored h0 j (.int .i64 y)).1
  unfold Own
  rw [List.length_set, List.map_set]
  exact this
theorem Own.ge (h : Own w B A c xs) : ∀ k, blk A = some k → B ≤ k ∧ k < w.heap.size := fun k hk => World.ownsRow.lt h k (by rw [ownBlock_slice]; exact hk)
theorem Own.kept {row : Option Nat} (h : Own w B A c xs) (hg : w.grownBy w' row) (hne : blk A = none ∨ blk A ≠ row) : Own w' B A c xs :=
  World.ownsRow.kept h hg (by rw [ownBlock_slice]; exact hne)
theorem Rd.kept {B : Nat} {k : IntKind} {row : Option Nat} (h : Rd w B k A xs) (hg : w.grownBy w' row) (hne : blk A = none ∨ blk A ≠ row) : Rd w' B k A xs := fun j hj => by
  obtain ⟨a, e, hb, hc⟩ := h j hj
  refine ⟨a, e, hb, ?_⟩
  subst e
  refine World.grownBy.cell hg hc ?_
  rcases hne with h0 | h0
  · cases h0
  · rw [addBlock]; exact h0
theorem below_of_grown {row : Option Nat} (hg : w.grownBy w' row) (hB : B ≤ w.heap.size) (hr : ∀ k, row = some k → B ≤ k) : Below B w w' := (Below.refl _ _).grown hg hB hr
theorem grown_trans {a b c : World} {row : Option Nat} (h : a.grownBy b row) (k : b.grownBy c row) : a.grownBy c row :=
  ⟨k.os.trans h.os, k.tape.trans h.tape, k.output.trans h.output, Nat.le_trans h.size k.size, fun i hi hne => (k.block i (Nat.lt_of_lt_of_le hi h.size) hne).trans (h.block i hi hne)⟩
theorem grown_setCell {a w : World} {g j : Nat} {row : Option Nat} (h : a.grownBy w row) (hr : row = some g) (u : Value) : a.grownBy (w.setCell ⟨g, j, none⟩ u) row :=
  ⟨h.os, h.tape, h.output, by simpa [World.setCell] using h.size, fun i hi hne => (Below.heap_setCell w ⟨g, j, none⟩ u i (by rintro rfl; exact hne hr.symm)).trans (h.block i hi hne)⟩
theorem grown_alloc {a w : World} {row : Option Nat} (h : a.grownBy w row) (o : Obj) : a.grownBy (w.alloc o) row :=
  ⟨h.os, h.tape, h.output, Nat.le_trans h.size (by simp), fun i hi hne => (Below.heap_alloc w o i (Nat.lt_of_lt_of_le hi h.size)).trans (h.block i hi hne)⟩
theorem grown_below {a b c : World} {row : Option Nat} (h : a.grownBy b row) (k : Below b.heap.size b c) : a.grownBy c row :=
  ⟨k.os.trans h.os, k.tape.trans h.tape, k.output.trans h.output, Nat.le_trans h.size k.size, fun i hi hne => (k.block i (Nat.lt_of_lt_of_le hi h.size)).trans (h.block i hi hne)⟩
theorem grown_of_below {a b : World} (k : Below a.heap.size a b) (row : Option Nat) : a.grownBy b row := ⟨k.os, k.tape, k.output, k.size, fun i hi _ => k.block i hi⟩
end

section
variable {ops : Array Oper} {rest : List Oper} {o : Oper} {a : Act} {Q : Exit → Act → World → Prop}
/-- 'make([]int, n)'. -/
theorem wpList_mk1 (w : World) (hgd : o.guard = none) (l : Operand) (ho : o.op = Op.makeSlice 30 l l) (n : Nat) (L : Int) (hl : a.eval l = .int .i64 L) (hL : L = (n : Int)) (hlen : n ≤ 2000000000)
    (h : ∀ w', Own w' w.heap.size (some ⟨w.heap.size, 0, none⟩) n (List.replicate n 0) → Below w.heap.size w w' → w.heap.size < w'.heap.size → wpList Try.prog ops Q rest (a.put o.dst (.slice (some ⟨w.heap.size, 0, none⟩) n n)) w') : wpList Try.prog ops Q (o :: rest) a w := by
  obtain ⟨i0, hi, hz0, hz1, hz2⟩ := info_parts Try.infoInt
  refine wpList_make_full w hgd l l 30 ho w.heap.size 3 i0 (.int .i64 0) 1 Try.underlying30 hi hz0 hz1 .i64 .i64 L L n hl hl hL hL (by rw [hz2]; omega) (by simp only [maxLen]; omega) (Nat.le_refl _) ?_
  intro w' hown hg
  refine h w' ?_ ((Below.refl _ _).grown hg (Nat.le_refl _) (fun k hk => by cases hk)) ?_
  · have e : (madeCells (Value.int .i64 0).cells (n * 1)).toList = (List.replicate n (0 : Int)).map (Value.int .i64) := by
      rw [Nat.mul_one, List.map_replicate]; exact toList_madeCells_one _ n
    unfold Own
    rw [← e, List.length_replicate]
    exact hown
  · rcases hown.2 with ⟨hv, _⟩ | ⟨g, cap, cur, hv, _, hh, _⟩
    · cases hv
    · injection hv with hv _ _
      injection hv with hv
      injection hv with hv _ _
      subst hv
      rcases Nat.lt_or_ge w.heap.size w'.heap.size with hlt | hge
      · exact hlt
      · rw [Array.getElem?_eq_none hge] at hh; cases hh
end

/-- The call returns a fresh slice that holds xs; of what was there nothing has turned. -/
def RetInts (w : World) (xs : List Int) (e : Ending) (w' : World) : Prop :=
  ∃ A c, e = .returned (.slice A xs.length c) ∧ Own w' w.heap.size A c xs ∧ Below w.heap.size w w'
/-- The call returns v; of what was there nothing has turned. -/
def Ret (w : World) (v : Value) (e : Ending) (w' : World) : Prop := e = .returned v ∧ Below w.heap.size w w'

theorem bcell {W w1 : World} (hb : Below W.heap.size W w1) : (∀ b o, b < W.heap.size → w1.cell? ⟨b, o, none⟩ = W.cell? ⟨b, o, none⟩) ∧ (∀ b o, b < W.heap.size → w1.frozen? ⟨b, o, none⟩ = W.frozen? ⟨b, o, none⟩) :=
  ⟨fun b o h => hb.cell (p := ⟨b, o, none⟩) h, fun b o h => hb.frozen (p := ⟨b, o, none⟩) h⟩

theorem bcel {W w1 : World} (hb : Below W.heap.size W w1) : ∀ b o, b < W.heap.size → w1.cell? ⟨b, o, none⟩ = W.cell? ⟨b, o, none⟩ := fun b o h => hb.cell (p := ⟨b, o, none⟩) h

theorem ret_int {k : IntKind} {a b : Int} (h : a = b) : Ending.returned (.int k a) = .returned (.int k b) := by rw [h]
theorem ret_bool {a b : Bool} (h : a = b) : Ending.returned (.bool a) = .returned (.bool b) := by rw [h]


section
variable {ops : Array Oper} {rest : List Oper} {o : Oper} {a : Act} {Q : Exit → Act → World → Prop}
theorem own_form {w : World} {B n : Nat} {v : Value} {xs : List Int} (h : w.ownsRow B 3 1 v n (xs.map (Value.int .i64))) (hn : xs.length = n) : ∃ A c, v = .slice A n c ∧ Own w B A c xs := by
  subst hn
  rcases h.2 with ⟨rfl, h0⟩ | ⟨g, cap, cur, rfl, r⟩
  · refine ⟨none, 0, by rw [h0], ?_⟩
    unfold Own
    rw [h0]
    exact ⟨by rw [h.1, h0], .inl ⟨rfl, rfl⟩⟩
  · exact ⟨some ⟨g, 0, none⟩, cap, rfl, h⟩

/-- 'out = append(out, y)': one number onto a slice of the call's own. -/
theorem wpList_app1 (w : World) (hgd : o.guard = none) (s x : Operand)
    (ho : o.op = .call { callee := .builtin .append, args := #[s, x], argTypes := #[30, 30] })
    (B : Nat) (A : Option Addr) (c n : Nat) (xs : List Int) (hs : a.eval s = .slice A n c) (hn : xs.length = n) (hown : Own w B A c xs)
    (b cx : Nat) (y : Int) (hx : a.eval x = .slice (some ⟨b, 0, none⟩) 1 cx) (hy : w.cell? ⟨b, 0, none⟩ = some (.int .i64 y)) (hlen : n ≤ 2000000000) (hB : B ≤ w.heap.size)
    (h : ∀ A' c' w', Own w' B A' c' (xs ++ [y]) → Below B w w' → w.grownBy w' (Value.slice A n c).ownBlock → wpList Try.prog ops Q rest (a.put o.dst (.slice A' (n + 1) c')) w') : wpList Try.prog ops Q (o :: rest) a w := by
  obtain ⟨i0, hi, hz0, hz1, hz2⟩ := info_parts Try.infoInt
  subst hn
  refine wpList_append_own w hgd s x 30 ho B 3 i0 (.int .i64 0) 1 8 Try.underlying30 hi hz0 hz1 hz2 rfl (by omega) _ _ _ hs hown ⟨b, 0, none⟩ 1 cx [.int .i64 y] hx rfl ?_ ?_ (by simp only [maxLen]; omega) (by omega) hB ?_
  · intro j u hj
    match j, hj with
    | 0, hj => simp at hj; subst hj; exact hy
  · intro u hu
    simp at hu
    subst hu
    rfl
  · intro v' w' hown' hg _
    obtain ⟨A', c', rfl, ho'⟩ := own_form (xs := xs ++ [y]) (by simpa using hown') (by simp)
    exact h A' c' w' ho' ((Below.refl _ _).grown hg hB (fun k hk => (World.ownsRow.lt hown k hk).1)) hg
end

end Go.Proofs.Ytoejfpncpgoboaa
