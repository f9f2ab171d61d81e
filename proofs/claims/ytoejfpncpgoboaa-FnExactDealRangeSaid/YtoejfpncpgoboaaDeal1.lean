/- Words for a slice of ranges and for several slices of the call's own; the plain law of dealing. No condition. -/
import Derived.Test.YtoejfpncpgoboaaReg
import Derived.Test.YtoejfpncpgoboaaRange3
import Derived.Test.YtoejfpncpgoboaaRev
import Derived.Deep.OwnRows
set_option linter.unusedVariables false
namespace Go.Proofs.Ytoejfpncpgoboaa
open Go.RowKit

/-- The numbers of L with index below i that are dealt to hand k of m. -/
def hd (L : List Int) (m k : Nat) : Nat → List Int
  | 0 => []
  | i + 1 => if i % m = k then hd L m k i ++ [L.getD i 0] else hd L m k i
/-- Those at k, k + m, .., t of them. -/
def sp (L : List Int) (m k : Nat) : Nat → List Int
  | 0 => []
  | t + 1 => sp L m k t ++ [L.getD (k + t * m) 0]
theorem sp_length (L : List Int) (m k t : Nat) : (sp L m k t).length = t := by
  induction t with
  | zero => rfl
  | succ t ih => simp [sp, ih]
theorem sp_get (L : List Int) (m k t j : Nat) (h : j < t) : (sp L m k t).getD j 0 = L.getD (k + j * m) 0 := by
  induction t with
  | zero => omega
  | succ t ih =>
    rw [sp]
    rcases Nat.lt_or_ge j t with h' | h'
    · rw [← ih h']
      simp [List.getD_eq_getElem?_getD, List.getElem?_append_left (show j < (sp L m k t).length by rw [sp_length]; exact h')]
    · obtain rfl : j = t := by omega
      have := sp_length L m k j
      simp [List.getD_eq_getElem?_getD, this]
/-- How many of the first i indices are dealt to hand k of m. -/
def hn (m k i : Nat) : Nat := (i + m - 1 - k) / m
theorem hd_sp (L : List Int) (m k i : Nat) (hm : 1 ≤ m) (hm6 : m ≤ 6) (hk : k < m) : hd L m k i = sp L m k (hn m k i) := by
  induction i with
  | zero =>
    have : hn m k 0 = 0 := by unfold hn; rw [Nat.div_eq_of_lt (by omega)]
    rw [this]; rfl
  | succ i ih =>
    rw [hd]
    split
    · rename_i h
      have e : hn m k (i + 1) = hn m k i + 1 ∧ k + hn m k i * m = i := by
        unfold hn
        rcases (show m = 1 ∨ m = 2 ∨ m = 3 ∨ m = 4 ∨ m = 5 ∨ m = 6 by omega) with rfl | rfl | rfl | rfl | rfl | rfl <;> omega
      rw [ih, e.1, sp, e.2]
    · rename_i h
      have e : hn m k (i + 1) = hn m k i := by
        unfold hn
        rcases (show m = 1 ∨ m = 2 ∨ m = 3 ∨ m = 4 ∨ m = 5 ∨ m = 6 by omega) with rfl | rfl | rfl | rfl | rfl | rfl <;> omega
      rw [ih, e]
theorem hd_small {L : List Int} (h : SmallL L) (m k i : Nat) (hi : i ≤ L.length) : SmallL (hd L m k i) ∧ (hd L m k i).length ≤ i := by
  induction i with
  | zero => exact ⟨fun j hj => by simp [hd] at hj, by simp [hd]⟩
  | succ i ih =>
    obtain ⟨h1, h2⟩ := ih (by omega)
    rw [hd]
    split
    · refine ⟨fun j hj => ?_, by simp; omega⟩
      simp at hj
      rcases Nat.lt_or_ge j (hd L m k i).length with h' | h'
      · have e : (hd L m k i ++ [L.getD i 0]).getD j 0 = (hd L m k i).getD j 0 := by simp [List.getD_eq_getElem?_getD, List.getElem?_append_left h']
        rw [e]; exact h1 j h'
      · obtain rfl : j = (hd L m k i).length := by omega
        have e : (hd L m k i ++ [L.getD i 0]).getD (hd L m k i).length 0 = L.getD i 0 := by simp [List.getD_eq_getElem?_getD]
        rw [e]; exact h i (by omega)
    · exact ⟨h1, by omega⟩

/-- A range as three numbers. -/
abbrev Rg := Int × Int × Int
def nrm (xs : List Int) : Rg := (nrmA xs, nrmB xs, nrmC xs)
def rc (r : Rg) : List Value := [.int .i64 r.1, .int .i64 r.2.1, .int .i64 r.2.2]
def rcs (rs : List Rg) : List Value := rs.flatMap rc
theorem rcs_length (rs : List Rg) : (rcs rs).length = rs.length * 3 := by
  induction rs with
  | nil => rfl
  | cons r l ih => simp [rcs, rc] at ih ⊢; omega
theorem rcs_snoc (rs : List Rg) (r : Rg) : rcs (rs ++ [r]) = rcs rs ++ rc r := by simp [rcs]
theorem rcs_get (rs : List Rg) (j : Nat) (h : j < rs.length) : (rcs rs)[j * 3]? = some (.int .i64 rs[j].1) ∧ (rcs rs)[j * 3 + 1]? = some (.int .i64 rs[j].2.1) ∧ (rcs rs)[j * 3 + 2]? = some (.int .i64 rs[j].2.2) := by
  induction rs generalizing j with
  | nil => simp at h
  | cons r l ih =>
    have e : rcs (r :: l) = .int .i64 r.1 :: .int .i64 r.2.1 :: .int .i64 r.2.2 :: rcs l := rfl
    rcases j with _ | j
    · rw [e]; exact ⟨rfl, rfl, rfl⟩
    · have := ih j (by simpa using h)
      rw [e, show (j + 1) * 3 = j * 3 + 3 by omega]
      simpa using this
/-- The slice that begins at A with room for c is the call's own, and holds the ranges rs. -/
def OwnR (w : World) (B : Nat) (A : Option Addr) (c : Nat) (rs : List Rg) : Prop := w.ownsRow B 26 3 (.slice A rs.length c) rs.length (rcs rs)
/-- The slice that begins at A reads as the ranges rs. -/
def RdR (w : World) (B : Nat) (A : Option Addr) (rs : List Rg) : Prop := ∀ j (h : j < rs.length), ∃ g, A = some ⟨g, 0, none⟩ ∧ g < B ∧ w.cell? ⟨g, j * 3, none⟩ = some (.int .i64 rs[j].1) ∧ w.cell? ⟨g, j * 3 + 1, none⟩ = some (.int .i64 rs[j].2.1) ∧ w.cell? ⟨g, j * 3 + 2, none⟩ = some (.int .i64 rs[j].2.2)
def RetR (w : World) (rs : List Rg) (e : Ending) (w' : World) : Prop :=
  ∃ A c, e = .returned (.slice A rs.length c) ∧ OwnR w' w.heap.size A c rs ∧ Below w.heap.size w w'
theorem OwnR.rd {w : World} {B c : Nat} {A : Option Addr} {rs : List Rg} (h : OwnR w B A c rs) : RdR w w.heap.size A rs := fun j hj => by
  rcases h.2 with ⟨hv, hn⟩ | ⟨g, cap, cur, hv, hg, hh, hnc, hcm, hcs, ht⟩
  · omega
  · injection hv with hA _ _
    subst hA
    have hc : ∀ q v, (rcs rs)[q]? = some v → w.cell? ⟨g, q, none⟩ = some v := fun q v hq => by
      rw [← ht] at hq
      have h2 : cur.toList[q]? = some v := by
        rw [List.getElem?_take] at hq
        split at hq
        · exact hq
        · cases hq
      simp [World.cell?, hh]
      simpa using h2
    obtain ⟨a1, a2, a3⟩ := rcs_get rs j hj
    refine ⟨g, rfl, ?_, hc _ _ a1, hc _ _ a2, hc _ _ a3⟩
    rcases Nat.lt_or_ge g w.heap.size with hlt | hge
    · exact hlt
    · rw [Array.getElem?_eq_none hge] at hh; cases hh
theorem RdR.below {w w' : World} {B : Nat} {A : Option Addr} {rs : List Rg} (h : RdR w B A rs) (hb : Below B w w') : RdR w' B A rs := fun j hj => by
  obtain ⟨g, e, hg, c1, c2, c3⟩ := h j hj
  exact ⟨g, e, hg, (hb.cell (p := ⟨g, _, none⟩) hg).trans c1, (hb.cell (p := ⟨g, _, none⟩) hg).trans c2, (hb.cell (p := ⟨g, _, none⟩) hg).trans c3⟩
theorem RdR.more {w : World} {B B' : Nat} {A : Option Addr} {rs : List Rg} (h : RdR w B A rs) (hB : B ≤ B') : RdR w B' A rs := fun j hj => by
  obtain ⟨g, e, hg, r⟩ := h j hj
  exact ⟨g, e, by omega, r⟩
theorem RdR.to {w w' : World} {A : Option Addr} {rs : List Rg} (h : RdR w w.heap.size A rs) (hb : Below w.heap.size w w') : RdR w' w'.heap.size A rs := (h.below hb).more hb.size
theorem OwnR.made {w : World} {B g : Nat} (hg : w.heap.size = g) (hB : B ≤ g) : OwnR (w.alloc (.cells #[] 26)) B (some ⟨g, 0, none⟩) 0 [] := by
  subst hg
  exact World.ownsRow_made w #[] 0 hB (by simp [maxLen]) rfl
theorem OwnR.nil (w : World) (B : Nat) : OwnR w B none 0 [] := World.ownsRow_nil w B _ 3
theorem OwnR.keep {w w' : World} {B c : Nat} {A : Option Addr} {rs : List Rg} (h : OwnR w B A c rs) (hk : ∀ g, B ≤ g → g < w.heap.size → w'.heap[g]? = w.heap[g]?) : OwnR w' B A c rs := by
  refine ⟨h.1, ?_⟩
  rcases h.2 with h2 | ⟨g, cap, cur, hv, hg, hh, r⟩
  · exact .inl h2
  · refine .inr ⟨g, cap, cur, hv, hg, ?_, r⟩
    rw [hk g hg (by
      rcases Nat.lt_or_ge g w.heap.size with hlt | hge
      · exact hlt
      · rw [Array.getElem?_eq_none hge] at hh; cases hh)]
    exact hh
theorem OwnR.below {w w' : World} {B B' c : Nat} {A : Option Addr} {rs : List Rg} (h : OwnR w B A c rs) (hb : Below B' w w') (hB : w.heap.size ≤ B') : OwnR w' B A c rs := h.keep fun g _ hg => hb.block g (by omega)
theorem OwnR.alloc {w : World} {B c : Nat} {A : Option Addr} {rs : List Rg} (h : OwnR w B A c rs) (o : Obj) : OwnR (w.alloc o) B A c rs := h.keep fun g _ hg => Below.heap_alloc w o g hg
theorem OwnR.mono {w : World} {B B' c : Nat} {A : Option Addr} {rs : List Rg} (h : OwnR w B A c rs) (hB : B' ≤ B) : OwnR w B' A c rs := by
  refine ⟨h.1, ?_⟩
  rcases h.2 with h2 | ⟨g, cap, cur, hv, hg, r⟩
  · exact .inl h2
  · exact .inr ⟨g, cap, cur, hv, by omega, r⟩
theorem Try.infoRange : (Try.prog.info? 26).map (fun i => (i.zero, i.size, i.bytes)) = some (some (.agg #[.int .i64 0, .int .i64 0, .int .i64 0]), 3, 24) := by kernel_rfl
theorem ownR_form {w : World} {B n : Nat} {v : Value} {rs : List Rg} (h : w.ownsRow B 26 3 v n (rcs rs)) (hn : rs.length = n) : ∃ A c, v = .slice A n c ∧ OwnR w B A c rs := by
  subst hn
  rcases h.2 with ⟨rfl, h0⟩ | ⟨g, cap, cur, rfl, r⟩
  · refine ⟨none, 0, by rw [h0], ?_⟩
    unfold OwnR
    rw [h0]
    exact ⟨by rw [h.1, h0], .inl ⟨rfl, rfl⟩⟩
  · exact ⟨some ⟨g, 0, none⟩, cap, rfl, h⟩
/-- 'out = append(out, r)': one range onto a slice of the call's own. -/
theorem wpList_appR {ops : Array Oper} {rest : List Oper} {o : Oper} {a : Act} {Q : Exit → Act → World → Prop} (w : World) (hgd : o.guard = none) (s x : Operand)
    (ho : o.op = .call { callee := .builtin .append, args := #[s, x], argTypes := #[44, 44] })
    (B : Nat) (A : Option Addr) (c n : Nat) (rs : List Rg) (hs : a.eval s = .slice A n c) (hn : rs.length = n) (hown : OwnR w B A c rs)
    (b cx : Nat) (r : Rg) (hx : a.eval x = .slice (some ⟨b, 0, none⟩) 1 cx) (h0 : w.cell? ⟨b, 0, none⟩ = some (.int .i64 r.1)) (h1 : w.cell? ⟨b, 1, none⟩ = some (.int .i64 r.2.1)) (h2 : w.cell? ⟨b, 2, none⟩ = some (.int .i64 r.2.2)) (hlen : n ≤ 2000000000) (hB : B ≤ w.heap.size)
    (h : ∀ A' c' w', OwnR w' B A' c' (rs ++ [r]) → Below B w w' → w.grownBy w' (blk A) → (blk A' = blk A ∨ blk A' = some w.heap.size) → wpList Try.prog ops Q rest (a.put o.dst (.slice A' (n + 1) c')) w') : wpList Try.prog ops Q (o :: rest) a w := by
  obtain ⟨i0, hi, hz0, hz1, hz2⟩ := info_parts Try.infoRange
  subst hn
  refine wpList_append_own_at w hgd s x 44 ho B 26 i0 (.agg #[.int .i64 0, .int .i64 0, .int .i64 0]) 3 24 Try.underlying44 hi hz0 hz1 hz2 rfl (by omega) _ _ _ hs hown ⟨b, 0, none⟩ 1 cx (rc r) hx rfl ?_ ?_ (by simp only [maxLen]; omega) (by omega) hB ?_
  · intro j u hj
    match j, hj with
    | 0, hj => simp [rc] at hj; subst hj; exact h0
    | 1, hj => simp [rc] at hj; subst hj; simpa [Addr.add] using h1
    | 2, hj => simp [rc] at hj; subst hj; simpa [Addr.add] using h2
    | n + 3, hj => simp [rc] at hj
  · intro u hu
    simp [rc] at hu
    rcases hu with rfl | rfl | rfl <;> rfl
  · intro v' w' hown' hg _ hat
    rw [← rcs_snoc] at hown'
    obtain ⟨A', c', rfl, ho'⟩ := ownR_form (rs := rs ++ [r]) hown' (by simp)
    have hb' := (Below.refl _ _).grown hg hB (fun k hk => (World.ownsRow.lt hown k hk).1)
    rw [ownBlock_slice] at hg
    rw [ownBlock_slice, ownBlock_slice] at hat
    exact h A' c' w' ho' hb' hg hat
/-- 'x = append(x, y)' at a step of a drawn region, with the word where the new slice lies. -/
theorem stepAppAt {ops : Array Oper} {o : Oper} {a : Act} {K : Act → World → Prop} {Q : Exit → Act → World → Prop} {E : Prop} {w : World} (hgd : o.guard = none) (s x : Operand)
    (ho : o.op = .call { callee := .builtin .append, args := #[s, x], argTypes := #[30, 30] })
    (B : Nat) (A : Option Addr) (c n : Nat) (xs : List Int) (hs : a.eval s = .slice A n c) (hn : xs.length = n) (hown : Own w B A c xs)
    (b cx : Nat) (y : Int) (hx : a.eval x = .slice (some ⟨b, 0, none⟩) 1 cx) (hy : w.cell? ⟨b, 0, none⟩ = some (.int .i64 y)) (hlen : n ≤ 2000000000) (hB : B ≤ w.heap.size)
    (h : ∀ A' c' w', Own w' B A' c' (xs ++ [y]) → w.grownBy w' (blk A) → (blk A' = blk A ∨ blk A' = some w.heap.size) → K (a.put o.dst (.slice A' (n + 1) c')) w') : if Region.wanted o (yielded ops a.tmps) = true then Oper.wp Try.prog o a w K Q else E := by
  obtain ⟨i0, hi, hz0, hz1, hz2⟩ := info_parts Try.infoInt
  subst hn
  have hw : Region.wanted o (yielded ops a.tmps) = true := by simp [Region.wanted, hgd]
  rw [if_pos hw]
  obtain ⟨v', w', hr, h2, h3, _, h5⟩ := run_append_own_at (P := Try.prog) w B 30 o.type 3 i0 (.int .i64 0) 1 8 Try.underlying30 hi hz0 hz1 hz2 rfl (by omega) _ _ _ hown ⟨b, 0, none⟩ 1 cx [.int .i64 y] rfl
    (by
      intro j u hj
      match j, hj with
      | 0, hj => simp at hj; subst hj; exact hy)
    (by
      intro u hu
      simp at hu
      subst hu
      rfl) (by simp only [maxLen]; omega) (by omega) hB
  unfold Oper.wp execOp
  simp only [ho, resolve, invoke, builtin, Sem.run_bind, Sem.run_pure, Result.andThen_ok, List.map_toArray, List.map_cons, List.map_nil, hs, hx, hr]
  obtain ⟨A', c', rfl, ho'⟩ := own_form (xs := xs ++ [y]) (by simpa using h2) (by simp)
  rw [ownBlock_slice] at h3
  rw [ownBlock_slice, ownBlock_slice] at h5
  exact h A' c' w' ho' h3 h5
theorem Try.infoInts : (Try.prog.info? 30).map (fun i => (i.zero, i.size, i.bytes)) = some (some (.slice none 0 0), 1, 24) := by kernel_rfl
/-- The row of m values. -/
def rowOf (m : Nat) (V : Nat → Value) : List Value := (List.range m).map V
theorem rowOf_get (m : Nat) (V : Nat → Value) {k : Nat} (h : k < m) : (rowOf m V)[k]? = some (V k) := by simp [rowOf, h]
theorem rowOf_set (m : Nat) (V V' : Nat → Value) (k : Nat) (h : ∀ j, j ≠ k → V' j = V j) : (rowOf m V).set k (V' k) = rowOf m V' := by
  apply List.ext_getElem
  · simp [rowOf]
  · intro j h1 h2
    rw [List.getElem_set]
    simp only [rowOf, List.getElem_map, List.getElem_range]
    split
    · rename_i e; rw [e]
    · rename_i e; exact (h j (fun e2 => e e2.symm)).symm
end Go.Proofs.Ytoejfpncpgoboaa
