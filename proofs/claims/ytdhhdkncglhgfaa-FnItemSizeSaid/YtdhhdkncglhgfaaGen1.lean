/- The generators of shapes. -/
import Derived.Test.YtdhhdkncglhgfaaCells
import Derived.Test.YtdhhdkncglhgfaaShape1
import Derived.Deep.DeepCutAuto
set_option linter.unusedSimpArgs false
set_option linter.unusedVariables false
namespace Go.Proofs.Ytdhhdkncglhgfaa
open Go.RowKit

theorem Rd_lit (w : World) (xs : List Int) (t : TypeId) (cs : Array Value) (h : cs = (xs.map (Value.int .i64)).toArray) : Rd (w.alloc (.cells cs t)) (w.alloc (.cells cs t)).heap.size .i64 (some ⟨w.heap.size, 0, none⟩) xs := by
  subst h
  intro j hj
  refine ⟨_, rfl, by simp, ?_⟩
  rw [show (⟨w.heap.size, 0, none⟩ : Addr).add j = ⟨w.heap.size, j, none⟩ by unfold Addr.add; split <;> simp_all]
  rw [World.cell?_alloc_new]
  simp [List.getD_eq_getElem?_getD, List.getElem?_eq_getElem hj]
theorem Rd_litN (w : World) (n : Nat) (hn : n = w.heap.size) (xs : List Int) (t : TypeId) (cs : Array Value) (h : cs = (xs.map (Value.int .i64)).toArray) : Rd (w.alloc (.cells cs t)) (w.alloc (.cells cs t)).heap.size .i64 (some ⟨n, 0, none⟩) xs := by
  subst hn; exact Rd_lit w xs t cs h
theorem blk_ne {n g : Nat} (h : g < n) : ∀ b, blk (some ⟨n, 0, none⟩) = some b → b ≠ g := by
  intro b e; simp [blk] at e; omega
theorem Own.gr {w w' : World} {B g c : Nat} {A : Option Addr} {xs : List Int} (h : Own w B A c xs) (hg : w.grownBy w' (some g)) (hB : g < B) : Own w' B A c xs := by
  refine h.kept hg ?_
  rcases e : blk A with _ | k
  · exact .inl rfl
  · refine .inr fun e' => ?_
    have := (h.ge k e).1
    injection e' with e'
    omega
theorem Rdr.grown {w w' : World} {B g k b : Nat} (h : Rdr w B g k) (hg : w.grownBy w' (some b)) (hb : b ≠ g) (hB : B ≤ b) : Rdr w' B g k := by
  obtain ⟨h1, h2, A, c, bs, p, h3, h4, h5, h6, h7, h8, h9⟩ := h
  obtain ⟨hc, hf⟩ := gcell hg
  exact ⟨h1, Nat.lt_of_lt_of_le h2 hg.size, A, c, bs, p, (hc _ _ h2 (Ne.symm hb)).trans h3, (hc _ _ h2 (Ne.symm hb)).trans h4, (hf _ _ h2 (Ne.symm hb)).trans h5, h6.keep (fun q hq => hg.cell_far q (by omega) (by simp; omega)), h7, h8, h9⟩
/-- Behind an append to a slice of the call's own the reader is as before. -/
theorem Rdr.app {w w' : World} {B g k B' : Nat} (h : Rdr w B g k) (hb : Below B' w w') (hB : g < B') (hB2 : B ≤ B') : Rdr w' B g k := by
  obtain ⟨h1, h2, A, c, bs, p, h3, h4, h5, h6, h7, h8, h9⟩ := h
  exact ⟨h1, Nat.lt_of_lt_of_le h2 hb.size, A, c, bs, p, (hb.cell (p := ⟨g, 0, none⟩) hB).trans h3, (hb.cell (p := ⟨g, 1, none⟩) hB).trans h4, (hb.frozen (p := ⟨g, 1, none⟩) hB).trans h5, h6.keep (fun q hq => hb.cell (by omega)), h7, h8, h9⟩
theorem grown_of {w w' : World} {B : Nat} {row : Option Nat} (h : Below B w w') (hB : w.heap.size ≤ B) : w.grownBy w' row := ⟨h.os, h.tape, h.output, h.size, fun i hi _ => h.block i (by omega)⟩
theorem grown_app {a w w' : World} {B : Nat} {row : Option Nat} (h : a.grownBy w row) (k : Below B w w') (hB : a.heap.size ≤ B) : a.grownBy w' row :=
  ⟨k.os.trans h.os, k.tape.trans h.tape, k.output.trans h.output, Nat.le_trans h.size k.size, fun i hi hne => (k.block i (by omega)).trans (h.block i hi hne)⟩

/-- At most four extents, each at most 5, whose product is at most 60. -/
def GoodS (xs : List Int) : Prop := xs.length ≤ 4 ∧ (∀ x ∈ xs, 0 ≤ x ∧ x ≤ 5) ∧ prod xs ≤ 60
theorem GoodS.ext {xs : List Int} (h : GoodS xs) : Ext xs := ⟨h.1, fun j hj => by have := h.2.1 _ (mem_getD hj); omega⟩
theorem GoodS.nil : GoodS [] := ⟨by simp, by simp, by simp [prod]⟩
theorem GoodS.snoc {xs : List Int} {x : Int} (h : GoodS xs) (hl : xs.length < 4) (h1 : 0 ≤ x) (h2 : x ≤ 5) (hp : prod xs * x ≤ 60) : GoodS (xs ++ [x]) := by
  refine ⟨by simp; omega, ?_, by rw [prod_snoc]; exact hp⟩
  intro y hy
  rcases List.mem_append.1 hy with hy | hy
  · exact h.2.1 y hy
  · simp at hy; omega

set_option maxHeartbeats 3200000 in
theorem goodShape_any (B g k : Nat) (w : World) (h : Rdr w B g k) (hk : k ≤ 10000) :
    Calls Try.prog 102 #[.pointer (some ⟨g, 0, none⟩)] w fun e w' => ∃ A c xs, e = .returned (.slice A xs.length c) ∧ GoodS xs ∧ Own w' w.heap.size A c xs ∧ Rdr w' B g (k + 5) ∧ w.grownBy w' (some g) := by
  have hg := h.lt
  have hB := h.ge
  go_enter Try.func102, Try.ntmps102
  go_wp2_with fail
  have o0 : Own (w.alloc (.cells #[] 3)) w.heap.size (some ⟨w.heap.size, 0, none⟩) 0 [] := Own.made rfl (Nat.le_refl _)
  refine (one_any B g _ _ _ [2, 1, 3, 2, 0, 4] _ (by repeat' (first | (with_reducible assumption) | (with_reducible apply Rdr.alloc) | (with_reducible apply Rdr.drew) | (with_reducible apply Rdr.set) | omega)) (by omega) (Rd_litN _ _ (by simp) _ _ _ rfl) (blk_ne (by omega)) (by simp) (by simp)).mono ?_; rintro e w1 ⟨x1, rfl, p1, hR1, hg1⟩
  have p1 : 0 ≤ x1 ∧ x1 ≤ 4 := by simp at p1; omega
  obtain ⟨m, rfl⟩ := Int.eq_ofNat_of_zero_le p1.1
  have o1 := (o0.alloc (.cells #[.int .i64 2, .int .i64 1, .int .i64 3, .int .i64 2, .int .i64 0, .int .i64 4] 3)).gr hg1 hg
  have g1 : w.grownBy w1 (some g) := (by repeat' (first | (with_reducible exact grown_self _ _) | (with_reducible assumption) | (with_reducible refine grown_trans ?_ (by assumption)) | (with_reducible refine grown_alloc ?_ _) | (with_reducible refine grown_nset ?_ (by omega) _)))
  go_wp2_with fail
  go_loopw [3, 4] (fun v n wr => ∃ (j : Nat) (A : Option Addr) (c : Nat) (xs : List Int), xs.length + j ≤ 4 ∧ n = .int .i64 j ∧ v = .slice A xs.length c ∧ Own wr w.heap.size A c xs ∧ GoodS xs ∧ Rdr wr B g (k + 5 - j) ∧ w.grownBy wr (some g)) (fun _ n _ => (intOf n).toNat)
  case atStart => exact ⟨m, _, _, [], by simp; omega, rfl, rfl, o1, GoodS.nil, hR1.le (by omega), g1⟩
  case round =>
    obtain ⟨j, A, c, xs, hj, rfl, rfl, ho, hG, hR, hgr⟩ := hrel
    rcases j with _ | j
    · go_wp2_with fail
      go_ret
      exact ⟨_, _, _, rfl, hG, ho, hR.le (by omega), hgr⟩
    · have z0 := hgr.size
      have hx := hG.ext
      go_wp2_with fail
      refine (one_any B g _ _ _ [2, 3, 1, 4, 2, 3, 5, 0] _ (by repeat' (first | (with_reducible assumption) | (with_reducible apply Rdr.alloc) | (with_reducible apply Rdr.drew) | (with_reducible apply Rdr.set) | omega)) (by omega) (Rd_litN _ _ (by simp) _ _ _ rfl) (blk_ne (by have := hR.lt; omega)) (by simp) (by simp)).mono ?_; rintro e w2 ⟨x2, rfl, p2, hR2, hg2⟩
      have p2 : 0 ≤ x2 ∧ x2 ≤ 5 := by simp at p2; omega
      have o2 := (ho.alloc (.cells #[.int .i64 2, .int .i64 3, .int .i64 1, .int .i64 4, .int .i64 2, .int .i64 3, .int .i64 5, .int .i64 0] 3)).gr hg2 hg
      have g2 : w.grownBy w2 (some g) := grown_trans (grown_alloc hgr _) hg2
      have z2 := g2.size
      obtain ⟨b1, b2⟩ := hx.prod
      have hcr := o2.rd
      obtain ⟨q1, q2⟩ := p2
      obtain ⟨P, HP⟩ : ∃ P, Hid (prod xs = P) := ⟨_, rfl⟩
      rw [HP.out] at b1 b2
      have b3 : 0 ≤ P * x2 := Int.mul_nonneg b1 q1
      have b4 : P * x2 ≤ P * 5 := Int.mul_le_mul_of_nonneg_left q2 b1
      have u1 := IntWalk.i64_in (P * x2) (by omega)
      go_wp2_with fail
      refine (count_any _ _ _ _ _ hcr hx).mono ?_; rw [HP.out]; rintro e w3 ⟨rfl, rfl⟩
      have HG := Lib.hid hG
      have HO := Lib.hid o2
      have HR2 := Lib.hid hR2
      clear hx hcr ho hR hgr hG hg2 o2 hR2 hg1 hR1 o0 o1 g1 h
      by_cases hp : P * x2 ≤ 60
      · go_wp2_with (at_builtin; refine wpList_app1 _ rfl (.tmp 22) (.tmp 24) (by rfl) w.heap.size A c xs.length xs (by rfl) rfl (HO.out.alloc _) w2.heap.size 1 x2 (by rfl) (by simp) (by omega) (by simp; omega) ?_; intro A4 c4 w4 ho4 hb4 hg4)
        go_roundw
        case rel =>
          refine ⟨j, A4, c4, xs ++ [x2], by simp; omega, by go_num, by simp, ho4, HG.out.snoc (by omega) q1 q2 (by rw [HP.out]; exact hp), ?_, grown_app (grown_alloc g2 _) hb4 (Nat.le_refl _)⟩
          exact ((HR2.out.alloc _).app hb4 hg (by omega)).le (by omega)
        case measure => simp [intOf]
      · go_wp2_with fail
        go_roundw
        case rel => exact ⟨j, A, c, xs, by omega, by go_num, rfl, HO.out, HG.out, HR2.out.le (by omega), g2⟩
        case measure => simp [intOf]
end Go.Proofs.Ytdhhdkncglhgfaa
