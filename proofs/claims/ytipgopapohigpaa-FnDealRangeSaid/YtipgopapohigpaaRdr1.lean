/- The reader of the generators: its state, its numbers. -/
import Derived.Test.YtipgopapohigpaaLists
set_option linter.unusedVariables false
namespace Go.Proofs.Ytipgopapohigpaa
open Go.RowKit

theorem i64_xor_nn (a b : Int) (h1 : 0 ≤ a) (h2 : a < 1099511627776) (h3 : 0 ≤ b) (h4 : b < 1099511627776) : 0 ≤ bits .xor .i64 a b ∧ bits .xor .i64 a b < 1099511627776 := by
  obtain ⟨m, rfl⟩ := Int.eq_ofNat_of_zero_le h1
  obtain ⟨n, rfl⟩ := Int.eq_ofNat_of_zero_le h3
  have hx : m ^^^ n < 2 ^ 40 := Nat.xor_lt_two_pow (by omega) (by omega)
  have e1 : (BitVec.ofInt 64 (m : Int)).toNat = m := by
    rw [BitVec.ofInt_natCast, BitVec.toNat_ofNat]; exact Nat.mod_eq_of_lt (by omega)
  have e2 : (BitVec.ofInt 64 (n : Int)).toNat = n := by
    rw [BitVec.ofInt_natCast, BitVec.toNat_ofNat]; exact Nat.mod_eq_of_lt (by omega)
  have e : bits .xor .i64 (m : Int) (n : Int) = ((m ^^^ n : Nat) : Int) := by
    show IntKind.i64.wrap ((BitVec.ofInt 64 (m : Int) ^^^ BitVec.ofInt 64 (n : Int)).toNat : Int) = _
    rw [BitVec.toNat_xor, e1, e2]
    exact IntWalk.i64_in _ (by omega)
  rw [e]
  omega

theorem mem_getD {xs : List Int} {j : Nat} (h : j < xs.length) : xs.getD j 0 ∈ xs := by
  rw [List.getD_eq_getElem?_getD, List.getElem?_eq_getElem h]
  exact List.getElem_mem h

theorem gcell {w w1 : World} {g : Nat} (hg : w.grownBy w1 (some g)) : (∀ b o, b < w.heap.size → b ≠ g → w1.cell? ⟨b, o, none⟩ = w.cell? ⟨b, o, none⟩) ∧ (∀ b o, b < w.heap.size → b ≠ g → w1.frozen? ⟨b, o, none⟩ = w.frozen? ⟨b, o, none⟩) :=
  ⟨fun b o h hne => hg.cell_far ⟨b, o, none⟩ h (by simpa using hne), fun b o h hne => hg.frozen_far ⟨b, o, none⟩ h (by simpa using hne)⟩

/-- The reader lies in block g, from B on; its bytes lie below B; k bounds the place at which it stands. -/
def Rdr (w : World) (B g k : Nat) : Prop :=
  B ≤ g ∧ g < w.heap.size ∧ ∃ (A : Option Addr) (c : Nat) (bs : List Int) (p : Nat), w.cell? ⟨g, 0, none⟩ = some (.slice A bs.length c) ∧ w.cell? ⟨g, 1, none⟩ = some (.int .i64 (p : Int)) ∧ w.frozen? ⟨g, 1, none⟩ = false ∧ Rd w B .u8 A bs ∧ bs.length ≤ 2000 ∧ (∀ x ∈ bs, 0 ≤ x ∧ x ≤ 255) ∧ p ≤ k

section
variable {w w' : World} {B g k : Nat}
theorem Rdr.lt (h : Rdr w B g k) : g < w.heap.size := h.2.1
theorem Rdr.ge (h : Rdr w B g k) : B ≤ g := h.1
theorem Rdr.le {k' : Nat} (h : Rdr w B g k) (hk : k ≤ k') : Rdr w B g k' := by
  obtain ⟨h1, h2, A, c, bs, p, h3, h4, h5, h6, h7, h8, h9⟩ := h
  exact ⟨h1, h2, A, c, bs, p, h3, h4, h5, h6, h7, h8, by omega⟩
theorem Rdr.below (h : Rdr w B g k) (hb : Below w.heap.size w w') : Rdr w' B g k := by
  obtain ⟨h1, h2, A, c, bs, p, h3, h4, h5, h6, h7, h8, h9⟩ := h
  obtain ⟨hc, hf⟩ := bcell hb
  exact ⟨h1, Nat.lt_of_lt_of_le h2 hb.size, A, c, bs, p, (hc _ _ h2).trans h3, (hc _ _ h2).trans h4, (hf _ _ h2).trans h5, h6.keep (fun q hq => hb.cell (by omega)), h7, h8, h9⟩
theorem Rdr.alloc (h : Rdr w B g k) (o : Obj) : Rdr (w.alloc o) B g k := h.below ((Below.refl _ _).alloc (Nat.le_refl _) o)
theorem Rdr.drew (h : Rdr w B g k) : Rdr w.drew B g k := h
theorem Rdr.set {b o : Nat} (h : Rdr w B g k) (hb : b ≠ g) (hB : B ≤ b) (v : Value) : Rdr (w.setCell ⟨b, o, none⟩ v) B g k := by
  obtain ⟨h1, h2, A, c, bs, p, h3, h4, h5, h6, h7, h8, h9⟩ := h
  have hg : w.grownBy (w.setCell ⟨b, o, none⟩ v) (some b) := grown_setCell ⟨rfl, rfl, rfl, Nat.le_refl _, fun _ _ _ => rfl⟩ rfl v
  obtain ⟨hc, hf⟩ := gcell hg
  refine ⟨h1, Nat.lt_of_lt_of_le h2 hg.size, A, c, bs, p, (hc _ _ h2 (Ne.symm hb)).trans h3, (hc _ _ h2 (Ne.symm hb)).trans h4, (hf _ _ h2 (Ne.symm hb)).trans h5, h6.keep (fun q hq => hg.cell_far q (by omega) (by simp; omega)), h7, h8, h9⟩
end

set_option maxHeartbeats 1600000 in
theorem pick_any (B g k : Nat) (n : Int) (w : World) (h : Rdr w B g k) (hk : k ≤ 100000) (hn : n ≤ 1000000000) :
    Calls Try.prog 69 #[.pointer (some ⟨g, 0, none⟩), .int .i64 n] w fun e w' => ∃ x : Int, e = .returned (.int .i64 x) ∧ 0 ≤ x ∧ (n < 1 → x = 0) ∧ (1 ≤ n → x < n) ∧ Rdr w' B g (k + 1) ∧ w.grownBy w' (some g) := by
  obtain ⟨h1, h2, A, c, bs, p, h3, h4, h5, h6, h7, h8, h9⟩ := h
  have hR : Rdr (w.setCell ⟨g, 1, none⟩ (.int .i64 ((p : Int) + 1))) B g (k + 1) ∧ w.grownBy (w.setCell ⟨g, 1, none⟩ (.int .i64 ((p : Int) + 1))) (some g) := by
    have hg : w.grownBy (w.setCell ⟨g, 1, none⟩ (.int .i64 ((p : Int) + 1))) (some g) := grown_setCell ⟨rfl, rfl, rfl, Nat.le_refl _, fun _ _ _ => rfl⟩ rfl _
    refine ⟨⟨h1, Nat.lt_of_lt_of_le h2 hg.size, A, c, bs, p + 1, ?_, ?_, ?_, h6.keep (fun q hq => hg.cell_far q (by omega) (by simp; omega)), h7, h8, by omega⟩, hg⟩
    · exact (World.cell?_setCell_other _ _ _ _ (by simp)).trans h3
    · exact World.cell?_setCell_same' _ _ _ (by rw [h4]; rfl)
    · rw [World.frozen?_setCell]; exact h5
  obtain ⟨hRd, hgr⟩ := hR
  by_cases hn1 : n < 1
  · go_enter Try.func69, Try.ntmps69
    go_wp2_with fail
    go_ret
    exact ⟨0, rfl, by omega, fun _ => rfl, by omega, hRd, hgr⟩
  by_cases hl : bs.length = 0
  · go_enter Try.func69, Try.ntmps69
    rw [hl] at h3
    go_wp2_with fail
    go_ret
    exact ⟨0, rfl, by omega, fun _ => rfl, by omega, hRd, hgr⟩
  obtain ⟨hfc, hff⟩ := gcell hgr
  have h6' := h6.keep (w' := w.setCell ⟨g, 1, none⟩ (.int .i64 ((p : Int) + 1))) (fun q hq => hgr.cell_far q (by omega) (by simp; omega))
  by_cases hp : p < bs.length
  · obtain ⟨ad, y, rfl, hA, hcell, HY⟩ := h6'.get hp
    have hy := h8 y (by rw [HY.out]; exact mem_getD hp)
    have hm1 := Int.emod_lt_of_pos y (show 0 < n by omega)
    have hm0 := Int.emod_nonneg y (show n ≠ 0 by omega)
    go_enter Try.func69, Try.ntmps69
    go_wp2_with fail
    go_ret
    exact ⟨y % n, rfl, hm0, by omega, hm1, hRd, hgr⟩
  · have b1 := Int.tmod_lt_of_pos (p : Int) (show 0 < (bs.length : Int) by omega)
    have b2 := Int.tmod_nonneg (bs.length : Int) (show 0 ≤ (p : Int) by omega)
    have b3 := Int.tmod_lt_of_pos ((p : Int) * 7 + 3) (show 0 < (bs.length : Int) by omega)
    have b4 := Int.tmod_nonneg (bs.length : Int) (show 0 ≤ (p : Int) * 7 + 3 by omega)
    have b5 : (p : Int) / (bs.length : Int) ≤ p := by
      exact Int.ediv_le_self _ (by omega)
    have b6 : 0 ≤ (p : Int) / (bs.length : Int) := by
      exact Int.ediv_nonneg (by omega) (by omega)
    obtain ⟨ad, y, rfl, hA, hc1, HY⟩ := h6'.get (show ((p : Int).tmod (bs.length : Int)).toNat < bs.length by omega)
    obtain ⟨ad', z, e, hA', hc2, HZ⟩ := h6'.get (show (((p : Int) * 7 + 3).tmod (bs.length : Int)).toNat < bs.length by omega)
    cases e
    have hy := h8 y (by rw [HY.out]; exact mem_getD (by omega))
    have hz := h8 z (by rw [HZ.out]; exact mem_getD (by omega))
    have w1 := IntWalk.i64_in ((p : Int).tmod (bs.length : Int)) (by omega)
    have w2 := IntWalk.i64_in ((p : Int) * 7) (by omega)
    have w3 := IntWalk.i64_in ((p : Int) * 7 + 3) (by omega)
    have w4 := IntWalk.i64_in (((p : Int) * 7 + 3).tmod (bs.length : Int)) (by omega)
    have w5 := IntWalk.i64_in (y * 131) (by omega)
    have w6 := IntWalk.i64_in (z * 1117) (by omega)
    have w7 := IntWalk.i64_in (y * 131 + z * 1117) (by omega)
    have w8 := IntWalk.i64_in ((p : Int) * 29) (by omega)
    have w9 := IntWalk.i64_in (y * 131 + z * 1117 + (p : Int) * 29) (by omega)
    have w10 := IntWalk.i64_in ((p : Int) / (bs.length : Int)) (by omega)
    have w11 := IntWalk.i64_in ((p : Int) / (bs.length : Int) * 53) (by omega)
    have w12 := IntWalk.i64_in (y * 131 + z * 1117 + (p : Int) * 29 + (p : Int) / (bs.length : Int) * 53) (by omega)
    have w13 := IntWalk.i64_in y (by omega)
    have w14 := IntWalk.i64_in z (by omega)
    obtain ⟨X, hX⟩ : ∃ X, X = y * 131 + z * 1117 + (p : Int) * 29 + (p : Int) / (bs.length : Int) * 53 := ⟨_, rfl⟩
    have hX0 : 0 ≤ X ∧ X < 1000000000 := by omega
    have hd0 : 0 ≤ X / 64 ∧ X / 64 < 1000000000 := by omega
    obtain ⟨hx0, hx1⟩ := i64_xor_nn X (X / 64) hX0.1 (by omega) hd0.1 (by omega)
    generalize hZ : bits .xor .i64 X (X / 64) = Z at hx0 hx1
    have hm1 := Int.emod_lt_of_pos Z (show 0 < n by omega)
    have hm0 := Int.emod_nonneg Z (show n ≠ 0 by omega)
    rw [hX] at hZ
    go_enter Try.func69, Try.ntmps69
    go_wp2_with fail
    go_quiet (fail)
    go_wp2_with fail
    go_ret
    exact ⟨Z % n, rfl, hm0, by omega, fun _ => hm1, hRd, hgr.os, hgr.tape, hgr.output, hgr.size, hgr.block⟩

set_option maxHeartbeats 800000 in
theorem one_any (B g k : Nat) (A : Option Addr) (c : Nat) (xs : List Int) (w : World) (h : Rdr w B g k) (hk : k ≤ 100000) (hr : Rd w w.heap.size .i64 A xs) (hne : ∀ b, blk A = some b → b ≠ g) (hl : 0 < xs.length) (hl' : xs.length ≤ 1000) :
    Calls Try.prog 68 #[.pointer (some ⟨g, 0, none⟩), .slice A xs.length c] w fun e w' => ∃ x : Int, e = .returned (.int .i64 x) ∧ x ∈ xs ∧ Rdr w' B g (k + 1) ∧ w.grownBy w' (some g) := by
  go_enter Try.func68, Try.ntmps68
  go_wp2_with fail
  refine (pick_any B g k _ _ h hk (by omega)).mono ?_; rintro e w1 ⟨x, rfl, hx0, _, hx1, hR1, hg1⟩
  have hx1 := hx1 (by omega)
  obtain ⟨a, y, rfl, hA, hcell, HY⟩ := hr.get (show x.toNat < xs.length by omega)
  have hcell' : w1.cell? (a.add x.toNat) = some (.int .i64 y) := (hg1.cell_far _ (by rw [addBlock]; exact hA) (by rw [addBlock]; simpa using hne _ rfl)).trans hcell
  go_wp2_with fail
  go_ret
  exact ⟨y, rfl, by rw [HY.out]; exact mem_getD (by omega), hR1, hg1⟩

set_option maxHeartbeats 800000 in
theorem newReader_any (A : Option Addr) (c : Nat) (bs : List Int) (w : World) (hr : Rd w w.heap.size .u8 A bs) (hl : bs.length ≤ maxLen) (hc : bs.length ≤ c) (hb : ∀ x ∈ bs, 0 ≤ x ∧ x ≤ 255) :
    Calls Try.prog 55 #[.slice A bs.length c] w fun e w' => ∃ g, e = .returned (.pointer (some ⟨g, 0, none⟩)) ∧ Rdr w' w.heap.size g 0 ∧ Below w.heap.size w w' := by
  by_cases h : bs.length > 2000
  · go_enter Try.func55, Try.ntmps55
    go_wp2_with fail
    go_ret
    refine ⟨w.heap.size, rfl, ⟨Nat.le_refl _, by simp, A, c, bs.take 2000, 0, ?_, ?_, ?_, ?_, by rw [List.length_take]; omega, fun x hx => hb x (List.mem_of_mem_take hx), Nat.le_refl _⟩, (by (repeat' (first | (with_reducible exact Below.refl _ _) | (with_reducible assumption) | (with_reducible refine Below.setCell ?_ ?_ _) | (with_reducible refine Below.al ?_ _) | (with_reducible refine Below.drew ?_) | (with_reducible refine Below.drN ?_ _) | (with_reducible refine Below.step ?_ (by assumption)) | (with_reducible refine Below.alloc ?_ ?_ _))); all_goals (simp; try omega))⟩
    · rw [List.length_take, Nat.min_eq_left (by omega)]; simp
    · simp
    · simp
    · exact (hr.alloc (Nat.le_refl _) _).take 2000
  · go_enter Try.func55, Try.ntmps55
    go_wp2_with fail
    go_ret
    refine ⟨w.heap.size, rfl, ⟨Nat.le_refl _, by simp, A, c, bs, 0, ?_, ?_, ?_, ?_, by omega, hb, Nat.le_refl _⟩, (by (repeat' (first | (with_reducible exact Below.refl _ _) | (with_reducible assumption) | (with_reducible refine Below.setCell ?_ ?_ _) | (with_reducible refine Below.al ?_ _) | (with_reducible refine Below.drew ?_) | (with_reducible refine Below.drN ?_ _) | (with_reducible refine Below.step ?_ (by assumption)) | (with_reducible refine Below.alloc ?_ ?_ _))); all_goals (simp; try omega))⟩
    · simp
    · simp
    · simp
    · exact hr.alloc (Nat.le_refl _) _
end Go.Proofs.Ytipgopapohigpaa
