/- The reader of the generators: its state, its numbers. -/
import Derived.Test.YtoejfpncpgoboaaLists
set_option linter.unusedVariables false
namespace Go.Proofs.Ytoejfpncpgoboaa
open Go.RowKit

theorem i64_xor_nn (a b : Int) (h1 : 0 ≤ a) (h2 : a < 1099511627776) (h3 : 0 ≤ b) (h4 : b < 1099511627776) : 0 ≤ bits .xor .i64 a b ∧ bits .xor .i64 a b < 1099511627776 := by
  obtain ⟨m, rfl⟩ := Int.eq_ofNat_of_zero_le h1
  obtain ⟨n, rfl⟩ := Int.eq_ofNat_of_zero_le h3
  have hx : m ^^^ n < 2 ^ 40 := Nat.xor_lt_two_pow (by omega) (by omega)
  have e1 : (BitVec.ofInt 64 (m : Int)).toNat = m := by
    rw [BitVec.ofInt_natCast, BitVec.toNat_ofNat]; exact Nat.mod_eq_of_lt (by omega)
  have e2 : (BitVec.ofInt 64 (n : Int)).toNat = n := by
    rw [BitVec.ofInt_natCast, BitVec.toNat_ofNat]; exact Nat.mod_eq_of_lt (by omega)
  have e : bits .xor .i64 (m : Int) (n : Int) = ((m ^^^ n : Nat) : Int) := by
    show IntKind.i64.wrap ((BitVec.ofInt 64 (m : Int) ^^^ BitVec.ofInt 64 (n : Int)).toNat : Int) = _
    rw [BitVec.toNat_xor, e1, e2]
    exact IntWalk.i64_in _ (by omega)
  rw [e]
  omega

theorem mem_getD {xs : List Int} {j : Nat} (h : j < xs.length) : xs.getD j 0 ∈ xs := by
  rw [List.getD_eq_getElem?_getD, List.getElem?_eq_getElem h]
  exact List.getElem_mem h

theorem gcell {w w1 : World} {g : Nat} (hg : w.grownBy w1 (some g)) : (∀ b o, b < w.heap.size → b ≠ g → w1.cell? ⟨b, o, none⟩ = w.cell? ⟨b, o, none⟩) ∧ (∀ b o, b < w.heap.size → b ≠ g → w1.frozen? ⟨b, o, none⟩ = w.frozen? ⟨b, o, none⟩) :=
  ⟨fun b o h hne => hg.cell_far ⟨b, o, none⟩ h (by simpa using hne), fun b o h hne => hg.frozen_far ⟨b, o, none⟩ h (by simpa using hne)⟩

/-- The reader lies in block g, from B on; its bytes lie below B; k bounds the place at which it stands. -/
def Rdr (w : World) (B g k : Nat) : Prop :=
  B ≤ g ∧ g < w.heap.size ∧ ∃ (A : Option Addr) (c : Nat) (bs : List Int) (p : Nat), w.cell? ⟨g, 0, none⟩ = some (.slice A bs.length c) ∧ w.cell? ⟨g, 1, none⟩ = some (.int .i64 (p : Int)) ∧ w.frozen? ⟨g, 1, none⟩ = false ∧ Rd w B .u8 A bs ∧ bs.length ≤ 2000 ∧ (∀ x ∈ bs, 0 ≤ x ∧ x ≤ 255) ∧ p ≤ k

section
variable {w w' : World} {B g k : Nat}
theorem Rdr.lt (h : Rdr w B g k) : g < w.heap.size := h.2.1
theorem Rdr.ge (h : Rdr w B g k) : B ≤ g := h.1
theorem Rdr.le {k' : Nat} (h : Rdr w B g k) (hk : k ≤ k') : Rdr w B g k' := by
  obtain ⟨h1, h2, A, c, bs, p, h3, h4, h5, h6, h7, h8, h9⟩ := h
  exact ⟨h1, h2, A, c, bs, p, h3, h4, h5, h6, h7, h8, by omega⟩
theorem Rdr.below (h : Rdr w B g k) (hb : Below w.heap.size w w') : Rdr w' B g k := by
  obtain ⟨h1, h2, A, c, bs, p, h3, h4, h5, h6, h7, h8, h9⟩ := h
  obtain ⟨hc, hf⟩ := bcell hb
  exact ⟨h1, Nat.lt_of_lt_of_le h2 hb.size, A, c, bs, p, (hc _ _ h2).trans h3, (hc _ _ h2).trans h4, (hf _ _ h2).trans h5, h6.keep (fun q hq => hb.cell (by omega)), h7, h8, h9⟩
theorem Rdr.alloc (h : Rdr w B g k) (o : Obj) : Rdr (w.alloc o) B g k := h.below ((Below.refl _ _).alloc (Nat.le_refl _) o)
theorem Rdr.drew (h : Rdr w B g k) : Rdr w.drew B g k := h
theorem Rdr.set {b o : Nat} (h : Rdr w B g k) (hb : b ≠ g) (hB : B ≤ b) (v : Value) : Rdr (w.setCell ⟨b, o, none⟩ v) B g k := by
  obtain ⟨h1, h2, A, c, bs, p, h3, h4, h5, h6, h7, h8, h9⟩ := h
  have hg : w.grownBy (w.setCell ⟨b, o, none⟩ v) (some b) := grown_setCell ⟨rfl, rfl, rfl, Nat.le_refl _, fun _ _ _ => rfl⟩ rfl v
  obtain ⟨hc, hf⟩ := gcell hg
  refine ⟨h1, Nat.lt_of_lt_of_le h2 hg.size, A, c, bs, p, (hc _ _ h2 (Ne.symm hb)).trans h3, (hc _ _ h2 (Ne.symm hb)).trans h4, (hf _ _ h2 (Ne.symm hb)).trans h5, h6.keep (fun q hq => hg.cell_far q (by omega) (by simp; omega)), h7, h8, h9⟩
end

end Go.Proofs.Ytoejfpncpgoboaa
