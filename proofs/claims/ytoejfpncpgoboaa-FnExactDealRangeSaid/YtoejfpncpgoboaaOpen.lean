/- The arguments of a law, opened: an integer, a bool, a slice of integers, a struct of such fields. No condition. -/
import Derived.Test.YtoejfpncpgoboaaWords
import Derived.ProofKit
import Derived.OpenShut
import Derived.Deep.Slices
import Derived.Deep.Fields
import Derived.ChangeOld
set_option linter.unusedVariables false
namespace Go.Proofs.Ytoejfpncpgoboaa
open Go.ChangeShapes Go.WideShapes Go.ChangeAt Go.RowKit Go.Deep

theorem own : ownKnob Try.prog.godebug = none := by kernel_rfl
theorem laidOut : laidOutB Try.prog = true := by kernel_rfl

section
variable {H : Type} {enc : TypeId × Value → H} {P : Program} {w : World} {base : Nat} {spare : Nat → Bool} {held : Bool}
/-- A slice of integers that came in. -/
theorem openInts {t e : TypeId} {k : IntKind} {fuel : Nat} {c0 : Value} {y : DataW H × List MemPlace} (ht : P.underlying t = some (.slice e)) (he : P.underlying e = some (.int k)) (hc : P.cellsOf e = 1)
    (h : DataW.trod enc P w base spare held fuel t [c0] = some y) :
    ∃ (A : Option Addr) (c : Nat) (xs : List Int), c0 = .slice A xs.length c ∧ Rd w w.heap.size k A xs ∧ xs.length ≤ maxLen ∧ (∀ x ∈ xs, (Lit.int k x).wf = true) := by
  rcases open_ints ht he hc h with ⟨hcs, _⟩ | ⟨a, l, c, zs, hcs, _, hl, hm, hz, _, hcell, hwz⟩
  · simp at hcs
    exact ⟨none, 0, [], by simpa using hcs, Rd.nil _ _ _ _, by simp [maxLen], by simp⟩
  · simp at hcs
    have hlz : l ≤ zs.length := by rw [hz]; split <;> omega
    have hlen : (zs.take l).length = l := by rw [List.length_take]; omega
    refine ⟨some a, c, zs.take l, by rw [hlen]; exact hcs, ?_, by rw [hlen]; omega, fun x hx => hwz x (List.mem_of_mem_take hx)⟩
    intro j hj
    rw [hlen] at hj
    have hj' := hcell j (by omega)
    have e : (zs.take l).getD j 0 = zs.getD j 0 := by simp [List.getD_eq_getElem?_getD, hj]
    refine ⟨a, rfl, ?_, by rw [e]; exact hj'⟩
    have := World.block_lt_of_cell? w _ hj'
    rwa [addBlock] at this

/-- A slice of bytes that came in. -/
theorem openBytes {t e : TypeId} {fuel : Nat} {c0 : Value} {y : DataW H × List MemPlace} (ht : P.underlying t = some (.slice e)) (he : P.underlying e = some (.int .u8)) (hc : P.cellsOf e = 1)
    (h : DataW.trod enc P w base spare held fuel t [c0] = some y) :
    ∃ (A : Option Addr) (c : Nat) (xs : List Int), c0 = .slice A xs.length c ∧ Rd w w.heap.size .u8 A xs ∧ xs.length ≤ maxLen ∧ xs.length ≤ c ∧ (∀ x ∈ xs, 0 ≤ x ∧ x ≤ 255) := by
  rcases open_ints ht he hc h with ⟨hcs, _⟩ | ⟨a, l, c, zs, hcs, _, hl, hm, hz, _, hcell, hwz⟩
  · simp at hcs
    exact ⟨none, 0, [], by simpa using hcs, Rd.nil _ _ _ _, by simp [maxLen], by simp, by simp⟩
  · simp at hcs
    have hlz : l ≤ zs.length := by rw [hz]; split <;> omega
    have hlen : (zs.take l).length = l := by rw [List.length_take]; omega
    refine ⟨some a, c, zs.take l, by rw [hlen]; exact hcs, ?_, by rw [hlen]; omega, by rw [hlen]; omega, fun x hx => by have := hwz x (List.mem_of_mem_take hx); simpa [Lit.wf, IntKind.min, IntKind.max, IntKind.signed, IntKind.bits] using this⟩
    intro j hj
    rw [hlen] at hj
    have hj' := hcell j (by omega)
    have e : (zs.take l).getD j 0 = zs.getD j 0 := by simp [List.getD_eq_getElem?_getD, hj]
    refine ⟨a, rfl, ?_, by rw [e]; exact hj'⟩
    have := World.block_lt_of_cell? w _ hj'
    rwa [addBlock] at this

/-- A struct of one-cell fields that came in, field by field. -/
theorem openStruct {r : Reach} {b0 : Nat} {t : TypeId} {fs : Array Field} {v : Value} {d : DataW H} {p : List MemPlace} (hs : P.underlying t = some (.struct fs)) (hone : oneCellFields P fs = true) (hC : P.cellsOf t = fs.size)
    (hv : Value.okWide P w r b0 t v) (h : DataW.Trod enc P w base spare held t v d p) :
    ∃ cs : List Value, v = .agg cs.toArray ∧ cs.length = fs.size ∧ ∀ (j : Nat) (f : Field), fs[j]? = some f → ∃ (c : Value) (n : Nat) (y : DataW H × List MemPlace), cs[j]? = some c ∧ DataW.trod enc P w base spare held n f.type [c] = some y := by
  obtain ⟨ca, rfl, hsz⟩ := okWide_struct hs hv
  obtain ⟨cs⟩ := ca
  have hl : cs.length = fs.size := by rw [← hC, ← hsz]; rfl
  obtain ⟨fuel, hf⟩ := h
  obtain ⟨xs, n, _, _, _, hlen, hg⟩ := DataW.trod_struct hs hf
  refine ⟨cs, rfl, hl, fun j f hj => ?_⟩
  obtain ⟨o0, k0⟩ := hone_of hone j f hj
  have hjl : j < fs.size := (Array.getElem?_eq_some_iff.1 hj).1
  have h1 := hg j f hj
  have e1 : Value.cells (.agg cs.toArray) = cs.toArray := rfl
  rw [o0, k0, e1] at h1
  have e2 : (cs.drop j).take 1 = [cs[j]'(by omega)] := by
    rw [List.drop_eq_getElem_cons (by omega)]
    rfl
  simp only [e2] at h1
  have e3 : xs[j]? = some (xs[j]'(by omega)) := List.getElem?_eq_getElem (by omega)
  exact ⟨_, n, _, List.getElem?_eq_getElem (by omega), h1.trans e3⟩
end

theorem list1 {α : Type} {l : List α} (h : l.length = 1) : ∃ a, l = [a] := by
  match l, h with
  | [a], _ => exact ⟨a, rfl⟩
theorem list2 {α : Type} {l : List α} (h : l.length = 2) : ∃ a b, l = [a, b] := by
  match l, h with
  | [a, b], _ => exact ⟨a, b, rfl⟩
theorem list3 {α : Type} {l : List α} (h : l.length = 3) : ∃ a b c, l = [a, b, c] := by
  match l, h with
  | [a, b, c], _ => exact ⟨a, b, c, rfl⟩
theorem list5 {α : Type} {l : List α} (h : l.length = 5) : ∃ a b c d e, l = [a, b, c, d, e] := by
  match l, h with
  | [a, b, c, d, e], _ => exact ⟨a, b, c, d, e, rfl⟩

theorem fieldInt {H : Type} {enc : TypeId × Value → H} {P : Program} {w : World} {base : Nat} {spare : Nat → Bool} {held : Bool} {t : TypeId} {k : IntKind} {n : Nat} {c : Value} {y : DataW H × List MemPlace}
    (ht : P.underlying t = some (.int k)) (h : DataW.trod enc P w base spare held n t [c] = some y) : ∃ x, c = .int k x ∧ (Lit.int k x).wf = true := by
  obtain ⟨x, hc, _, hw⟩ := DataW.trod_int ht h
  exact ⟨x, by simpa using hc, hw⟩
theorem fieldBool {H : Type} {enc : TypeId × Value → H} {P : Program} {w : World} {base : Nat} {spare : Nat → Bool} {held : Bool} {t : TypeId} {n : Nat} {c : Value} {y : DataW H × List MemPlace}
    (ht : P.underlying t = some .bool) (h : DataW.trod enc P w base spare held n t [c] = some y) : ∃ x, c = .bool x := by
  obtain ⟨x, hc, _⟩ := DataW.trod_bool ht h
  exact ⟨x, by simpa using hc⟩
end Go.Proofs.Ytoejfpncpgoboaa
