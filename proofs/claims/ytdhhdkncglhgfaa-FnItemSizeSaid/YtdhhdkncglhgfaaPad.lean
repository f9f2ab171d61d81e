/- The walk over the bytes that no field of a format takes. -/
import Derived.Test.YtdhhdkncglhgfaaForm4
import Derived.Test.YtdhhdkncglhgfaaCells
import Derived.Deep.OwnRows
set_option linter.unusedSimpArgs false
set_option linter.unusedVariables false
namespace Go.Proofs.Ytdhhdkncglhgfaa
open Go.RowKit

/-- How many of a list are true. -/
def cT (bs : List Bool) : Nat := bs.count true
theorem cT_set {bs : List Bool} {p : Nat} (h : bs.getD p false = true) : cT (bs.set p false) + 1 = cT bs := by
  induction bs generalizing p with
  | nil => simp at h
  | cons b l ih =>
    rcases p with _ | p
    · simp at h
      subst h
      simp [cT]
    · have := ih (p := p) (by simpa using h)
      rw [List.set_cons_succ]
      unfold cT at this ⊢
      rw [List.count_cons, List.count_cons]
      omega
theorem cT_rep (n : Nat) : cT (List.replicate n true) = n := by simp [cT]
theorem cT_take {bs : List Bool} {k : Nat} (hk : k < bs.length) : cT (bs.take (k + 1)) = cT (bs.take k) + (if bs.getD k false = true then 1 else 0) := by
  rw [List.take_add_one, List.getElem?_eq_getElem hk]
  unfold cT
  rw [List.count_append]
  simp [List.getD_eq_getElem?_getD, hk]
  cases bs[k] <;> simp
theorem rep_set (n k : Nat) (hk : k < n) : (List.replicate k true ++ List.replicate (n - k) false).set k true = List.replicate (k + 1) true ++ List.replicate (n - (k + 1)) false := by
  have h2 : n - k = (n - (k + 1)) + 1 := by omega
  rw [List.set_append_right _ _ (by simp), List.length_replicate, Nat.sub_self, h2, List.replicate_succ, List.set_cons_zero, List.replicate_succ', List.append_assoc]
  rfl
theorem getD_set_ne {bs : List Bool} {p q : Nat} (h : p ≠ q) (b : Bool) : (bs.set p b).getD q false = bs.getD q false := by
  simp [List.getD_eq_getElem?_getD, List.getElem?_set_ne h]
theorem fAt_mono {al : Bool} {xs : List Int} (h : SzL xs) (k : Nat) (hk : k ≤ xs.length) : fAt al xs k ≤ fAt al xs xs.length := by
  obtain ⟨d, hd⟩ : ∃ d, xs.length = k + d := ⟨xs.length - k, by omega⟩
  have : ∀ d, k + d ≤ xs.length → fAt al xs k ≤ fAt al xs (k + d) := fun d => by
    induction d with
    | zero => intro _; exact Int.le_refl _
    | succ d ih =>
      intro hd
      have h1 := ih (by omega)
      have h2 := fPl_bd (al := al) h (k + d) (by omega)
      have h3 : 1 ≤ xs.getD (k + d) 0 := by rcases h (k + d) (by omega) with e | e | e <;> omega
      rw [← Nat.add_assoc, fAt_succ]
      omega
  have := this d (by omega)
  rwa [← hd] at this
theorem itS_bd {al : Bool} {xs : List Int} (h : formB xs = true) : fAt al xs xs.length ≤ itS al xs ∧ itS al xs ≤ 40 ∧ 0 ≤ itS al xs := by
  obtain ⟨h1, h5, hs⟩ := form_szl h
  have a := fAt_bd (al := al) hs xs.length (Nat.le_refl _)
  have b := rup_bd a.1 (fMx_sz (al := al) hs xs.length (Nat.le_refl _))
  unfold itS
  omega
theorem fPl_end {al : Bool} {xs : List Int} (h : formB xs = true) (k : Nat) (hk : k < xs.length) : 0 ≤ fPl al xs k ∧ fPl al xs k + xs.getD k 0 ≤ itS al xs := by
  obtain ⟨h1, h5, hs⟩ := form_szl h
  have a := fAt_mono (al := al) hs (k + 1) hk
  rw [fAt_succ] at a
  have b := itS_bd (al := al) h
  have c := fAt_bd (al := al) hs k (by omega)
  have d := fPl_bd (al := al) hs k hk
  omega
theorem fMx_ge {xs : List Int} (h : SzL xs) (j k : Nat) (hj : j < k) (hk : k ≤ xs.length) : xs.getD j 0 ≤ fMx true xs k := by
  induction k with
  | zero => omega
  | succ k ih =>
    rw [fMx]
    rcases Nat.lt_or_ge j k with h' | h'
    · have := ih h' (by omega)
      split <;> omega
    · obtain rfl : j = k := by omega
      split
      · exact Int.le_refl _
      · rename_i hn; simp at hn; exact hn
theorem itS_mod {xs : List Int} (h : formB xs = true) (j : Nat) (hj : j < xs.length) : itS true xs % xs.getD j 0 = 0 := by
  obtain ⟨h1, h5, hs⟩ := form_szl h
  have a := fMx_ge hs j xs.length hj (Nat.le_refl _)
  have b := fMx_sz (al := true) hs xs.length (Nat.le_refl _)
  unfold itS rup
  generalize (fAt true xs xs.length + fMx true xs xs.length - 1) / fMx true xs xs.length = q
  have c := hs j hj
  rcases b with b | b | b <;> rcases c with c | c | c <;> rw [b] at a ⊢ <;> rw [c] at a ⊢ <;> omega

theorem Try.infoBool : (Try.prog.info? 4).map (fun i => (i.zero, i.size, i.bytes)) = some (some (.bool false), 1, 1) := by kernel_rfl
/-- Block G holds the Booleans bs. -/
def Bb (w : World) (G : Nat) (bs : List Bool) : Prop := Bx w G (bs.map Value.bool)
theorem Bb.cell {w : World} {G : Nat} {bs : List Bool} (h : Bb w G bs) {j : Nat} (hj : j < bs.length) : w.cell? ⟨G, j, none⟩ = some (.bool (bs.getD j false)) := by
  refine Bx.cell h j ?_
  rw [List.getElem?_map, List.getElem?_eq_getElem hj]
  simp [List.getD_eq_getElem?_getD, hj]
theorem Bb.set {w : World} {G : Nat} {bs : List Bool} (h : Bb w G bs) (j : Nat) (b : Bool) : Bb (w.setCell ⟨G, j, none⟩ (.bool b)) G (bs.set j b) := by
  have := Bx.set h j (.bool b)
  unfold Bb
  rw [List.map_set]
  exact this
theorem Bb.made (w : World) (n : Nat) : Bb (w.alloc (.cells (madeCells #[Value.bool false] n) 4)) w.heap.size (List.replicate n false) := by
  refine ⟨4, ?_⟩
  rw [heap_alloc_new]
  congr 2
  apply Array.toList_inj.1
  rw [toList_madeCells_one]
  simp
end Go.Proofs.Ytdhhdkncglhgfaa
