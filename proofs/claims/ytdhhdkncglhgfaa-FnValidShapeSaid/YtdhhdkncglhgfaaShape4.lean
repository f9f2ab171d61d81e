/- The walks over shapes, further: the index with a rank. -/
import Derived.Test.YtdhhdkncglhgfaaShape3
set_option linter.unusedVariables false
namespace Go.Proofs.Ytdhhdkncglhgfaa
open Go.RowKit

/-- What is left of a rank behind the last m dimensions, and the last m numbers of its index. -/
def unK (xs : List Int) (k : Int) : Nat → Int
  | 0 => k
  | m + 1 => unK xs k m / xs.getD (xs.length - 1 - m) 0
def unL (xs : List Int) (k : Int) : Nat → List Int
  | 0 => []
  | m + 1 => (unK xs k m % xs.getD (xs.length - 1 - m) 0) :: unL xs k m
theorem unL_length (xs : List Int) (k : Int) (m : Nat) : (unL xs k m).length = m := by
  induction m with
  | zero => rfl
  | succ m ih => simp [unL, ih]
/-- At most four extents, each between 1 and 60. -/
def ExtP (xs : List Int) : Prop := xs.length ≤ 4 ∧ ∀ j, j < xs.length → 1 ≤ xs.getD j 0 ∧ xs.getD j 0 ≤ 60
theorem ExtP.get {xs : List Int} (h : ExtP xs) {j : Nat} {y : Int} (hj : j < xs.length) (hy : Hid (y = xs.getD j 0)) : 1 ≤ y ∧ y ≤ 60 := by rw [hy.out]; exact h.2 j hj
theorem unK_bd (xs : List Int) (k : Int) (h : ExtP xs) (hk : 0 ≤ k) (m : Nat) (hm : m ≤ xs.length) : 0 ≤ unK xs k m ∧ unK xs k m ≤ k := by
  induction m with
  | zero => exact ⟨hk, Int.le_refl _⟩
  | succ m ih =>
    obtain ⟨i1, i2⟩ := ih (by omega)
    obtain ⟨h1, h2⟩ := h.2 (xs.length - 1 - m) (by omega)
    refine ⟨Int.ediv_nonneg i1 (by omega), Int.le_trans (Int.ediv_le_self _ i1) i2⟩
theorem prod_zero_iff (xs : List Int) (j : Nat) (hj : j < xs.length) (h : xs.getD j 0 = 0) : prod xs = 0 := by
  induction xs generalizing j with
  | nil => simp at hj
  | cons x l ih =>
    rw [prod_cons]
    cases j with
    | zero => simp at h; rw [h, Int.zero_mul]
    | succ j => rw [ih j (by simpa using hj) (by simpa using h), Int.mul_zero]
theorem extP_of {xs : List Int} (h : Ext xs) (hp : 0 < prod xs) : ExtP xs := ⟨h.1, fun j hj => by
  have := h.2 j hj
  by_cases h0 : xs.getD j 0 = 0
  · have := prod_zero_iff xs j hj h0; omega
  · omega⟩

set_option maxHeartbeats 1600000 in
theorem unrank_any (A : Option Addr) (c : Nat) (xs : List Int) (k : Int) (w : World) (hr : Rd w w.heap.size .i64 A xs) (hx : ExtP xs) (hk : 0 ≤ k) (hk' : k ≤ 1000000) : Calls Try.prog 93 #[.slice A xs.length c, .int .i64 k] w (RetInts w (unL xs k xs.length)) := by
  have hl := hx.1
  have HX := Lib.hid hx
  clear hx
  go_enter Try.func93, Try.ntmps93
  go_wp2_with (at_make; refine wpList_mk1 _ rfl _ (by rfl) xs.length _ (by rfl) rfl (by omega) ?_; intro w1 hown1 hb1 hz1)
  go_loopw [1, 6] (fun kk i wr => ∃ m q : Nat, q + m = xs.length ∧ i = .int .i64 ((q : Int) - 1) ∧ kk = .int .i64 (unK xs k m) ∧ Own wr w.heap.size (some ⟨w.heap.size, 0, none⟩) xs.length (List.replicate q 0 ++ unL xs k m) ∧ Below w.heap.size w wr) (fun _ i _ => (intOf i + 1).toNat)
  case atStart => exact ⟨0, xs.length, by omega, rfl, rfl, by rw [unL, List.append_nil]; exact hown1, hb1⟩
  case round =>
    obtain ⟨m, q, hmq, rfl, rfl, hown, hbl⟩ := hrel
    by_cases hlt : 0 < q
    · obtain ⟨p, rfl⟩ : ∃ p, q = p + 1 := ⟨q - 1, by omega⟩
      have e1 : ((p + 1 : Nat) : Int) - 1 = (p : Int) := by omega
      rw [e1]
      obtain ⟨ad, y, rfl, had, hcell, HY⟩ := (hr.below hbl).get (j := p) (by omega)
      have by1 := HX.out.get (by omega) HY
      have hcell2 : ∀ u, (wr.setCell ⟨w.heap.size, p, none⟩ u).cell? (ad.add p) = some (.int .i64 y) := fun u => by
        rw [World.cell?_setCell_other _ _ _ _ (far_add had).symm]; exact hcell
      have hlen : (List.replicate (p + 1) (0 : Int) ++ unL xs k m).length = xs.length := by rw [List.length_append, List.length_replicate, unL_length]; omega
      obtain ⟨g, z, hg, _, _, hcz, hfz, _⟩ := hown.at_ (j := p) (by rw [hlen]; omega)
      injection hg with hg
      injection hg with hg _ _
      subst hg
      have hub := unK_bd xs k HX.out hk m (by omega)
      obtain ⟨u, hu⟩ : ∃ u, u = unK xs k m := ⟨_, rfl⟩
      rw [← hu] at hub ⊢
      have hpi : xs.length - 1 - m = p := by omega
      have HK : Hid (unK xs k (m + 1) = u / y) := by show _ = _; rw [unK, hpi, ← HY.out, ← hu]
      have HLL : Hid (unL xs k (m + 1) = (u % y) :: unL xs k m) := by show _ = _; rw [unL, hpi, ← HY.out, ← hu]
      have HO := hown.set p (u % y)
      rw [fill_back, ← HLL.out] at HO
      have HO2 := Lib.hid HO
      obtain ⟨b4, b5⟩ := hub
      clear hlen hown hown1 hu HO e1 hpi
      go_wp2
      go_roundw
      case rel => exact ⟨m + 1, p, by omega, by go_num, by rw [HK.out], HO2.out, hbl.setCell (Nat.le_refl _) _⟩
      case measure => simp [intOf]
    · obtain rfl : q = 0 := by omega
      obtain rfl : m = xs.length := by omega
      have hO : Own wr w.heap.size (some ⟨w.heap.size, 0, none⟩) xs.length (unL xs k xs.length) := by simpa using hown
      have HO := Lib.hid hO
      have HLL := Lib.hid (unL_length xs k xs.length)
      clear hown hown1 hO
      go_wp2
      go_ret
      exact ⟨_, _, by rw [HLL.out]; rfl, HO.out, hbl⟩
set_option maxHeartbeats 1600000 in
theorem indexAt_any (A : Option Addr) (c : Nat) (xs : List Int) (k : Int) (w : World) (hr : Rd w w.heap.size .i64 A xs) (hx : ExtP xs) (hk : 0 ≤ k) (hk' : k ≤ 1000000) : Calls Try.prog 92 #[.slice A xs.length c, .int .i64 k] w (RetInts w (unL xs k xs.length)) := by
  have hl := hx.1
  have HX := Lib.hid hx
  clear hx
  go_enter Try.func92, Try.ntmps92
  go_wp2_with (at_make; refine wpList_mk1 _ rfl _ (by rfl) xs.length _ (by rfl) rfl (by omega) ?_; intro w1 hown1 hb1 hz1)
  go_loopw [1, 6] (fun kk i wr => ∃ m q : Nat, q + m = xs.length ∧ i = .int .i64 ((q : Int) - 1) ∧ kk = .int .i64 (unK xs k m) ∧ Own wr w.heap.size (some ⟨w.heap.size, 0, none⟩) xs.length (List.replicate q 0 ++ unL xs k m) ∧ Below w.heap.size w wr) (fun _ i _ => (intOf i + 1).toNat)
  case atStart => exact ⟨0, xs.length, by omega, rfl, rfl, by rw [unL, List.append_nil]; exact hown1, hb1⟩
  case round =>
    obtain ⟨m, q, hmq, rfl, rfl, hown, hbl⟩ := hrel
    by_cases hlt : 0 < q
    · obtain ⟨p, rfl⟩ : ∃ p, q = p + 1 := ⟨q - 1, by omega⟩
      have e1 : ((p + 1 : Nat) : Int) - 1 = (p : Int) := by omega
      rw [e1]
      obtain ⟨ad, y, rfl, had, hcell, HY⟩ := (hr.below hbl).get (j := p) (by omega)
      have by1 := HX.out.get (by omega) HY
      have hcell2 : ∀ u, (wr.setCell ⟨w.heap.size, p, none⟩ u).cell? (ad.add p) = some (.int .i64 y) := fun u => by
        rw [World.cell?_setCell_other _ _ _ _ (far_add had).symm]; exact hcell
      have hlen : (List.replicate (p + 1) (0 : Int) ++ unL xs k m).length = xs.length := by rw [List.length_append, List.length_replicate, unL_length]; omega
      obtain ⟨g, z, hg, _, _, hcz, hfz, _⟩ := hown.at_ (j := p) (by rw [hlen]; omega)
      injection hg with hg
      injection hg with hg _ _
      subst hg
      have hub := unK_bd xs k HX.out hk m (by omega)
      obtain ⟨u, hu⟩ : ∃ u, u = unK xs k m := ⟨_, rfl⟩
      rw [← hu] at hub ⊢
      have hpi : xs.length - 1 - m = p := by omega
      have HK : Hid (unK xs k (m + 1) = u / y) := by show _ = _; rw [unK, hpi, ← HY.out, ← hu]
      have HLL : Hid (unL xs k (m + 1) = (u % y) :: unL xs k m) := by show _ = _; rw [unL, hpi, ← HY.out, ← hu]
      have HO := hown.set p (u % y)
      rw [fill_back, ← HLL.out] at HO
      have HO2 := Lib.hid HO
      obtain ⟨b4, b5⟩ := hub
      clear hlen hown hown1 hu HO e1 hpi
      go_wp2
      go_roundw
      case rel => exact ⟨m + 1, p, by omega, by go_num, by rw [HK.out], HO2.out, hbl.setCell (Nat.le_refl _) _⟩
      case measure => simp [intOf]
    · obtain rfl : q = 0 := by omega
      obtain rfl : m = xs.length := by omega
      have hO : Own wr w.heap.size (some ⟨w.heap.size, 0, none⟩) xs.length (unL xs k xs.length) := by simpa using hown
      have HO := Lib.hid hO
      have HLL := Lib.hid (unL_length xs k xs.length)
      clear hown hown1 hO
      go_wp2
      go_ret
      exact ⟨_, _, by rw [HLL.out]; rfl, HO.out, hbl⟩
end Go.Proofs.Ytdhhdkncglhgfaa
