/- The walks over shapes, further: strides by rows and by columns. -/
import Derived.Test.YtdhhdkncglhgfaaShape1
set_option linter.unusedVariables false
namespace Go.Proofs.Ytdhhdkncglhgfaa
open Go.RowKit

/-- Strides whose first dimension is dense. -/
def colS (xs : List Int) : List Int := (List.range xs.length).map fun i => prod (xs.take i)
/-- Strides whose last dimension is dense. -/
def rowS (xs : List Int) : List Int := (List.range xs.length).map fun i => prod (xs.drop (i + 1))
theorem colS_length (xs : List Int) : (colS xs).length = xs.length := by simp [colS]
theorem rowS_length (xs : List Int) : (rowS xs).length = xs.length := by simp [rowS]
theorem colS_get (xs : List Int) (k : Nat) (h : k < xs.length) : (colS xs).getD k 0 = prod (xs.take k) := by simp [colS, List.getD_eq_getElem?_getD, h]
theorem rowS_get (xs : List Int) (k : Nat) (h : k < xs.length) : (rowS xs).getD k 0 = prod (xs.drop (k + 1)) := by simp [rowS, List.getD_eq_getElem?_getD, h]
theorem fold_mul (xs : List Int) (a : Int) : xs.foldl (· * ·) a = a * prod xs := by
  unfold prod
  induction xs generalizing a with
  | nil => simp
  | cons x l ih => simp only [List.foldl_cons]; rw [ih (a * x), ih (1 * x), Int.one_mul, Int.mul_assoc]
theorem prod_cons (x : Int) (l : List Int) : prod (x :: l) = x * prod l := by
  show List.foldl _ _ _ = _
  rw [List.foldl_cons, fold_mul, Int.one_mul]
theorem prod_drop (xs : List Int) (k : Nat) (h : k < xs.length) : prod (xs.drop k) = prod (xs.drop (k + 1)) * xs.getD k 0 := by
  rw [List.drop_eq_getElem_cons h, prod_cons, Int.mul_comm]
  simp [List.getD_eq_getElem?_getD, h]
theorem Ext.drop {xs : List Int} (h : Ext xs) (k : Nat) : Ext (xs.drop k) := by
  refine ⟨by rw [List.length_drop]; have := h.1; omega, fun j hj => ?_⟩
  rw [List.length_drop] at hj
  have := h.2 (k + j) (by omega)
  simpa [List.getD_eq_getElem?_getD] using this
theorem Ext.take {xs : List Int} (h : Ext xs) (k : Nat) : Ext (xs.take k) := by
  refine ⟨by rw [List.length_take]; have := h.1; omega, fun j hj => ?_⟩
  rw [List.length_take] at hj
  have := h.2 j (by omega)
  have hk : j < k := by omega
  simpa [List.getD_eq_getElem?_getD, hk] using this
theorem far_add {a : Addr} {g k j : Nat} (h : a.block < g) : a.add k ≠ ⟨g, j, none⟩ := fun e => by
  have := congrArg Addr.block e
  rw [addBlock] at this
  simp at this
  omega
theorem Rd.cut {w : World} {B : Nat} {k : IntKind} {A : Option Addr} {xs : List Int} (h : Rd w B k A xs) (i : Nat) : Rd w B k (A.map (·.add i)) (xs.drop i) := fun j hj => by
  rw [List.length_drop] at hj
  obtain ⟨a, rfl, hb, hc⟩ := h (i + j) (by omega)
  refine ⟨_, rfl, by rw [addBlock]; exact hb, ?_⟩
  rw [addAdd]
  simpa [List.getD_eq_getElem?_getD] using hc

set_option maxHeartbeats 1600000 in
theorem iColStrides_in (A : Option Addr) (c : Nat) (xs : List Int) (w : World) (hr : Rd w w.heap.size .i64 A xs) (hx : Ext xs) (hcap : xs.length ≤ c) : Calls Try.prog 89 #[.slice A xs.length c] w (RetInts w (colS xs)) := by
  have hl := hx.1
  have HX := Lib.hid hx
  clear hx
  go_enter Try.func89, Try.ntmps89
  go_wp2_with (at_make; refine wpList_mk1 _ rfl _ (by rfl) xs.length _ (by rfl) rfl (by omega) ?_; intro w1 hown1 hb1 hz1)
  go_loopw [10] (fun i wr => ∃ k : Nat, k ≤ xs.length ∧ i = .int .i64 k ∧ Own wr w.heap.size (some ⟨w.heap.size, 0, none⟩) xs.length ((colS xs).take k ++ List.replicate (xs.length - k) 0) ∧ Below w.heap.size w wr) (fun i _ => xs.length - (intOf i).toNat)
  case atStart => exact ⟨0, Nat.zero_le _, rfl, by simpa using hown1, hb1⟩
  case round =>
    obtain ⟨k, hk, rfl, hown, hbl⟩ := hrel
    by_cases hlt : k < xs.length
    · obtain ⟨ad, y, rfl, _, hcell, HY⟩ := (hr.below hbl).get hlt
      have hlen : ((colS xs).take k ++ List.replicate (xs.length - k) (0 : Int)).length = xs.length := by rw [List.length_append, List.length_take, List.length_replicate, colS_length]; omega
      obtain ⟨g, z, hg, _, _, hcz, hfz, _⟩ := hown.at_ (j := k) (by rw [hlen]; exact hlt)
      injection hg with hg
      injection hg with hg _ _
      subst hg
      obtain ⟨v, hv⟩ : ∃ v, v = (colS xs).getD k 0 := ⟨_, rfl⟩
      have HV := Lib.hid hv
      rw [colS_get xs k hlt] at hv
      have HVP := Lib.hid hv
      clear hv
      have HS := Lib.hid (set_take_snoc (colS xs) xs.length k v hlt HV (by rw [colS_length]; exact hlt))
      have HO := Lib.hid (hown.set k v)
      clear hlen hown hown1
      have HLT : Hid ((xs.take k).length = k) := by show _ = _; rw [List.length_take]; omega
      have hrt := (hr.below hbl).take k
      have hkc : k ≤ c := by omega
      go_wp2_with fail
      have e1 : Value.slice (some ad) k c = Value.slice (some ad) (xs.take k).length c := by rw [HLT.out]
      rw [e1]
      clear e1
      refine (countOf_any _ _ _ _ _ hrt (HX.out.take k)).mono ?_; rw [← HVP.out]; rintro e w2 ⟨rfl, rfl⟩
      go_wp2
      go_roundw
      case rel => exact ⟨k + 1, hlt, by go_num, by rw [← HS.out]; exact HO.out, hbl.setCell (Nat.le_refl _) _⟩
      case measure => simp [intOf]; omega
    · obtain rfl : k = xs.length := by omega
      have HO : Hid (Own wr w.heap.size (some ⟨w.heap.size, 0, none⟩) xs.length (colS xs)) := by
        have e : (colS xs).take xs.length ++ List.replicate (xs.length - xs.length) (0 : Int) = colS xs := by rw [List.take_of_length_le (by rw [colS_length]; exact Nat.le_refl _)]; simp
        rw [e] at hown; exact hown
      have HLL := Lib.hid (colS_length xs)
      clear hown hown1
      go_wp2
      go_ret
      exact ⟨_, _, by rw [HLL.out]; rfl, HO.out, hbl⟩

set_option maxHeartbeats 1600000 in
theorem sColStrides_in (A : Option Addr) (c : Nat) (xs : List Int) (w : World) (hr : Rd w w.heap.size .i64 A xs) (hx : Ext xs) (hcap : xs.length ≤ c) : Calls Try.prog 90 #[.slice A xs.length c] w (RetInts w (colS xs)) := by
  have hl := hx.1
  have HX := Lib.hid hx
  clear hx
  go_enter Try.func90, Try.ntmps90
  go_wp2_with (at_make; refine wpList_mk1 _ rfl _ (by rfl) xs.length _ (by rfl) rfl (by omega) ?_; intro w1 hown1 hb1 hz1)
  go_loopw [4, 5] (fun n i wr => ∃ k : Nat, k ≤ xs.length ∧ i = .int .i64 k ∧ n = .int .i64 (prod (xs.take k)) ∧ Own wr w.heap.size (some ⟨w.heap.size, 0, none⟩) xs.length ((colS xs).take k ++ List.replicate (xs.length - k) 0) ∧ Below w.heap.size w wr) (fun _ i _ => xs.length - (intOf i).toNat)
  case atStart => exact ⟨0, Nat.zero_le _, rfl, rfl, by simpa using hown1, hb1⟩
  case round =>
    obtain ⟨k, hk, rfl, rfl, hown, hbl⟩ := hrel
    by_cases hlt : k < xs.length
    · obtain ⟨ad, y, rfl, had, hcell, HY⟩ := (hr.below hbl).get hlt
      have hcell2 : ∀ u, (wr.setCell ⟨w.heap.size, k, none⟩ u).cell? (ad.add k) = some (.int .i64 y) := fun u => by
        rw [World.cell?_setCell_other _ _ _ _ (far_add had).symm]; exact hcell
      have hlen : ((colS xs).take k ++ List.replicate (xs.length - k) (0 : Int)).length = xs.length := by rw [List.length_append, List.length_take, List.length_replicate, colS_length]; omega
      obtain ⟨g, z, hg, _, _, hcz, hfz, _⟩ := hown.at_ (j := k) (by rw [hlen]; exact hlt)
      injection hg with hg
      injection hg with hg _ _
      subst hg
      obtain ⟨v, hv⟩ : ∃ v, v = (colS xs).getD k 0 := ⟨_, rfl⟩
      have HV := Lib.hid hv
      rw [colS_get xs k hlt] at hv
      have HVP := Lib.hid hv
      clear hv
      have HS := Lib.hid (set_take_snoc (colS xs) xs.length k v hlt HV (by rw [colS_length]; exact hlt))
      have HO := Lib.hid (hown.set k v)
      clear hlen hown hown1
      have HSS := take_snoc' hlt HY
      have b3 := HX.out.bd (k := k + 1) hlt
      rw [HSS.out, prod_snoc, ← HVP.out] at b3
      rw [← HVP.out]
      obtain ⟨b4, b5⟩ := b3
      go_wp2
      go_roundw
      case rel => exact ⟨k + 1, hlt, by go_num, by rw [HSS.out, prod_snoc, ← HVP.out], by rw [← HS.out]; exact HO.out, hbl.setCell (Nat.le_refl _) _⟩
      case measure => simp [intOf]; omega
    · obtain rfl : k = xs.length := by omega
      have HO : Hid (Own wr w.heap.size (some ⟨w.heap.size, 0, none⟩) xs.length (colS xs)) := by
        have e : (colS xs).take xs.length ++ List.replicate (xs.length - xs.length) (0 : Int) = colS xs := by rw [List.take_of_length_le (by rw [colS_length]; exact Nat.le_refl _)]; simp
        rw [e] at hown; exact hown
      have HLL := Lib.hid (colS_length xs)
      clear hown hown1
      go_wp2
      go_ret
      exact ⟨_, _, by rw [HLL.out]; rfl, HO.out, hbl⟩

set_option maxHeartbeats 1600000 in
theorem iRowStrides_in (A : Option Addr) (c : Nat) (xs : List Int) (w : World) (hr : Rd w w.heap.size .i64 A xs) (hx : Ext xs) (hcap : xs.length ≤ c) : Calls Try.prog 84 #[.slice A xs.length c] w (RetInts w (rowS xs)) := by
  have hl := hx.1
  have HX := Lib.hid hx
  clear hx
  go_enter Try.func84, Try.ntmps84
  go_wp2_with (at_make; refine wpList_mk1 _ rfl _ (by rfl) xs.length _ (by rfl) rfl (by omega) ?_; intro w1 hown1 hb1 hz1)
  go_loopw [10] (fun i wr => ∃ k : Nat, k ≤ xs.length ∧ i = .int .i64 k ∧ Own wr w.heap.size (some ⟨w.heap.size, 0, none⟩) xs.length ((rowS xs).take k ++ List.replicate (xs.length - k) 0) ∧ Below w.heap.size w wr) (fun i _ => xs.length - (intOf i).toNat)
  case atStart => exact ⟨0, Nat.zero_le _, rfl, by simpa using hown1, hb1⟩
  case round =>
    obtain ⟨k, hk, rfl, hown, hbl⟩ := hrel
    by_cases hlt : k < xs.length
    · obtain ⟨ad, y, rfl, _, hcell, HY⟩ := (hr.below hbl).get hlt
      have hlen : ((rowS xs).take k ++ List.replicate (xs.length - k) (0 : Int)).length = xs.length := by rw [List.length_append, List.length_take, List.length_replicate, rowS_length]; omega
      obtain ⟨g, z, hg, _, _, hcz, hfz, _⟩ := hown.at_ (j := k) (by rw [hlen]; exact hlt)
      injection hg with hg
      injection hg with hg _ _
      subst hg
      obtain ⟨v, hv⟩ : ∃ v, v = (rowS xs).getD k 0 := ⟨_, rfl⟩
      have HV := Lib.hid hv
      rw [rowS_get xs k hlt] at hv
      have HVP := Lib.hid hv
      clear hv
      have HS := Lib.hid (set_take_snoc (rowS xs) xs.length k v hlt HV (by rw [rowS_length]; exact hlt))
      have HO := Lib.hid (hown.set k v)
      clear hlen hown hown1
      have HLT : Hid ((xs.drop (k + 1)).length = xs.length - (k + 1)) := by show _ = _; rw [List.length_drop]
      have hrt : Rd wr w.heap.size .i64 (some ⟨ad.block, ad.off + (k + 1), none⟩) (xs.drop (k + 1)) := by
        have := (hr.below hbl).cut (k + 1)
        rwa [Option.map_some, addLit] at this
      have hkc : k + 1 ≤ c := by omega
      have i1 : (0 : Int) ≤ (k : Int) + 1 := by omega
      have i2 : (k : Int) + 1 ≤ (xs.length : Int) := by omega
      have i3 : ((k : Int) + 1).toNat = k + 1 := by omega
      by_cases hcc : c = k + 1
      · subst hcc
        have HVP2 : Hid (v = prod []) := by
          have hz : xs.drop (k + 1) = [] := List.drop_of_length_le hcap
          show v = _
          rw [← hz]; exact HVP.out
        clear hrt
        go_wp2_with fail
        refine (countOf_any (some ad) 0 0 [] _ (Rd.nil _ _ _ _) ⟨by simp, by simp⟩).mono ?_; rw [← HVP2.out]; rintro e w2 ⟨rfl, rfl⟩
        go_wp2
        go_roundw
        case rel => exact ⟨k + 1, hlt, by go_num, by rw [← HS.out]; exact HO.out, hbl.setCell (Nat.le_refl _) _⟩
        case measure => simp [intOf]; omega
      · go_wp2_with fail
        rw [← HLT.out]
        refine (countOf_any _ _ _ _ _ hrt (HX.out.drop _)).mono ?_; rw [← HVP.out]; rintro e w2 ⟨rfl, rfl⟩
        go_wp2
        go_roundw
        case rel => exact ⟨k + 1, hlt, by go_num, by rw [← HS.out]; exact HO.out, hbl.setCell (Nat.le_refl _) _⟩
        case measure => simp [intOf]; omega
    · obtain rfl : k = xs.length := by omega
      have HO : Hid (Own wr w.heap.size (some ⟨w.heap.size, 0, none⟩) xs.length (rowS xs)) := by
        have e : (rowS xs).take xs.length ++ List.replicate (xs.length - xs.length) (0 : Int) = rowS xs := by rw [List.take_of_length_le (by rw [rowS_length]; exact Nat.le_refl _)]; simp
        rw [e] at hown; exact hown
      have HLL := Lib.hid (rowS_length xs)
      clear hown hown1
      go_wp2
      go_ret
      exact ⟨_, _, by rw [HLL.out]; rfl, HO.out, hbl⟩

theorem rowS_drop (xs : List Int) (m : Nat) (h : m < xs.length) : (rowS xs).drop m = prod (xs.drop (m + 1)) :: (rowS xs).drop (m + 1) := by
  rw [List.drop_eq_getElem_cons (by rw [rowS_length]; exact h)]
  congr 1
  have := rowS_get xs m h
  simpa [List.getD_eq_getElem?_getD, rowS_length, h] using this
theorem fill_back (L : List Int) (m : Nat) (v : Int) : (List.replicate (m + 1) (0 : Int) ++ L).set m v = List.replicate m 0 ++ (v :: L) := by
  rw [List.replicate_succ', List.append_assoc, List.set_append_right _ _ (by simp)]
  simp
set_option maxHeartbeats 1600000 in
theorem sRowStrides_in (A : Option Addr) (c : Nat) (xs : List Int) (w : World) (hr : Rd w w.heap.size .i64 A xs) (hx : Ext xs) (hcap : xs.length ≤ c) : Calls Try.prog 85 #[.slice A xs.length c] w (RetInts w (rowS xs)) := by
  have hl := hx.1
  have HX := Lib.hid hx
  clear hx
  go_enter Try.func85, Try.ntmps85
  go_wp2_with (at_make; refine wpList_mk1 _ rfl _ (by rfl) xs.length _ (by rfl) rfl (by omega) ?_; intro w1 hown1 hb1 hz1)
  go_loopw [4, 5] (fun n i wr => ∃ m : Nat, m ≤ xs.length ∧ i = .int .i64 ((m : Int) - 1) ∧ n = .int .i64 (prod (xs.drop m)) ∧ Own wr w.heap.size (some ⟨w.heap.size, 0, none⟩) xs.length (List.replicate m 0 ++ (rowS xs).drop m) ∧ Below w.heap.size w wr) (fun _ i _ => (intOf i + 1).toNat)
  case atStart => exact ⟨xs.length, Nat.le_refl _, rfl, by rw [List.drop_of_length_le (Nat.le_refl _)]; rfl, by rw [List.drop_of_length_le (by rw [rowS_length]; exact Nat.le_refl _), List.append_nil]; exact hown1, hb1⟩
  case round =>
    obtain ⟨m, hm, rfl, rfl, hown, hbl⟩ := hrel
    by_cases hlt : 0 < m
    · obtain ⟨q, rfl⟩ : ∃ q, m = q + 1 := ⟨m - 1, by omega⟩
      have e1 : ((q + 1 : Nat) : Int) - 1 = (q : Int) := by omega
      rw [e1]
      obtain ⟨ad, y, rfl, had, hcell, HY⟩ := (hr.below hbl).get (j := q) (by omega)
      have hcell2 : ∀ u, (wr.setCell ⟨w.heap.size, q, none⟩ u).cell? (ad.add q) = some (.int .i64 y) := fun u => by
        rw [World.cell?_setCell_other _ _ _ _ (far_add had).symm]; exact hcell
      have hlen : (List.replicate (q + 1) (0 : Int) ++ (rowS xs).drop (q + 1)).length = xs.length := by rw [List.length_append, List.length_drop, List.length_replicate, rowS_length]; omega
      obtain ⟨g, z, hg, _, _, hcz, hfz, _⟩ := hown.at_ (j := q) (by rw [hlen]; omega)
      injection hg with hg
      injection hg with hg _ _
      subst hg
      have hpd := prod_drop xs q (by omega)
      rw [← HY.out] at hpd
      have hb3 := (HX.out.drop q).prod
      rw [hpd] at hb3
      have HPD := Lib.hid hpd
      obtain ⟨v, hv⟩ : ∃ v, v = prod (xs.drop (q + 1)) := ⟨_, rfl⟩
      rw [← hv] at hb3 ⊢
      have HV := Lib.hid hv
      have HO := hown.set q v
      rw [fill_back, hv, ← rowS_drop xs q (by omega), ← hv] at HO
      have HO2 := Lib.hid HO
      obtain ⟨b4, b5⟩ := hb3
      clear hlen hown hown1 hpd hv HO e1
      go_wp2
      go_roundw
      case rel => exact ⟨q, by omega, by go_num, by rw [HPD.out, ← HV.out], HO2.out, hbl.setCell (Nat.le_refl _) _⟩
      case measure => simp [intOf]
    · obtain rfl : m = 0 := by omega
      have hO : Own wr w.heap.size (some ⟨w.heap.size, 0, none⟩) xs.length (rowS xs) := by simpa using hown
      have HO := Lib.hid hO
      clear hO
      have HLL := Lib.hid (rowS_length xs)
      clear hown hown1
      go_wp2
      go_ret
      exact ⟨_, _, by rw [HLL.out]; rfl, HO.out, hbl⟩
end Go.Proofs.Ytdhhdkncglhgfaa
