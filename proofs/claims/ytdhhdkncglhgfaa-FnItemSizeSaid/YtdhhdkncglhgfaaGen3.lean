/- The generators of memories. -/
import Derived.Test.YtdhhdkncglhgfaaGen2
import Derived.Test.YtdhhdkncglhgfaaAppAll
import Derived.Test.YtdhhdkncglhgfaaShape3
set_option linter.unusedSimpArgs false
set_option linter.unusedVariables false
namespace Go.Proofs.Ytdhhdkncglhgfaa
open Go.RowKit

def ByteL (xs : List Int) : Prop := ∀ x ∈ xs, -1 ≤ x ∧ x ≤ 256
theorem ByteL.snoc {xs : List Int} {x : Int} (h : ByteL xs) (h1 : -1 ≤ x) (h2 : x ≤ 256) : ByteL (xs ++ [x]) := fun y hy => by
  rcases List.mem_append.1 hy with hy | hy
  · exact h y hy
  · simp at hy; omega
theorem ByteL.set {xs : List Int} {x : Int} (h : ByteL xs) (j : Nat) (h1 : -1 ≤ x) (h2 : x ≤ 256) : ByteL (xs.set j x) := fun y hy => by
  rcases List.mem_or_eq_of_mem_set hy with hy | hy
  · exact h y hy
  · omega

set_option maxHeartbeats 3200000 in
theorem someMemory_any (B g k : Nat) (w : World) (h : Rdr w B g k) (hk : k ≤ 10000) :
    Calls Try.prog 69 #[.pointer (some ⟨g, 0, none⟩)] w fun e w' => ∃ A c xs, e = .returned (.slice A xs.length c) ∧ 1 ≤ xs.length ∧ xs.length ≤ 60 ∧ ByteL xs ∧ Own w' w.heap.size A c xs ∧ Rdr w' B g (k + 64) ∧ w.grownBy w' (some g) := by
  have hg := h.lt
  have hB := h.ge
  go_enter Try.func69, Try.ntmps69
  go_wp2_with fail
  have o0 : Own (w.alloc (.cells #[] 3)) w.heap.size (some ⟨w.heap.size, 0, none⟩) 0 [] := Own.made rfl (Nat.le_refl _)
  refine (one_any B g _ _ _ [20, 30, 16, 60, 12, 5] _ (by repeat' (first | (with_reducible assumption) | (with_reducible apply Rdr.alloc) | (with_reducible apply Rdr.drew) | (with_reducible apply Rdr.set) | omega)) (by omega) (Rd_litN _ _ (by simp) _ _ _ rfl) (blk_ne (by omega)) (by simp) (by simp)).mono ?_; rintro e w1 ⟨x1, rfl, p1, hR1, hg1⟩
  have p1 : 1 ≤ x1 ∧ x1 ≤ 60 := by simp at p1; omega
  obtain ⟨m, rfl⟩ := Int.eq_ofNat_of_zero_le (show 0 ≤ x1 by omega)
  have o1 := (o0.alloc (.cells #[.int .i64 20, .int .i64 30, .int .i64 16, .int .i64 60, .int .i64 12, .int .i64 5] 3)).gr hg1 hg
  have g1 : w.grownBy w1 (some g) := (by repeat' (first | (with_reducible exact grown_self _ _) | (with_reducible assumption) | (with_reducible refine grown_trans ?_ (by assumption)) | (with_reducible refine grown_alloc ?_ _) | (with_reducible refine grown_nset ?_ (by omega) _)))
  go_wp2_with fail
  go_loopw [3, 4] (fun v n wr => ∃ (j : Nat) (A : Option Addr) (c : Nat) (xs : List Int), xs.length + j = m ∧ n = .int .i64 j ∧ v = .slice A xs.length c ∧ Own wr w.heap.size A c xs ∧ ByteL xs ∧ Rdr wr B g (k + 1 + (m - j)) ∧ w.grownBy wr (some g)) (fun _ n _ => (intOf n).toNat)
  case atStart => exact ⟨m, _, _, [], by simp, rfl, rfl, o1, (fun _ h => by cases h), hR1.le (by omega), g1⟩
  case round =>
    clear o0 o1 g1 hg1 hR1
    obtain ⟨j, A, c, xs, hj, rfl, rfl, ho, hG, hR, hgr⟩ := hrel
    have z0 := hgr.size
    have HG := Lib.hid hG
    clear hG
    rcases j with _ | j
    · go_wp2_with fail
      refine (pick_any B g _ _ _ (by repeat' (first | (with_reducible assumption) | (with_reducible apply Rdr.alloc) | (with_reducible apply Rdr.drew) | (with_reducible apply Rdr.set) | omega)) (by omega) (by omega)).mono ?_; rintro e w2 ⟨x2, rfl, p2, _, q2, hR2, hg2⟩
      have q2 := q2 (by omega)
      have o2 := ho.gr hg2 hg
      have g2 := grown_trans hgr hg2
      have z2 := g2.size
      clear ho hR hgr hg2
      by_cases hx : x2 = 0
      · go_wp2_with fail
        refine (one_any B g _ _ _ [-1, 256] _ (by repeat' (first | (with_reducible assumption) | (with_reducible apply Rdr.alloc) | (with_reducible apply Rdr.drew) | (with_reducible apply Rdr.set) | omega)) (by omega) (Rd_lit _ _ _ _ rfl) (blk_ne (by omega)) (by simp) (by simp)).mono ?_; rintro e w3 ⟨x3, rfl, p3, hR3, hg3⟩
        have p3 : -1 ≤ x3 ∧ x3 ≤ 256 := by simp at p3; omega
        have o3 := (o2.alloc (.cells #[.int .i64 (-1), .int .i64 256] 3)).gr hg3 hg
        have g3 := grown_trans (grown_alloc g2 _) hg3
        obtain ⟨ga, y, rfl, hga, _, hcell, hfz, _⟩ := o3.at_ (j := 0) (by omega)
        have HO := Lib.hid (o3.set 0 x3)
        have hl0 : (0 : Int) < (xs.length : Int) := by omega
        clear o2 o3
        go_wp2_with fail
        go_ret
        refine ⟨_, _, xs.set 0 x3, by rw [List.length_set]; rfl, by rw [List.length_set]; omega, by rw [List.length_set]; omega, HG.out.set 0 p3.1 p3.2, HO.out, (hR3.set (by omega) (by omega) _).le (by omega), grown_nset g3 (by omega) _⟩
      · go_wp2_with fail
        go_ret
        exact ⟨_, _, xs, rfl, by omega, by omega, HG.out, o2, hR2.le (by omega), g2⟩
    · go_wp2_with fail
      refine (pick_any B g _ _ _ (by repeat' (first | (with_reducible assumption) | (with_reducible apply Rdr.alloc) | (with_reducible apply Rdr.drew) | (with_reducible apply Rdr.set) | omega)) (by omega) (by omega)).mono ?_; rintro e w2 ⟨x2, rfl, p2, _, q2, hR2, hg2⟩
      have q2 := q2 (by omega)
      have o2 := ho.gr hg2 hg
      have g2 := grown_trans hgr hg2
      have z2 := g2.size
      have HO := Lib.hid o2
      have HR2 := Lib.hid hR2
      clear ho hR hgr hg2 o2 hR2
      go_wp2_with (at_builtin; refine wpList_app1 _ rfl (.tmp 13) (.tmp 16) (by rfl) w.heap.size A c xs.length xs (by rfl) rfl (HO.out.alloc _) w2.heap.size 1 x2 (by rfl) (by simp) (by omega) (by simp; omega) ?_; intro A4 c4 w4 ho4 hb4 hg4)
      go_roundw
      case rel =>
        refine ⟨j, A4, c4, xs ++ [x2], by simp; omega, by go_num, by simp, ho4, HG.out.snoc (by omega) (by omega), ?_, grown_app (grown_alloc g2 _) hb4 (Nat.le_refl _)⟩
        exact ((HR2.out.alloc _).app hb4 hg (by omega)).le (by omega)
      case measure => simp [intOf]

set_option maxHeartbeats 1600000 in
theorem DrawValidMemory_any (A : Option Addr) (n : Nat) (bs : List Int) (w : World) (hr : Rd w w.heap.size .u8 A bs) (hl : bs.length ≤ maxLen) (hc : bs.length ≤ n) (hb : ∀ x ∈ bs, 0 ≤ x ∧ x ≤ 255) :
    Calls Try.prog 22 #[.slice A bs.length n] w fun e w' => ∃ A' c xs, e = .returned (.slice A' xs.length c) ∧ xs.length ≤ 60 ∧ xs.length ≤ c ∧ Rd w' w'.heap.size .i64 A' xs ∧ Below w.heap.size w w' := by
  go_enter Try.func22, Try.ntmps22
  go_wp2_with fail
  refine (newReader_any A n bs _ hr hl hc hb).mono ?_; rintro e w1 ⟨g, rfl, hR1, hb1⟩
  have g1 := hR1.ge
  go_wp2_with fail
  refine (someMemory_any _ g _ _ hR1 (by omega)).mono ?_; rintro e w2 ⟨A2, c2, xs, rfl, _, hx1, _, ho2, hR2, hg2⟩
  have hb2 := below_some hb1 hg2 (by omega)
  go_wp2_with fail
  go_ret
  exact ⟨_, _, xs, rfl, hx1, ho2.cap_le, ho2.rd, hb2⟩
end Go.Proofs.Ytdhhdkncglhgfaa
