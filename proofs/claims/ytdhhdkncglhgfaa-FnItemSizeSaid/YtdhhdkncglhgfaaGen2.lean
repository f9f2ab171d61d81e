/- The generators of shapes that may be invalid, and what the laws draw of them. -/
import Derived.Test.YtdhhdkncglhgfaaGen1
set_option linter.unusedSimpArgs false
set_option linter.unusedVariables false
namespace Go.Proofs.Ytdhhdkncglhgfaa
open Go.RowKit

theorem Rd.gr {w w' : World} {g : Nat} {A : Option Addr} {xs : List Int} (h : Rd w w.heap.size .i64 A xs) (hg : w.grownBy w' (some g)) (hne : ∀ b, blk A = some b → b ≠ g) : Rd w' w'.heap.size .i64 A xs := by
  refine (h.kept hg ?_).more hg.size
  rcases e : blk A with _ | k
  · exact .inl rfl
  · refine .inr fun e' => ?_
    injection e' with e'
    exact hne k e e'
theorem below_some {w w1 w2 : World} {g : Nat} (hb : Below w.heap.size w w1) (hg : w1.grownBy w2 (some g)) (hB : w.heap.size ≤ g) : Below w.heap.size w w2 := hb.trans (below_of_grown hg hb.size (by intro k e; cases e; exact hB))

set_option maxHeartbeats 3200000 in
theorem someShape_any (B g k : Nat) (w : World) (h : Rdr w B g k) (hk : k ≤ 10000) :
    Calls Try.prog 75 #[.pointer (some ⟨g, 0, none⟩)] w fun e w' => ∃ A c xs, e = .returned (.slice A xs.length c) ∧ xs.length ≤ 5 ∧ xs.length ≤ c ∧ (∀ x ∈ xs, -1 ≤ x ∧ x ≤ 61) ∧ Rd w' w'.heap.size .i64 A xs ∧ (∀ b, blk A = some b → w.heap.size ≤ b) ∧ Rdr w' B g (k + 8) ∧ w.grownBy w' (some g) := by
  have hg := h.lt
  have hB := h.ge
  go_enter Try.func75, Try.ntmps75
  go_wp2_with fail
  refine (goodShape_any B g k _ h hk).mono ?_; rintro e w1 ⟨A1, c1, xs, rfl, hG, ho1, hR1, hg1⟩
  have z1 := hg1.size
  go_wp2_with fail
  refine (pick_any B g _ _ _ (by repeat' (first | (with_reducible assumption) | (with_reducible apply Rdr.alloc) | (with_reducible apply Rdr.drew) | (with_reducible apply Rdr.set) | omega)) (by omega) (by omega)).mono ?_; rintro e w2 ⟨x2, rfl, p2, _, q2, hR2, hg2⟩
  have q2 := q2 (by omega)
  have o2 := ho1.gr hg2 hg
  have g2 := grown_trans hg1 hg2
  have z2 := g2.size
  have hl := hG.1
  clear ho1 hR1 hg1 hg2 h
  have HG := Lib.hid hG
  clear hG
  by_cases k0 : x2 = 0
  · go_wp2_with fail
    refine (one_any B g _ _ _ [-1, 61, 40] _ (by repeat' (first | (with_reducible assumption) | (with_reducible apply Rdr.alloc) | (with_reducible apply Rdr.drew) | (with_reducible apply Rdr.set) | omega)) (by omega) (Rd_lit _ _ _ _ rfl) (blk_ne (by omega)) (by simp) (by simp)).mono ?_; rintro e w3 ⟨x3, rfl, p3, hR3, hg3⟩
    have p3 : -1 ≤ x3 ∧ x3 ≤ 61 := by simp at p3; omega
    have o3 := (o2.alloc (.cells #[.int .i64 (-1), .int .i64 61, .int .i64 40] 3)).gr hg3 hg
    have g3 := grown_trans (grown_alloc g2 _) hg3
    have z3 := g3.size
    clear o2 hR2 hg3
    go_wp2_with (at_builtin; refine wpList_app1 _ rfl (.tmp 10) (.tmp 14) (by rfl) w.heap.size A1 c1 xs.length xs (by rfl) rfl (o3.alloc _) w3.heap.size 1 x3 (by rfl) (by simp) (by omega) (by simp; omega) ?_; intro A4 c4 w4 ho4 hb4 hg4)
    go_ret
    refine ⟨A4, c4, xs ++ [x3], by simp, by simp; omega, ho4.cap_le, ?_, ho4.rd, fun b hb => (ho4.ge b hb).1, ((hR3.alloc _).app hb4 hg (by omega)).le (by omega), grown_app (grown_alloc g3 _) hb4 (Nat.le_refl _)⟩
    intro y hy
    rcases List.mem_append.1 hy with hy | hy
    · have := HG.out.2.1 y hy; omega
    · simp at hy; omega
  by_cases k1 : x2 = 1
  · go_wp2_with fail
    go_ret
    exact ⟨_, _, [1, 1, 1, 1, 1], rfl, by simp, by simp, by simp, Rd_lit _ _ _ _ rfl, fun b hb => by simp [blk] at hb; omega, (hR2.alloc _).le (by omega), grown_alloc g2 _⟩
  · go_wp2_with fail
    go_ret
    exact ⟨_, _, xs, rfl, by omega, o2.cap_le, fun y hy => by have := HG.out.2.1 y hy; omega, o2.rd, fun b hb => (o2.ge b hb).1, hR2.le (by omega), g2⟩

set_option maxHeartbeats 1600000 in
theorem DrawValidShape_any (A : Option Addr) (n : Nat) (bs : List Int) (w : World) (hr : Rd w w.heap.size .u8 A bs) (hl : bs.length ≤ maxLen) (hc : bs.length ≤ n) (hb : ∀ x ∈ bs, 0 ≤ x ∧ x ≤ 255) :
    Calls Try.prog 28 #[.slice A bs.length n] w fun e w' => ∃ A' c xs, e = .returned (.slice A' xs.length c) ∧ xs.length ≤ 5 ∧ xs.length ≤ c ∧ (∀ x ∈ xs, -1 ≤ x ∧ x ≤ 61) ∧ Rd w' w'.heap.size .i64 A' xs ∧ Below w.heap.size w w' := by
  go_enter Try.func28, Try.ntmps28
  go_wp2_with fail
  refine (newReader_any A n bs _ hr hl hc hb).mono ?_; rintro e w1 ⟨g, rfl, hR1, hb1⟩
  have g1 := hR1.ge
  go_wp2_with fail
  refine (someShape_any _ g _ _ hR1 (by omega)).mono ?_; rintro e w2 ⟨A2, c2, xs, rfl, hx1, hxc, hx2, hr2, _, hR2, hg2⟩
  have hb2 := below_some hb1 hg2 (by omega)
  go_wp2_with fail
  go_ret
  exact ⟨_, _, xs, rfl, hx1, hxc, hx2, hr2, hb2⟩
set_option maxHeartbeats 1600000 in
theorem DrawCountOf_any (A : Option Addr) (n : Nat) (bs : List Int) (w : World) (hr : Rd w w.heap.size .u8 A bs) (hl : bs.length ≤ maxLen) (hc : bs.length ≤ n) (hb : ∀ x ∈ bs, 0 ≤ x ∧ x ≤ 255) :
    Calls Try.prog 33 #[.slice A bs.length n] w fun e w' => ∃ A' c xs, e = .returned (.slice A' xs.length c) ∧ xs.length ≤ 5 ∧ xs.length ≤ c ∧ (∀ x ∈ xs, -1 ≤ x ∧ x ≤ 61) ∧ Rd w' w'.heap.size .i64 A' xs ∧ Below w.heap.size w w' := by
  go_enter Try.func33, Try.ntmps33
  go_wp2_with fail
  refine (newReader_any A n bs _ hr hl hc hb).mono ?_; rintro e w1 ⟨g, rfl, hR1, hb1⟩
  have g1 := hR1.ge
  go_wp2_with fail
  refine (someShape_any _ g _ _ hR1 (by omega)).mono ?_; rintro e w2 ⟨A2, c2, xs, rfl, hx1, hxc, hx2, hr2, _, hR2, hg2⟩
  have hb2 := below_some hb1 hg2 (by omega)
  go_wp2_with fail
  go_ret
  exact ⟨_, _, xs, rfl, hx1, hxc, hx2, hr2, hb2⟩
set_option maxHeartbeats 1600000 in
theorem DrawRowStrides_any (A : Option Addr) (n : Nat) (bs : List Int) (w : World) (hr : Rd w w.heap.size .u8 A bs) (hl : bs.length ≤ maxLen) (hc : bs.length ≤ n) (hb : ∀ x ∈ bs, 0 ≤ x ∧ x ≤ 255) :
    Calls Try.prog 45 #[.slice A bs.length n] w fun e w' => ∃ A' c xs, e = .returned (.slice A' xs.length c) ∧ xs.length ≤ 5 ∧ xs.length ≤ c ∧ (∀ x ∈ xs, -1 ≤ x ∧ x ≤ 61) ∧ Rd w' w'.heap.size .i64 A' xs ∧ Below w.heap.size w w' := by
  go_enter Try.func45, Try.ntmps45
  go_wp2_with fail
  refine (newReader_any A n bs _ hr hl hc hb).mono ?_; rintro e w1 ⟨g, rfl, hR1, hb1⟩
  have g1 := hR1.ge
  go_wp2_with fail
  refine (someShape_any _ g _ _ hR1 (by omega)).mono ?_; rintro e w2 ⟨A2, c2, xs, rfl, hx1, hxc, hx2, hr2, _, hR2, hg2⟩
  have hb2 := below_some hb1 hg2 (by omega)
  go_wp2_with fail
  go_ret
  exact ⟨_, _, xs, rfl, hx1, hxc, hx2, hr2, hb2⟩
set_option maxHeartbeats 1600000 in
theorem DrawColStrides_any (A : Option Addr) (n : Nat) (bs : List Int) (w : World) (hr : Rd w w.heap.size .u8 A bs) (hl : bs.length ≤ maxLen) (hc : bs.length ≤ n) (hb : ∀ x ∈ bs, 0 ≤ x ∧ x ≤ 255) :
    Calls Try.prog 51 #[.slice A bs.length n] w fun e w' => ∃ A' c xs, e = .returned (.slice A' xs.length c) ∧ xs.length ≤ 5 ∧ xs.length ≤ c ∧ (∀ x ∈ xs, -1 ≤ x ∧ x ≤ 61) ∧ Rd w' w'.heap.size .i64 A' xs ∧ Below w.heap.size w w' := by
  go_enter Try.func51, Try.ntmps51
  go_wp2_with fail
  refine (newReader_any A n bs _ hr hl hc hb).mono ?_; rintro e w1 ⟨g, rfl, hR1, hb1⟩
  have g1 := hR1.ge
  go_wp2_with fail
  refine (someShape_any _ g _ _ hR1 (by omega)).mono ?_; rintro e w2 ⟨A2, c2, xs, rfl, hx1, hxc, hx2, hr2, _, hR2, hg2⟩
  have hb2 := below_some hb1 hg2 (by omega)
  go_wp2_with fail
  go_ret
  exact ⟨_, _, xs, rfl, hx1, hxc, hx2, hr2, hb2⟩

set_option maxHeartbeats 1600000 in
theorem DrawIndexAt_any (A : Option Addr) (n : Nat) (bs : List Int) (w : World) (hr : Rd w w.heap.size .u8 A bs) (hl : bs.length ≤ maxLen) (hc : bs.length ≤ n) (hb : ∀ x ∈ bs, 0 ≤ x ∧ x ≤ 255) :
    Calls Try.prog 59 #[.slice A bs.length n] w fun e w' => ∃ A' c xs k, e = .returned (.tuple #[.slice A' xs.length c, .int .i64 k]) ∧ xs.length ≤ 5 ∧ xs.length ≤ c ∧ (∀ x ∈ xs, -1 ≤ x ∧ x ≤ 61) ∧ (-300 ≤ k ∧ k ≤ 300) ∧ Rd w' w'.heap.size .i64 A' xs ∧ Below w.heap.size w w' := by
  go_enter Try.func59, Try.ntmps59
  go_wp2_with fail
  refine (newReader_any A n bs _ hr hl hc hb).mono ?_; rintro e w1 ⟨g, rfl, hR1, hb1⟩
  have g1 := hR1.ge
  have l1 := hR1.lt
  go_wp2_with fail
  refine (someShape_any _ g _ _ hR1 (by omega)).mono ?_; rintro e w2 ⟨A2, c2, xs, rfl, hx1, hxc, hx2, hr2, hbk, hR2, hg2⟩
  have hb2 := below_some hb1 hg2 (by omega)
  have l2 := hR2.lt
  have z2 := hg2.size
  have hne : ∀ b, blk A2 = some b → b ≠ g := fun b hb => by have := hbk b hb; omega
  go_wp2_with fail
  refine (pick_any _ g _ _ _ (by repeat' (first | (with_reducible assumption) | (with_reducible apply Rdr.alloc) | (with_reducible apply Rdr.drew) | (with_reducible apply Rdr.set) | omega)) (by omega) (by omega)).mono ?_; rintro e w3 ⟨x3, rfl, p3, _, q3, hR3, hg3⟩
  have q3 := q3 (by omega)
  have hb3 := below_some hb2 hg3 (by omega)
  have l3 := hR3.lt
  have r3 := hr2.gr hg3 hne
  go_wp2_with fail
  refine (one_any _ g _ _ _ [0, 1, x3, 5, -1, 60] _ (by repeat' (first | (with_reducible assumption) | (with_reducible apply Rdr.alloc) | (with_reducible apply Rdr.drew) | (with_reducible apply Rdr.set) | omega)) (by omega) (Rd_lit _ _ _ _ rfl) (blk_ne (by omega)) (by simp) (by simp)).mono ?_; rintro e w4 ⟨x4, rfl, p4, hR4, hg4⟩
  have p4 : -300 ≤ x4 ∧ x4 ≤ 300 := by simp at p4; omega
  have hb4 := below_some (hb3.al _) hg4 (by omega)
  have r4 := (r3.to ((Below.refl _ _).al (.cells #[.int .i64 0, .int .i64 1, .int .i64 x3, .int .i64 5, .int .i64 (-1), .int .i64 60] 3))).gr hg4 hne
  go_wp2_with fail
  go_ret2
  exact ⟨_, _, xs, x4, rfl, hx1, hxc, hx2, p4, r4, hb4⟩
end Go.Proofs.Ytdhhdkncglhgfaa
