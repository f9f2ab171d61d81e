/- The generator of formats. -/
import Derived.Test.YtdhhdkncglhgfaaGen3
import Derived.Test.YtdhhdkncglhgfaaForm1
import Derived.Test.YtdhhdkncglhgfaaReg
import Derived.Test.YtdhhdkncglhgfaaRev
set_option linter.unusedSimpArgs false
set_option linter.unusedVariables false
namespace Go.Proofs.Ytdhhdkncglhgfaa
open Go.RowKit

def SizeL (xs : List Int) : Prop := ∀ x ∈ xs, 0 ≤ x ∧ x ≤ 8
theorem SizeL.snoc {xs : List Int} {x : Int} (h : SizeL xs) (h1 : 0 ≤ x) (h2 : x ≤ 8) : SizeL (xs ++ [x]) := fun y hy => by
  rcases List.mem_append.1 hy with hy | hy
  · exact h y hy
  · simp at hy; omega
theorem SizeL.set {xs : List Int} {x : Int} (h : SizeL xs) (j : Nat) (h1 : 0 ≤ x) (h2 : x ≤ 8) : SizeL (xs.set j x) := fun y hy => by
  rcases List.mem_or_eq_of_mem_set hy with hy | hy
  · exact h y hy
  · omega

/-- The state of the generator of formats: the format in block V, its sizes in a block beyond, the result in block R. -/
def FmSt (w : World) (B g R V k : Nat) (bg al : Bool) (xs : List Int) (wc : World) : Prop :=
  ∃ (A : Option Addr) (c : Nat), Bx wc V [.slice A xs.length c, .bool bg, .bool al] ∧ Bx wc R [.slice none 0 0, .bool false, .bool false] ∧ Own wc (V + 1) A c xs ∧ SizeL xs ∧ Rdr wc B g k ∧ w.grownBy wc (some g) ∧ (w.heap.size ≤ R ∧ R < V ∧ g < R)

set_option maxHeartbeats 6400000 in
theorem someFormat_any (B g k : Nat) (w : World) (h : Rdr w B g k) (hk : k ≤ 10000) :
    Calls Try.prog 72 #[.pointer (some ⟨g, 0, none⟩)] w fun e w' => ∃ A c xs, ∃ bg al : Bool, e = .returned (.agg #[.slice A xs.length c, .bool bg, .bool al]) ∧ xs.length ≤ 5 ∧ xs.length ≤ c ∧ SizeL xs ∧ Rd w' w'.heap.size .i64 A xs ∧ (∀ b, blk A = some b → w.heap.size ≤ b) ∧ Rdr w' B g (k + 12) ∧ w.grownBy w' (some g) := by
  have hg := h.lt
  have hB := h.ge
  go_enter Try.func72, Try.ntmps72
  go_wp2_with fail
  have b0 := Bx.new w [.slice none 0 0, .bool false, .bool false] 37
  refine (pick_any B g _ _ _ (by repeat' (first | (with_reducible assumption) | (with_reducible apply Rdr.alloc) | (with_reducible apply Rdr.drew) | (with_reducible apply Rdr.set) | omega)) (by omega) (by omega)).mono ?_; rintro e w1 ⟨x1, rfl, p1, _, q1, hR1, hg1⟩
  have b1 := b0.grown hg1 (by simp; omega)
  have g1 : w.grownBy w1 (some g) := (by repeat' (first | (with_reducible exact grown_self _ _) | (with_reducible assumption) | (with_reducible refine grown_trans ?_ (by assumption)) | (with_reducible refine grown_alloc ?_ _) | (with_reducible refine grown_nset ?_ (by omega) _)))
  go_wp2_with fail
  refine (pick_any B g _ _ _ (by repeat' (first | (with_reducible assumption) | (with_reducible apply Rdr.alloc) | (with_reducible apply Rdr.drew) | (with_reducible apply Rdr.set) | omega)) (by omega) (by omega)).mono ?_; rintro e w2 ⟨x2, rfl, p2, _, q2, hR2, hg2⟩
  have b2 := b1.grown hg2 (by simp; omega)
  have g2 : w.grownBy w2 (some g) := grown_trans g1 hg2
  have z2 := b2.lt
  obtain ⟨bg, hbg⟩ : ∃ bg : Bool, bg = (x1 == 0) := ⟨_, rfl⟩
  obtain ⟨al, hal⟩ : ∃ al : Bool, al = (x2 == 0) := ⟨_, rfl⟩
  have v2 := Bx.new w2 [.slice none 0 0, .bool (x1 == 0), .bool (x2 == 0)] 37
  have b2 := b2.alloc (.cells #[.slice none 0 0, .bool (x1 == 0), .bool (x2 == 0)] 37)
  rw [← hbg, ← hal] at v2 b2
  clear hR1 hg1 g1 b0 b1 hg2 h
  go_wp2_with fail
  rw [← hbg, ← hal]
  clear hbg hal
  have hg3 : g < w2.heap.size := hR2.lt
  refine (one_any B g _ _ _ [2, 3, 1, 4, 5] _ (by repeat' (first | (with_reducible assumption) | (with_reducible apply Rdr.alloc) | (with_reducible apply Rdr.drew) | (with_reducible apply Rdr.set) | omega)) (by omega) (Rd_litN _ _ (by simp) _ _ _ rfl) (blk_ne (by omega)) (by simp) (by simp)).mono ?_; rintro e w3 ⟨x3, rfl, p3, hR3, hg3'⟩
  have p3 : 1 ≤ x3 ∧ x3 ≤ 5 := by simp at p3; omega
  obtain ⟨m, rfl⟩ := Int.eq_ofNat_of_zero_le (show 0 ≤ x3 by omega)
  have v3 := (v2.alloc (.cells #[.int .i64 2, .int .i64 3, .int .i64 1, .int .i64 4, .int .i64 5] 3)).grown hg3' (by simp; omega)
  have b3 := (b2.alloc (.cells #[.int .i64 2, .int .i64 3, .int .i64 1, .int .i64 4, .int .i64 5] 3)).grown hg3' (by simp; omega)
  have g3 : w.grownBy w3 (some g) := grown_trans (grown_alloc (grown_alloc g2 _) _) hg3'
  have zw := g2.size
  obtain ⟨V, hV⟩ : ∃ V, V = w2.heap.size := ⟨_, rfl⟩
  rw [← hV] at v3 z2 zw hg3 ⊢
  clear v2 b2 g2 hg3' hR2 hV
  go_wp2_with fail
  go_loopw [4] (fun n wr => ∃ (j : Nat) (xs : List Int), xs.length + j = m ∧ n = .int .i64 j ∧ FmSt w B g w.heap.size V (k + 10 - j) bg al xs wr) (fun n _ => (intOf n).toNat)
  case atStart => exact ⟨m, [], by simp, rfl, none, 0, v3, b3, Own.nil _ _, (fun _ h => by cases h), hR3.le (by omega), g3, by omega, by omega, by omega⟩
  case round =>
    clear v3 b3 g3 hR3
    obtain ⟨j, xs, hj, rfl, A, c, v, b, ho, hS, hR, hgr, o1, o2, o3⟩ := hrel
    have zz := hgr.size
    have zv := v.lt
    have HS := Lib.hid hS
    clear hS
    obtain ⟨⟨c0, c1, c2⟩, f0, f1, f2⟩ := v.three
    rcases j with _ | j
    · go_wp2_with fail
      refine (pick_any B g _ _ _ (by repeat' (first | (with_reducible assumption) | (with_reducible apply Rdr.alloc) | (with_reducible apply Rdr.drew) | (with_reducible apply Rdr.set) | omega)) (by omega) (by omega)).mono ?_; rintro e w5 ⟨x5, rfl, p5, _, q5, hR5, hg5⟩
      have v5 := v.grown hg5 (by simp; omega)
      have b5 := b.grown hg5 (by simp; omega)
      have o5 := ho.gr hg5 (by omega)
      have g5 := grown_trans hgr hg5
      have z5 := g5.size
      have zv5 := v5.lt
      have nV : V ≠ w.heap.size := by omega
      clear v b ho hgr hR c0 c1 c2 f0 f1 f2 hg5
      obtain ⟨⟨c0, c1, c2⟩, f0, f1, f2⟩ := v5.three
      obtain ⟨⟨d0, d1, d2⟩, e0, e1, e2⟩ := b5.three
      by_cases k0 : x5 = 0
      · obtain ⟨ga, y, rfl, hga, _, _, _, _⟩ := o5.at_ (j := 0) (by omega)
        have nG : ga ≠ V := by omega
        have nG2 : ga ≠ w.heap.size := by omega
        go_wp2_with fail
        have hl0 : 0 < xs.length := by omega
        refine wp_region_noPanic ?_
        refine wp_region_held_drew (S := (fun _ => True)) (by kernel_rfl) ?_ (fun hHeld => ?_)
        · exact trivial
        refine wpAnyH_take (i := 0) (oi := ⟨some 31, _, _, _, _, _⟩) (v := ?_) rfl (by kernel_rfl) (by kernel_rfl) (by kernel_rfl) (fun _ _ _ h => h) (Or.inl ⟨by rfl, ?_⟩) (by assumption) ?_
        rotate_left
        · ((intro w hSw; (try dsimp only at hSw); go_simp) <;> (with_reducible rfl))
        (try simp only [Act.put, List.setIfInBounds_toArray, List.set_cons_zero, List.set_cons_succ])
        refine wpAnyH_take (i := 2) (oi := ⟨some 33, _, _, _, _, _⟩) (v := ?_) rfl (by kernel_rfl) (by kernel_rfl) (by kernel_rfl) (fun _ _ _ h => h) (Or.inl ⟨by rfl, ?_⟩) (by assumption) ?_
        rotate_left
        · ((intro w hSw; (try dsimp only at hSw); go_simp) <;> (with_reducible rfl))
        (try simp only [Act.put, List.setIfInBounds_toArray, List.set_cons_zero, List.set_cons_succ])
        refine wpAnyH_ready (rs := [1, 3]) (by kernel_rfl) (by simp) ?_
        refine AllReadyH.cons (o := ⟨some 32, _, _, _, _, _⟩) rfl (fun K hK => ?_) (AllReadyH.cons (o := ⟨some 34, _, _, _, _, _⟩) rfl (fun K hK => ?_) AllReadyH.nil)
        · go_simp
          refine hK.out _ _ ?_ (fun hHeld => ?_)
          · exact trivial
          clear hK K
          (try simp only [Act.put, List.setIfInBounds_toArray, List.set_cons_zero, List.set_cons_succ])
          refine wpAnyH_ready (rs := [3]) (by kernel_rfl) (by simp) ?_
          refine AllReadyH.cons (o := ⟨some 34, _, _, _, _, _⟩) rfl (fun K hK => ?_) AllReadyH.nil
          go_simp
          refine hK.out _ _ ?_ (fun hHeld => ?_)
          · exact trivial
          clear hK K
          (try simp only [Act.put, List.setIfInBounds_toArray, List.set_cons_zero, List.set_cons_succ])
          refine wpAnyH_ready (rs := [4]) (by kernel_rfl) (by simp) ?_
          refine AllReadyH.cons (o := ⟨some 35, _, _, _, _, _⟩) rfl (fun K hK => ?_) AllReadyH.nil
          go_simp
          refine (one_any B g _ _ _ [3, 0, 8] _ (by repeat' (first | (with_reducible assumption) | (with_reducible apply Rdr.alloc) | (with_reducible apply Rdr.drew) | (with_reducible apply Rdr.set) | omega)) (by omega) (Rd_litN _ _ (by simp) _ _ _ rfl).drew (blk_ne (by omega)) (by simp) (by simp)).mono ?_; rintro e w35 ⟨x35, rfl, p35, hR35, hg35⟩; have p35 : 0 ≤ x35 ∧ x35 ≤ 8 := (by simp at p35; omega); have v35 := (v5.alloc (.cells #[.int .i64 3, .int .i64 0, .int .i64 8] 3)).drew.grown hg35 (by simp; omega); have b35 := (b5.alloc (.cells #[.int .i64 3, .int .i64 0, .int .i64 8] 3)).drew.grown hg35 (by simp; omega); have o35 := (o5.alloc (.cells #[.int .i64 3, .int .i64 0, .int .i64 8] 3)).drew.gr hg35 (by omega); have z35 := v35.lt; obtain ⟨⟨m0, m1, m2⟩, n0, n1, n2⟩ := v35.three; obtain ⟨gb', y', e', _, _, hcl, hfz, _⟩ := o35.at_ (j := 0) (by omega); cases e'
          refine hK.out _ _ ?_ (fun hHeld => ?_)
          · exact trivial
          clear hK K
          (try simp only [Act.put, List.setIfInBounds_toArray, List.set_cons_zero, List.set_cons_succ])
          refine wpAnyH_take (i := 5) (oi := ⟨some 36, _, _, _, _, _⟩) (v := ?_) rfl (by kernel_rfl) (by kernel_rfl) (by kernel_rfl) (fun _ _ _ h => h) (Or.inl ⟨by rfl, ?_⟩) (by assumption) ?_
          rotate_left
          · ((intro w hSw; (try dsimp only at hSw); go_simp) <;> (with_reducible rfl))
          (try simp only [Act.put, List.setIfInBounds_toArray, List.set_cons_zero, List.set_cons_succ])
          refine wpAnyH_ready (rs := [6]) (by kernel_rfl) (by simp) ?_
          refine AllReadyH.cons (o := ⟨none, _, _, _, _, _⟩) rfl (fun K hK => ?_) AllReadyH.nil
          go_simp
          refine hK.out _ _ ?_ (fun hHeld => ?_)
          · exact trivial
          clear hK K
          (try simp only [Act.put, List.setIfInBounds_toArray, List.set_cons_zero, List.set_cons_succ])
          refine wpAnyH_done (by kernel_rfl) ?_ _
          refine NoPanic.normal ?_
          have v36 := v35.other (b := ga) (o := 0) nG (.int .i64 x35)
          have b36 := b35.other (b := ga) (o := 0) nG2 (.int .i64 x35)
          have o36 := o35.set 0 x35
          have g36 := grown_nset (b := ga) (o := 0) (grown_trans (grown_drew (grown_alloc g5 (.cells #[.int .i64 3, .int .i64 0, .int .i64 8] 3))) hg35) (by omega) (.int .i64 x35)
          have R36 := hR35.set (b := ga) (o := 0) (by omega) (by omega) (.int .i64 x35)
          clear c0 c1 c2 f0 f1 f2 d0 d1 d2 e0 e1 e2 m0 m1 m2 n0 n1 n2
          obtain ⟨⟨c0, c1, c2⟩, f0, f1, f2⟩ := v36.three
          obtain ⟨⟨d0, d1, d2⟩, e0, e1, e2⟩ := b36.three
          go_wp2_with fail
          refine bodyPost_ret (v := .agg #[.slice (some ⟨ga, 0, none⟩) xs.length c, .bool bg, .bool al]) (by simp [results, Try.results72, go_sem, World.cell?_setCell_other, nV, Ne.symm nV, c0, c1, c2, d0, d1, d2]) rfl ⟨some ⟨ga, 0, none⟩, c, xs.set 0 x35, bg, al, (by rw [List.length_set]), (by rw [List.length_set]; omega), (by rw [List.length_set]; exact o5.cap_le), HS.out.set 0 p35.1 p35.2, (((o36.setO (by omega) _ _).setO (by omega) _ _).setO (by omega) _ _).rd, (fun b hb => by have := (o36.ge b hb).1; omega), Rdr.le (by repeat' (first | (with_reducible assumption) | (with_reducible apply Rdr.alloc) | (with_reducible apply Rdr.drew) | (with_reducible apply Rdr.set) | omega)) (by omega), (by repeat' (first | (with_reducible exact grown_self _ _) | (with_reducible assumption) | (with_reducible refine grown_trans ?_ (by assumption)) | (with_reducible refine grown_alloc ?_ _) | (with_reducible refine grown_nset ?_ (by omega) _)))⟩
        · go_simp
          refine hK.out _ _ ?_ (fun hHeld => ?_)
          · exact trivial
          clear hK K
          (try simp only [Act.put, List.setIfInBounds_toArray, List.set_cons_zero, List.set_cons_succ])
          refine wpAnyH_ready (rs := [1, 4]) (by kernel_rfl) (by simp) ?_
          refine AllReadyH.cons (o := ⟨some 32, _, _, _, _, _⟩) rfl (fun K hK => ?_) (AllReadyH.cons (o := ⟨some 35, _, _, _, _, _⟩) rfl (fun K hK => ?_) AllReadyH.nil)
          · go_simp
            refine hK.out _ _ ?_ (fun hHeld => ?_)
            · exact trivial
            clear hK K
            (try simp only [Act.put, List.setIfInBounds_toArray, List.set_cons_zero, List.set_cons_succ])
            refine wpAnyH_ready (rs := [4]) (by kernel_rfl) (by simp) ?_
            refine AllReadyH.cons (o := ⟨some 35, _, _, _, _, _⟩) rfl (fun K hK => ?_) AllReadyH.nil
            go_simp
            refine (one_any B g _ _ _ [3, 0, 8] _ (by repeat' (first | (with_reducible assumption) | (with_reducible apply Rdr.alloc) | (with_reducible apply Rdr.drew) | (with_reducible apply Rdr.set) | omega)) (by omega) (Rd_litN _ _ (by simp) _ _ _ rfl).drew (blk_ne (by omega)) (by simp) (by simp)).mono ?_; rintro e w35 ⟨x35, rfl, p35, hR35, hg35⟩; have p35 : 0 ≤ x35 ∧ x35 ≤ 8 := (by simp at p35; omega); have v35 := (v5.alloc (.cells #[.int .i64 3, .int .i64 0, .int .i64 8] 3)).drew.grown hg35 (by simp; omega); have b35 := (b5.alloc (.cells #[.int .i64 3, .int .i64 0, .int .i64 8] 3)).drew.grown hg35 (by simp; omega); have o35 := (o5.alloc (.cells #[.int .i64 3, .int .i64 0, .int .i64 8] 3)).drew.gr hg35 (by omega); have z35 := v35.lt; obtain ⟨⟨m0, m1, m2⟩, n0, n1, n2⟩ := v35.three; obtain ⟨gb', y', e', _, _, hcl, hfz, _⟩ := o35.at_ (j := 0) (by omega); cases e'
            refine hK.out _ _ ?_ (fun hHeld => ?_)
            · exact trivial
            clear hK K
            (try simp only [Act.put, List.setIfInBounds_toArray, List.set_cons_zero, List.set_cons_succ])
            refine wpAnyH_take (i := 5) (oi := ⟨some 36, _, _, _, _, _⟩) (v := ?_) rfl (by kernel_rfl) (by kernel_rfl) (by kernel_rfl) (fun _ _ _ h => h) (Or.inl ⟨by rfl, ?_⟩) (by assumption) ?_
            rotate_left
            · ((intro w hSw; (try dsimp only at hSw); go_simp) <;> (with_reducible rfl))
            (try simp only [Act.put, List.setIfInBounds_toArray, List.set_cons_zero, List.set_cons_succ])
            refine wpAnyH_ready (rs := [6]) (by kernel_rfl) (by simp) ?_
            refine AllReadyH.cons (o := ⟨none, _, _, _, _, _⟩) rfl (fun K hK => ?_) AllReadyH.nil
            go_simp
            refine hK.out _ _ ?_ (fun hHeld => ?_)
            · exact trivial
            clear hK K
            (try simp only [Act.put, List.setIfInBounds_toArray, List.set_cons_zero, List.set_cons_succ])
            refine wpAnyH_done (by kernel_rfl) ?_ _
            refine NoPanic.normal ?_
            have v36 := v35.other (b := ga) (o := 0) nG (.int .i64 x35)
            have b36 := b35.other (b := ga) (o := 0) nG2 (.int .i64 x35)
            have o36 := o35.set 0 x35
            have g36 := grown_nset (b := ga) (o := 0) (grown_trans (grown_drew (grown_alloc g5 (.cells #[.int .i64 3, .int .i64 0, .int .i64 8] 3))) hg35) (by omega) (.int .i64 x35)
            have R36 := hR35.set (b := ga) (o := 0) (by omega) (by omega) (.int .i64 x35)
            clear c0 c1 c2 f0 f1 f2 d0 d1 d2 e0 e1 e2 m0 m1 m2 n0 n1 n2
            obtain ⟨⟨c0, c1, c2⟩, f0, f1, f2⟩ := v36.three
            obtain ⟨⟨d0, d1, d2⟩, e0, e1, e2⟩ := b36.three
            go_wp2_with fail
            refine bodyPost_ret (v := .agg #[.slice (some ⟨ga, 0, none⟩) xs.length c, .bool bg, .bool al]) (by simp [results, Try.results72, go_sem, World.cell?_setCell_other, nV, Ne.symm nV, c0, c1, c2, d0, d1, d2]) rfl ⟨some ⟨ga, 0, none⟩, c, xs.set 0 x35, bg, al, (by rw [List.length_set]), (by rw [List.length_set]; omega), (by rw [List.length_set]; exact o5.cap_le), HS.out.set 0 p35.1 p35.2, (((o36.setO (by omega) _ _).setO (by omega) _ _).setO (by omega) _ _).rd, (fun b hb => by have := (o36.ge b hb).1; omega), Rdr.le (by repeat' (first | (with_reducible assumption) | (with_reducible apply Rdr.alloc) | (with_reducible apply Rdr.drew) | (with_reducible apply Rdr.set) | omega)) (by omega), (by repeat' (first | (with_reducible exact grown_self _ _) | (with_reducible assumption) | (with_reducible refine grown_trans ?_ (by assumption)) | (with_reducible refine grown_alloc ?_ _) | (with_reducible refine grown_nset ?_ (by omega) _)))⟩
          · go_simp
            refine (one_any B g _ _ _ [3, 0, 8] _ (by repeat' (first | (with_reducible assumption) | (with_reducible apply Rdr.alloc) | (with_reducible apply Rdr.drew) | (with_reducible apply Rdr.set) | omega)) (by omega) (Rd_litN _ _ (by simp) _ _ _ rfl).drew (blk_ne (by omega)) (by simp) (by simp)).mono ?_; rintro e w35 ⟨x35, rfl, p35, hR35, hg35⟩; have p35 : 0 ≤ x35 ∧ x35 ≤ 8 := (by simp at p35; omega); have v35 := (v5.alloc (.cells #[.int .i64 3, .int .i64 0, .int .i64 8] 3)).drew.grown hg35 (by simp; omega); have b35 := (b5.alloc (.cells #[.int .i64 3, .int .i64 0, .int .i64 8] 3)).drew.grown hg35 (by simp; omega); have o35 := (o5.alloc (.cells #[.int .i64 3, .int .i64 0, .int .i64 8] 3)).drew.gr hg35 (by omega); have z35 := v35.lt; obtain ⟨⟨m0, m1, m2⟩, n0, n1, n2⟩ := v35.three; obtain ⟨gb', y', e', _, _, hcl, hfz, _⟩ := o35.at_ (j := 0) (by omega); cases e'
            refine hK.out _ _ ?_ (fun hHeld => ?_)
            · exact trivial
            clear hK K
            (try simp only [Act.put, List.setIfInBounds_toArray, List.set_cons_zero, List.set_cons_succ])
            refine wpAnyH_ready (rs := [1]) (by kernel_rfl) (by simp) ?_
            refine AllReadyH.cons (o := ⟨some 32, _, _, _, _, _⟩) rfl (fun K hK => ?_) AllReadyH.nil
            go_simp
            refine hK.out _ _ ?_ (fun hHeld => ?_)
            · exact trivial
            clear hK K
            (try simp only [Act.put, List.setIfInBounds_toArray, List.set_cons_zero, List.set_cons_succ])
            refine wpAnyH_take (i := 5) (oi := ⟨some 36, _, _, _, _, _⟩) (v := ?_) rfl (by kernel_rfl) (by kernel_rfl) (by kernel_rfl) (fun _ _ _ h => h) (Or.inl ⟨by rfl, ?_⟩) (by assumption) ?_
            rotate_left
            · ((intro w hSw; (try dsimp only at hSw); go_simp) <;> (with_reducible rfl))
            (try simp only [Act.put, List.setIfInBounds_toArray, List.set_cons_zero, List.set_cons_succ])
            refine wpAnyH_ready (rs := [6]) (by kernel_rfl) (by simp) ?_
            refine AllReadyH.cons (o := ⟨none, _, _, _, _, _⟩) rfl (fun K hK => ?_) AllReadyH.nil
            go_simp
            refine hK.out _ _ ?_ (fun hHeld => ?_)
            · exact trivial
            clear hK K
            (try simp only [Act.put, List.setIfInBounds_toArray, List.set_cons_zero, List.set_cons_succ])
            refine wpAnyH_done (by kernel_rfl) ?_ _
            refine NoPanic.normal ?_
            have v36 := v35.other (b := ga) (o := 0) nG (.int .i64 x35)
            have b36 := b35.other (b := ga) (o := 0) nG2 (.int .i64 x35)
            have o36 := o35.set 0 x35
            have g36 := grown_nset (b := ga) (o := 0) (grown_trans (grown_drew (grown_alloc g5 (.cells #[.int .i64 3, .int .i64 0, .int .i64 8] 3))) hg35) (by omega) (.int .i64 x35)
            have R36 := hR35.set (b := ga) (o := 0) (by omega) (by omega) (.int .i64 x35)
            clear c0 c1 c2 f0 f1 f2 d0 d1 d2 e0 e1 e2 m0 m1 m2 n0 n1 n2
            obtain ⟨⟨c0, c1, c2⟩, f0, f1, f2⟩ := v36.three
            obtain ⟨⟨d0, d1, d2⟩, e0, e1, e2⟩ := b36.three
            go_wp2_with fail
            refine bodyPost_ret (v := .agg #[.slice (some ⟨ga, 0, none⟩) xs.length c, .bool bg, .bool al]) (by simp [results, Try.results72, go_sem, World.cell?_setCell_other, nV, Ne.symm nV, c0, c1, c2, d0, d1, d2]) rfl ⟨some ⟨ga, 0, none⟩, c, xs.set 0 x35, bg, al, (by rw [List.length_set]), (by rw [List.length_set]; omega), (by rw [List.length_set]; exact o5.cap_le), HS.out.set 0 p35.1 p35.2, (((o36.setO (by omega) _ _).setO (by omega) _ _).setO (by omega) _ _).rd, (fun b hb => by have := (o36.ge b hb).1; omega), Rdr.le (by repeat' (first | (with_reducible assumption) | (with_reducible apply Rdr.alloc) | (with_reducible apply Rdr.drew) | (with_reducible apply Rdr.set) | omega)) (by omega), (by repeat' (first | (with_reducible exact grown_self _ _) | (with_reducible assumption) | (with_reducible refine grown_trans ?_ (by assumption)) | (with_reducible refine grown_alloc ?_ _) | (with_reducible refine grown_nset ?_ (by omega) _)))⟩
      by_cases k1 : x5 = 1
      · go_wp2_with fail
        refine bodyPost_ret (v := .agg #[.slice none 0 0, .bool bg, .bool al]) (by simp [results, Try.results72, go_sem, World.cell?_setCell_other, nV, Ne.symm nV, c0, c1, c2, d0, d1, d2]) rfl ⟨none, 0, [], bg, al, rfl, by simp, by simp, (fun _ h => by cases h), Rd.nil _ _ _ _, (fun b hb => by cases hb), Rdr.le (by repeat' (first | (with_reducible assumption) | (with_reducible apply Rdr.alloc) | (with_reducible apply Rdr.drew) | (with_reducible apply Rdr.set) | omega)) (by omega), (by repeat' (first | (with_reducible exact grown_self _ _) | (with_reducible assumption) | (with_reducible refine grown_trans ?_ (by assumption)) | (with_reducible refine grown_alloc ?_ _) | (with_reducible refine grown_nset ?_ (by omega) _)))⟩
      · go_wp2_with fail
        refine bodyPost_ret (v := .agg #[.slice A xs.length c, .bool bg, .bool al]) (by simp [results, Try.results72, go_sem, World.cell?_setCell_other, nV, Ne.symm nV, c0, c1, c2, d0, d1, d2]) rfl ⟨A, c, xs, bg, al, rfl, by omega, o5.cap_le, HS.out, (((o5.setO (by omega) _ _).setO (by omega) _ _).setO (by omega) _ _).rd, (fun b hb => by have := (o5.ge b hb).1; omega), Rdr.le (by repeat' (first | (with_reducible assumption) | (with_reducible apply Rdr.alloc) | (with_reducible apply Rdr.drew) | (with_reducible apply Rdr.set) | omega)) (by omega), (by repeat' (first | (with_reducible exact grown_self _ _) | (with_reducible assumption) | (with_reducible refine grown_trans ?_ (by assumption)) | (with_reducible refine grown_alloc ?_ _) | (with_reducible refine grown_nset ?_ (by omega) _)))⟩
    · go_wp2_with fail
      refine wp_region_noPanic ?_
      refine wp_region_held_drew (S := (fun _ => True)) (by kernel_rfl) ?_ (fun hHeld => ?_)
      · exact trivial
      refine wpAnyH_take (i := 0) (oi := ⟨some 19, _, _, _, _, _⟩) (v := ?_) rfl (by kernel_rfl) (by kernel_rfl) (by kernel_rfl) (fun _ _ _ h => h) (Or.inl ⟨by rfl, ?_⟩) (by assumption) ?_
      rotate_left
      · ((intro w hSw; (try dsimp only at hSw); go_simp) <;> (with_reducible rfl))
      (try simp only [Act.put, List.setIfInBounds_toArray, List.set_cons_zero, List.set_cons_succ])
      refine wpAnyH_take (i := 2) (oi := ⟨some 21, _, _, _, _, _⟩) (v := ?_) rfl (by kernel_rfl) (by kernel_rfl) (by kernel_rfl) (fun _ _ _ h => h) (Or.inl ⟨by rfl, ?_⟩) (by assumption) ?_
      rotate_left
      · ((intro w hSw; (try dsimp only at hSw); go_simp) <;> (with_reducible rfl))
      (try simp only [Act.put, List.setIfInBounds_toArray, List.set_cons_zero, List.set_cons_succ])
      refine wpAnyH_ready (rs := [1, 3]) (by kernel_rfl) (by simp) ?_
      refine AllReadyH.cons (o := ⟨some 20, _, _, _, _, _⟩) rfl (fun K hK => ?_) (AllReadyH.cons (o := ⟨some 22, _, _, _, _, _⟩) rfl (fun K hK => ?_) AllReadyH.nil)
      · go_simp
        refine hK.out _ _ ?_ (fun hHeld => ?_)
        · exact trivial
        clear hK K
        (try simp only [Act.put, List.setIfInBounds_toArray, List.set_cons_zero, List.set_cons_succ])
        refine wpAnyH_ready (rs := [3]) (by kernel_rfl) (by simp) ?_
        refine AllReadyH.cons (o := ⟨some 22, _, _, _, _, _⟩) rfl (fun K hK => ?_) AllReadyH.nil
        go_simp
        refine hK.out _ _ ?_ (fun hHeld => ?_)
        · exact trivial
        clear hK K
        (try simp only [Act.put, List.setIfInBounds_toArray, List.set_cons_zero, List.set_cons_succ])
        refine wpAnyH_ready (rs := [4]) (by kernel_rfl) (by simp) ?_
        refine AllReadyH.cons (o := ⟨some 23, _, _, _, _, _⟩) rfl (fun K hK => ?_) AllReadyH.nil
        go_simp
        refine (one_any B g _ _ _ [1, 2, 4, 1, 2] _ (by repeat' (first | (with_reducible assumption) | (with_reducible apply Rdr.alloc) | (with_reducible apply Rdr.drew) | (with_reducible apply Rdr.set) | omega)) (by omega) (Rd_litN _ _ (by simp) _ _ _ rfl).drew (blk_ne (by omega)) (by simp) (by simp)).mono ?_; rintro e w23 ⟨x23, rfl, p23, hR23, hg23⟩; have p23 : 0 ≤ x23 ∧ x23 ≤ 8 := (by simp at p23; omega); have v23 := (v.alloc (.cells #[.int .i64 1, .int .i64 2, .int .i64 4, .int .i64 1, .int .i64 2] 3)).drew.grown hg23 (by simp; omega); have b23 := (b.alloc (.cells #[.int .i64 1, .int .i64 2, .int .i64 4, .int .i64 1, .int .i64 2] 3)).drew.grown hg23 (by simp; omega); have o23 := (ho.alloc (.cells #[.int .i64 1, .int .i64 2, .int .i64 4, .int .i64 1, .int .i64 2] 3)).drew.gr hg23 (by omega); have z23 := v23.lt; obtain ⟨⟨d0, d1, d2⟩, e0, e1, e2⟩ := v23.three
        refine hK.out _ _ ?_ (fun hHeld => ?_)
        · exact trivial
        clear hK K
        (try simp only [Act.put, List.setIfInBounds_toArray, List.set_cons_zero, List.set_cons_succ])
        refine wpAnyH_ready (rs := [5]) (by kernel_rfl) (by simp) ?_
        refine AllReadyH.cons (o := ⟨some 24, _, _, _, _, _⟩) rfl (fun K hK => ?_) AllReadyH.nil
        go_simp
        refine hK.out _ _ ?_ (fun hHeld => ?_)
        · exact trivial
        clear hK K
        (try simp only [Act.put, List.setIfInBounds_toArray, List.set_cons_zero, List.set_cons_succ])
        refine wpAnyH_ready (rs := [6]) (by kernel_rfl) (by simp) ?_
        refine AllReadyH.cons (o := ⟨some 25, _, _, _, _, _⟩) rfl (fun K hK => ?_) AllReadyH.nil
        (refine stepApp1 rfl (.tmp 20) (.tmp 24) (by rfl) (V + 1) A c xs.length xs (by rfl) rfl (o23.alloc _) w23.heap.size 1 x23 (by rfl) (by simp) (by omega) (by simp; omega) ?_; intro A25 c25 w25 ho25 hb25; have v25 := (v23.alloc (.cells #[.int .i64 x23] 3)).below hb25 (by omega); obtain ⟨⟨k0, k1, k2⟩, l0, l1, l2⟩ := v25.three)
        refine hK.out _ _ ?_ (fun hHeld => ?_)
        · exact trivial
        clear hK K
        (try simp only [Act.put, List.setIfInBounds_toArray, List.set_cons_zero, List.set_cons_succ])
        refine wpAnyH_take (i := 7) (oi := ⟨some 26, _, _, _, _, _⟩) (v := ?_) rfl (by kernel_rfl) (by kernel_rfl) (by kernel_rfl) (fun _ _ _ h => h) (Or.inl ⟨by rfl, ?_⟩) (by assumption) ?_
        rotate_left
        · ((intro w hSw; (try dsimp only at hSw); go_simp) <;> (with_reducible rfl))
        (try simp only [Act.put, List.setIfInBounds_toArray, List.set_cons_zero, List.set_cons_succ])
        refine wpAnyH_ready (rs := [8]) (by kernel_rfl) (by simp) ?_
        refine AllReadyH.cons (o := ⟨none, _, _, _, _, _⟩) rfl (fun K hK => ?_) AllReadyH.nil
        go_simp
        refine hK.out _ _ ?_ (fun hHeld => ?_)
        · exact trivial
        clear hK K
        (try simp only [Act.put, List.setIfInBounds_toArray, List.set_cons_zero, List.set_cons_succ])
        refine wpAnyH_done (by kernel_rfl) ?_ _
        refine NoPanic.normal ?_
        go_wp2_with fail
        go_roundw
        case rel =>
          refine ⟨j, xs ++ [x23], by simp; omega, by go_num, A25, c25, ?_, ?_, ?_, HS.out.snoc p23.1 p23.2, ?_, ?_, o1, o2, o3⟩
          · have := v25.set 0 (.slice A25 (xs.length + 1) c25)
            simpa using this
          · exact ((b23.alloc _).below hb25 (by omega)).other (by omega) _
          · exact ho25.setO (by omega) _ _
          · exact (((hR23.alloc _).app hb25 (by omega) (by omega)).set (by omega) (by omega) _).le (by omega)
          · exact grown_nset (grown_app (grown_alloc (grown_trans (grown_drew (grown_alloc hgr (.cells #[.int .i64 1, .int .i64 2, .int .i64 4, .int .i64 1, .int .i64 2] 3))) hg23) _) hb25 (by omega)) (by omega) _
        case measure => simp [intOf]
      · go_simp
        refine hK.out _ _ ?_ (fun hHeld => ?_)
        · exact trivial
        clear hK K
        (try simp only [Act.put, List.setIfInBounds_toArray, List.set_cons_zero, List.set_cons_succ])
        refine wpAnyH_ready (rs := [1, 4]) (by kernel_rfl) (by simp) ?_
        refine AllReadyH.cons (o := ⟨some 20, _, _, _, _, _⟩) rfl (fun K hK => ?_) (AllReadyH.cons (o := ⟨some 23, _, _, _, _, _⟩) rfl (fun K hK => ?_) AllReadyH.nil)
        · go_simp
          refine hK.out _ _ ?_ (fun hHeld => ?_)
          · exact trivial
          clear hK K
          (try simp only [Act.put, List.setIfInBounds_toArray, List.set_cons_zero, List.set_cons_succ])
          refine wpAnyH_ready (rs := [4]) (by kernel_rfl) (by simp) ?_
          refine AllReadyH.cons (o := ⟨some 23, _, _, _, _, _⟩) rfl (fun K hK => ?_) AllReadyH.nil
          go_simp
          refine (one_any B g _ _ _ [1, 2, 4, 1, 2] _ (by repeat' (first | (with_reducible assumption) | (with_reducible apply Rdr.alloc) | (with_reducible apply Rdr.drew) | (with_reducible apply Rdr.set) | omega)) (by omega) (Rd_litN _ _ (by simp) _ _ _ rfl).drew (blk_ne (by omega)) (by simp) (by simp)).mono ?_; rintro e w23 ⟨x23, rfl, p23, hR23, hg23⟩; have p23 : 0 ≤ x23 ∧ x23 ≤ 8 := (by simp at p23; omega); have v23 := (v.alloc (.cells #[.int .i64 1, .int .i64 2, .int .i64 4, .int .i64 1, .int .i64 2] 3)).drew.grown hg23 (by simp; omega); have b23 := (b.alloc (.cells #[.int .i64 1, .int .i64 2, .int .i64 4, .int .i64 1, .int .i64 2] 3)).drew.grown hg23 (by simp; omega); have o23 := (ho.alloc (.cells #[.int .i64 1, .int .i64 2, .int .i64 4, .int .i64 1, .int .i64 2] 3)).drew.gr hg23 (by omega); have z23 := v23.lt; obtain ⟨⟨d0, d1, d2⟩, e0, e1, e2⟩ := v23.three
          refine hK.out _ _ ?_ (fun hHeld => ?_)
          · exact trivial
          clear hK K
          (try simp only [Act.put, List.setIfInBounds_toArray, List.set_cons_zero, List.set_cons_succ])
          refine wpAnyH_ready (rs := [5]) (by kernel_rfl) (by simp) ?_
          refine AllReadyH.cons (o := ⟨some 24, _, _, _, _, _⟩) rfl (fun K hK => ?_) AllReadyH.nil
          go_simp
          refine hK.out _ _ ?_ (fun hHeld => ?_)
          · exact trivial
          clear hK K
          (try simp only [Act.put, List.setIfInBounds_toArray, List.set_cons_zero, List.set_cons_succ])
          refine wpAnyH_ready (rs := [6]) (by kernel_rfl) (by simp) ?_
          refine AllReadyH.cons (o := ⟨some 25, _, _, _, _, _⟩) rfl (fun K hK => ?_) AllReadyH.nil
          (refine stepApp1 rfl (.tmp 20) (.tmp 24) (by rfl) (V + 1) A c xs.length xs (by rfl) rfl (o23.alloc _) w23.heap.size 1 x23 (by rfl) (by simp) (by omega) (by simp; omega) ?_; intro A25 c25 w25 ho25 hb25; have v25 := (v23.alloc (.cells #[.int .i64 x23] 3)).below hb25 (by omega); obtain ⟨⟨k0, k1, k2⟩, l0, l1, l2⟩ := v25.three)
          refine hK.out _ _ ?_ (fun hHeld => ?_)
          · exact trivial
          clear hK K
          (try simp only [Act.put, List.setIfInBounds_toArray, List.set_cons_zero, List.set_cons_succ])
          refine wpAnyH_take (i := 7) (oi := ⟨some 26, _, _, _, _, _⟩) (v := ?_) rfl (by kernel_rfl) (by kernel_rfl) (by kernel_rfl) (fun _ _ _ h => h) (Or.inl ⟨by rfl, ?_⟩) (by assumption) ?_
          rotate_left
          · ((intro w hSw; (try dsimp only at hSw); go_simp) <;> (with_reducible rfl))
          (try simp only [Act.put, List.setIfInBounds_toArray, List.set_cons_zero, List.set_cons_succ])
          refine wpAnyH_ready (rs := [8]) (by kernel_rfl) (by simp) ?_
          refine AllReadyH.cons (o := ⟨none, _, _, _, _, _⟩) rfl (fun K hK => ?_) AllReadyH.nil
          go_simp
          refine hK.out _ _ ?_ (fun hHeld => ?_)
          · exact trivial
          clear hK K
          (try simp only [Act.put, List.setIfInBounds_toArray, List.set_cons_zero, List.set_cons_succ])
          refine wpAnyH_done (by kernel_rfl) ?_ _
          refine NoPanic.normal ?_
          go_wp2_with fail
          go_roundw
          case rel =>
            refine ⟨j, xs ++ [x23], by simp; omega, by go_num, A25, c25, ?_, ?_, ?_, HS.out.snoc p23.1 p23.2, ?_, ?_, o1, o2, o3⟩
            · have := v25.set 0 (.slice A25 (xs.length + 1) c25)
              simpa using this
            · exact ((b23.alloc _).below hb25 (by omega)).other (by omega) _
            · exact ho25.setO (by omega) _ _
            · exact (((hR23.alloc _).app hb25 (by omega) (by omega)).set (by omega) (by omega) _).le (by omega)
            · exact grown_nset (grown_app (grown_alloc (grown_trans (grown_drew (grown_alloc hgr (.cells #[.int .i64 1, .int .i64 2, .int .i64 4, .int .i64 1, .int .i64 2] 3))) hg23) _) hb25 (by omega)) (by omega) _
          case measure => simp [intOf]
        · go_simp
          refine (one_any B g _ _ _ [1, 2, 4, 1, 2] _ (by repeat' (first | (with_reducible assumption) | (with_reducible apply Rdr.alloc) | (with_reducible apply Rdr.drew) | (with_reducible apply Rdr.set) | omega)) (by omega) (Rd_litN _ _ (by simp) _ _ _ rfl).drew (blk_ne (by omega)) (by simp) (by simp)).mono ?_; rintro e w23 ⟨x23, rfl, p23, hR23, hg23⟩; have p23 : 0 ≤ x23 ∧ x23 ≤ 8 := (by simp at p23; omega); have v23 := (v.alloc (.cells #[.int .i64 1, .int .i64 2, .int .i64 4, .int .i64 1, .int .i64 2] 3)).drew.grown hg23 (by simp; omega); have b23 := (b.alloc (.cells #[.int .i64 1, .int .i64 2, .int .i64 4, .int .i64 1, .int .i64 2] 3)).drew.grown hg23 (by simp; omega); have o23 := (ho.alloc (.cells #[.int .i64 1, .int .i64 2, .int .i64 4, .int .i64 1, .int .i64 2] 3)).drew.gr hg23 (by omega); have z23 := v23.lt; obtain ⟨⟨d0, d1, d2⟩, e0, e1, e2⟩ := v23.three
          refine hK.out _ _ ?_ (fun hHeld => ?_)
          · exact trivial
          clear hK K
          (try simp only [Act.put, List.setIfInBounds_toArray, List.set_cons_zero, List.set_cons_succ])
          refine wpAnyH_ready (rs := [1, 5]) (by kernel_rfl) (by simp) ?_
          refine AllReadyH.cons (o := ⟨some 20, _, _, _, _, _⟩) rfl (fun K hK => ?_) (AllReadyH.cons (o := ⟨some 24, _, _, _, _, _⟩) rfl (fun K hK => ?_) AllReadyH.nil)
          · go_simp
            refine hK.out _ _ ?_ (fun hHeld => ?_)
            · exact trivial
            clear hK K
            (try simp only [Act.put, List.setIfInBounds_toArray, List.set_cons_zero, List.set_cons_succ])
            refine wpAnyH_ready (rs := [5]) (by kernel_rfl) (by simp) ?_
            refine AllReadyH.cons (o := ⟨some 24, _, _, _, _, _⟩) rfl (fun K hK => ?_) AllReadyH.nil
            go_simp
            refine hK.out _ _ ?_ (fun hHeld => ?_)
            · exact trivial
            clear hK K
            (try simp only [Act.put, List.setIfInBounds_toArray, List.set_cons_zero, List.set_cons_succ])
            refine wpAnyH_ready (rs := [6]) (by kernel_rfl) (by simp) ?_
            refine AllReadyH.cons (o := ⟨some 25, _, _, _, _, _⟩) rfl (fun K hK => ?_) AllReadyH.nil
            (refine stepApp1 rfl (.tmp 20) (.tmp 24) (by rfl) (V + 1) A c xs.length xs (by rfl) rfl (o23.alloc _) w23.heap.size 1 x23 (by rfl) (by simp) (by omega) (by simp; omega) ?_; intro A25 c25 w25 ho25 hb25; have v25 := (v23.alloc (.cells #[.int .i64 x23] 3)).below hb25 (by omega); obtain ⟨⟨k0, k1, k2⟩, l0, l1, l2⟩ := v25.three)
            refine hK.out _ _ ?_ (fun hHeld => ?_)
            · exact trivial
            clear hK K
            (try simp only [Act.put, List.setIfInBounds_toArray, List.set_cons_zero, List.set_cons_succ])
            refine wpAnyH_take (i := 7) (oi := ⟨some 26, _, _, _, _, _⟩) (v := ?_) rfl (by kernel_rfl) (by kernel_rfl) (by kernel_rfl) (fun _ _ _ h => h) (Or.inl ⟨by rfl, ?_⟩) (by assumption) ?_
            rotate_left
            · ((intro w hSw; (try dsimp only at hSw); go_simp) <;> (with_reducible rfl))
            (try simp only [Act.put, List.setIfInBounds_toArray, List.set_cons_zero, List.set_cons_succ])
            refine wpAnyH_ready (rs := [8]) (by kernel_rfl) (by simp) ?_
            refine AllReadyH.cons (o := ⟨none, _, _, _, _, _⟩) rfl (fun K hK => ?_) AllReadyH.nil
            go_simp
            refine hK.out _ _ ?_ (fun hHeld => ?_)
            · exact trivial
            clear hK K
            (try simp only [Act.put, List.setIfInBounds_toArray, List.set_cons_zero, List.set_cons_succ])
            refine wpAnyH_done (by kernel_rfl) ?_ _
            refine NoPanic.normal ?_
            go_wp2_with fail
            go_roundw
            case rel =>
              refine ⟨j, xs ++ [x23], by simp; omega, by go_num, A25, c25, ?_, ?_, ?_, HS.out.snoc p23.1 p23.2, ?_, ?_, o1, o2, o3⟩
              · have := v25.set 0 (.slice A25 (xs.length + 1) c25)
                simpa using this
              · exact ((b23.alloc _).below hb25 (by omega)).other (by omega) _
              · exact ho25.setO (by omega) _ _
              · exact (((hR23.alloc _).app hb25 (by omega) (by omega)).set (by omega) (by omega) _).le (by omega)
              · exact grown_nset (grown_app (grown_alloc (grown_trans (grown_drew (grown_alloc hgr (.cells #[.int .i64 1, .int .i64 2, .int .i64 4, .int .i64 1, .int .i64 2] 3))) hg23) _) hb25 (by omega)) (by omega) _
            case measure => simp [intOf]
          · go_simp
            refine hK.out _ _ ?_ (fun hHeld => ?_)
            · exact trivial
            clear hK K
            (try simp only [Act.put, List.setIfInBounds_toArray, List.set_cons_zero, List.set_cons_succ])
            refine wpAnyH_ready (rs := [1]) (by kernel_rfl) (by simp) ?_
            refine AllReadyH.cons (o := ⟨some 20, _, _, _, _, _⟩) rfl (fun K hK => ?_) AllReadyH.nil
            go_simp
            refine hK.out _ _ ?_ (fun hHeld => ?_)
            · exact trivial
            clear hK K
            (try simp only [Act.put, List.setIfInBounds_toArray, List.set_cons_zero, List.set_cons_succ])
            refine wpAnyH_ready (rs := [6]) (by kernel_rfl) (by simp) ?_
            refine AllReadyH.cons (o := ⟨some 25, _, _, _, _, _⟩) rfl (fun K hK => ?_) AllReadyH.nil
            (refine stepApp1 rfl (.tmp 20) (.tmp 24) (by rfl) (V + 1) A c xs.length xs (by rfl) rfl (o23.alloc _) w23.heap.size 1 x23 (by rfl) (by simp) (by omega) (by simp; omega) ?_; intro A25 c25 w25 ho25 hb25; have v25 := (v23.alloc (.cells #[.int .i64 x23] 3)).below hb25 (by omega); obtain ⟨⟨k0, k1, k2⟩, l0, l1, l2⟩ := v25.three)
            refine hK.out _ _ ?_ (fun hHeld => ?_)
            · exact trivial
            clear hK K
            (try simp only [Act.put, List.setIfInBounds_toArray, List.set_cons_zero, List.set_cons_succ])
            refine wpAnyH_take (i := 7) (oi := ⟨some 26, _, _, _, _, _⟩) (v := ?_) rfl (by kernel_rfl) (by kernel_rfl) (by kernel_rfl) (fun _ _ _ h => h) (Or.inl ⟨by rfl, ?_⟩) (by assumption) ?_
            rotate_left
            · ((intro w hSw; (try dsimp only at hSw); go_simp) <;> (with_reducible rfl))
            (try simp only [Act.put, List.setIfInBounds_toArray, List.set_cons_zero, List.set_cons_succ])
            refine wpAnyH_ready (rs := [8]) (by kernel_rfl) (by simp) ?_
            refine AllReadyH.cons (o := ⟨none, _, _, _, _, _⟩) rfl (fun K hK => ?_) AllReadyH.nil
            go_simp
            refine hK.out _ _ ?_ (fun hHeld => ?_)
            · exact trivial
            clear hK K
            (try simp only [Act.put, List.setIfInBounds_toArray, List.set_cons_zero, List.set_cons_succ])
            refine wpAnyH_done (by kernel_rfl) ?_ _
            refine NoPanic.normal ?_
            go_wp2_with fail
            go_roundw
            case rel =>
              refine ⟨j, xs ++ [x23], by simp; omega, by go_num, A25, c25, ?_, ?_, ?_, HS.out.snoc p23.1 p23.2, ?_, ?_, o1, o2, o3⟩
              · have := v25.set 0 (.slice A25 (xs.length + 1) c25)
                simpa using this
              · exact ((b23.alloc _).below hb25 (by omega)).other (by omega) _
              · exact ho25.setO (by omega) _ _
              · exact (((hR23.alloc _).app hb25 (by omega) (by omega)).set (by omega) (by omega) _).le (by omega)
              · exact grown_nset (grown_app (grown_alloc (grown_trans (grown_drew (grown_alloc hgr (.cells #[.int .i64 1, .int .i64 2, .int .i64 4, .int .i64 1, .int .i64 2] 3))) hg23) _) hb25 (by omega)) (by omega) _
            case measure => simp [intOf]
end Go.Proofs.Ytdhhdkncglhgfaa
