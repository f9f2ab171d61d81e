/- The generators of tensors. -/
import Derived.Test.YtdhhdkncglhgfaaGen3
import Derived.Test.YtdhhdkncglhgfaaForm1
import Derived.Test.YtdhhdkncglhgfaaReg
import Derived.Test.YtdhhdkncglhgfaaRev
set_option linter.unusedSimpArgs false
set_option linter.unusedVariables false
namespace Go.Proofs.Ytdhhdkncglhgfaa
open Go.RowKit

theorem Own.keepK {w w' : World} {B c : Nat} {A : Option Addr} {xs : List Int} (h : Own w B A c xs) (hk : ∀ k, blk A = some k → w'.heap[k]? = w.heap[k]?) : Own w' B A c xs := by
  refine ⟨h.1, ?_⟩
  rcases h.2 with h2 | ⟨g, cap, cur, hv, hg, hh, r⟩
  · exact .inl h2
  · refine .inr ⟨g, cap, cur, hv, hg, ?_, r⟩
    rw [hk g (by injection hv with hv; rw [hv]; rfl)]
    exact hh
theorem Own.belowK {w w' : World} {B B' c : Nat} {A : Option Addr} {xs : List Int} (h : Own w B A c xs) (hb : Below B' w w') (hk : ∀ k, blk A = some k → k < B') : Own w' B A c xs := h.keepK fun k e => hb.block k (hk k e)
theorem Own.setK {w : World} {B c g j : Nat} {A : Option Addr} {xs : List Int} {u : Value} (h : Own w B A c xs) (hk : ∀ k, blk A = some k → k ≠ g) : Own (w.setCell ⟨g, j, none⟩ u) B A c xs := h.keepK fun k e => Below.heap_setCell w ⟨g, j, none⟩ u k (hk k e)

set_option maxHeartbeats 6400000 in
theorem tensorFor_any (B g k : Nat) (As : Option Addr) (cs : Nat) (xs : List Int) (w : World) (h : Rdr w B g k) (hk : k ≤ 10000) (hr : Rd w w.heap.size .i64 As xs) (hG : GoodS xs) :
    Calls Try.prog 105 #[.pointer (some ⟨g, 0, none⟩), .slice As xs.length cs] w fun e w' => ∃ A1 c1 A2 c2 vs, e = .returned (.agg #[.slice A1 xs.length c1, .slice A2 vs.length c2]) ∧ vs.length ≤ 60 ∧ Own w' (w.heap.size + 1) A1 c1 xs ∧ Own w' (w.heap.size + 1) A2 c2 vs ∧ (∀ k, blk A1 = some k → some k ≠ blk A2) ∧ Rdr w' B g (k + 61) ∧ w.grownBy w' (some g) := by
  have hg := h.lt
  have hB := h.ge
  have hx := hG.ext
  have hl4 := hG.1
  have hp60 := hG.2.2
  have hp0 := hx.prod.1
  go_enter Try.func105, Try.ntmps105
  go_wp2_with fail
  have b0 := Bx.new w [.slice none 0 0, .slice none 0 0] 49
  refine (copyInts_any _ _ _ _ ((hr.alloc (Nat.le_refl _) _).more (by simp)) (by omega)).mono ?_; rintro e w1 ⟨A1, c1, rfl, ho1, hb1⟩
  have b1 := b0.step hb1
  have hR1 := (h.alloc (.cells #[.slice none 0 0, .slice none 0 0] 49)).below hb1
  have g1 : w.grownBy w1 (some g) := grown_below (grown_alloc (grown_self w _) _) hb1
  have ho1 : Own w1 (w.heap.size + 1) A1 c1 xs := by simpa using ho1
  have z1 := hb1.size
  simp at z1
  have rs1 := ((hr.alloc (Nat.le_refl _) (.cells #[.slice none 0 0, .slice none 0 0] 49)).more (B' := (w.alloc (.cells #[.slice none 0 0, .slice none 0 0] 49)).heap.size) (by simp)).to hb1
  have v1 := Bx.new w1 [.slice A1 xs.length c1, .slice none 0 0] 49
  have hk1 := ho1.ge
  obtain ⟨V, hV⟩ : ∃ V, V = w1.heap.size := ⟨_, rfl⟩
  have hkV : ∀ j, blk A1 = some j → w.heap.size < j ∧ j < V := fun j e => by have := hk1 j e; omega
  obtain ⟨P, HP⟩ : ∃ P, Hid (prod xs = P) := ⟨_, rfl⟩
  rw [HP.out] at hp60 hp0
  obtain ⟨m, rfl⟩ := Int.eq_ofNat_of_zero_le hp0
  go_wp2_with fail
  refine (count_any _ _ _ _ _ (rs1.to ((Below.refl _ _).al (.cells #[.slice A1 xs.length c1, .slice none 0 0] 49))) hx).mono ?_; rw [HP.out]; rintro e w2 ⟨rfl, rfl⟩
  have b1 := b1.alloc (.cells #[.slice A1 xs.length c1, .slice none 0 0] 49)
  have o1 := ho1.alloc (.cells #[.slice A1 xs.length c1, .slice none 0 0] 49)
  have R1 := hR1.alloc (.cells #[.slice A1 xs.length c1, .slice none 0 0] 49)
  have g1 := grown_alloc g1 (.cells #[.slice A1 xs.length c1, .slice none 0 0] 49)
  go_wp2_with fail
  rw [← hV] at v1 z1 ⊢
  clear hV hb1 hR1 rs1 ho1 hk1 b0 hr h
  go_loopw [6] (fun n wr => ∃ (j : Nat) (vs : List Int) (A2 : Option Addr) (c2 : Nat), vs.length + j = m ∧ n = .int .i64 j ∧ Bx wr V [.slice A1 xs.length c1, .slice A2 vs.length c2] ∧ Bx wr w.heap.size [.slice none 0 0, .slice none 0 0] ∧ Own wr (w.heap.size + 1) A1 c1 xs ∧ Own wr (V + 1) A2 c2 vs ∧ Rdr wr B g (k + m - j) ∧ w.grownBy wr (some g)) (fun n _ => (intOf n).toNat)
  case atStart => exact ⟨m, [], none, 0, by simp, rfl, v1, b1, o1, Own.nil _ _, R1.le (by omega), g1⟩
  case round =>
    clear v1 b1 o1 R1 g1
    obtain ⟨j, vs, A2, c2, hj, rfl, v, b, oa, ov, hR, hgr⟩ := hrel
    have zz := hgr.size
    have zv := v.lt
    obtain ⟨⟨c0, c1'⟩, f0, f1⟩ := v.two
    have nV : V ≠ w.heap.size := by omega
    rcases j with _ | j
    · obtain ⟨⟨d0, d1⟩, e0, e1⟩ := b.two
      go_wp2_with fail
      refine bodyPost_ret (v := .agg #[.slice A1 xs.length c1, .slice A2 vs.length c2]) (by simp [results, Try.results105, go_sem, World.cell?_setCell_other, nV, Ne.symm nV, c0, c1', d0, d1]) rfl ⟨A1, c1, A2, c2, vs, rfl, by omega, (oa.setO (by omega) _ _).setO (by omega) _ _, ((ov.setO (by omega) _ _).setO (by omega) _ _).mono (by omega), ?_, Rdr.le (by repeat' (first | (with_reducible assumption) | (with_reducible apply Rdr.alloc) | (with_reducible apply Rdr.drew) | (with_reducible apply Rdr.set) | omega)) (by omega), (by repeat' (first | (with_reducible exact grown_self _ _) | (with_reducible assumption) | (with_reducible refine grown_trans ?_ (by assumption)) | (with_reducible refine grown_alloc ?_ _) | (with_reducible refine grown_nset ?_ (by omega) _)))⟩
      intro j e e2
      have h1 := (hkV j e).2
      have h2 := (ov.ge j e2.symm).1
      omega
    · go_wp2_with fail
      refine wp_region_noPanic ?_
      refine wp_region_held_drew (S := (fun _ => True)) (by kernel_rfl) ?_ (fun hHeld => ?_)
      · exact trivial
      refine wpAnyH_take (i := 0) (oi := ⟨some 16, _, _, _, _, _⟩) (v := ?_) rfl (by kernel_rfl) (by kernel_rfl) (by kernel_rfl) (fun _ _ _ h => h) (Or.inl ⟨by rfl, ?_⟩) (by assumption) ?_
      rotate_left
      · ((intro w hSw; (try dsimp only at hSw); go_simp) <;> (with_reducible rfl))
      (try simp only [Act.put, List.setIfInBounds_toArray, List.set_cons_zero, List.set_cons_succ])
      refine wpAnyH_take (i := 2) (oi := ⟨some 18, _, _, _, _, _⟩) (v := ?_) rfl (by kernel_rfl) (by kernel_rfl) (by kernel_rfl) (fun _ _ _ h => h) (Or.inl ⟨by rfl, ?_⟩) (by assumption) ?_
      rotate_left
      · ((intro w hSw; (try dsimp only at hSw); go_simp) <;> (with_reducible rfl))
      (try simp only [Act.put, List.setIfInBounds_toArray, List.set_cons_zero, List.set_cons_succ])
      refine wpAnyH_ready (rs := [1, 3]) (by kernel_rfl) (by simp) ?_
      refine AllReadyH.cons (o := ⟨some 17, _, _, _, _, _⟩) rfl (fun K hK => ?_) (AllReadyH.cons (o := ⟨some 19, _, _, _, _, _⟩) rfl (fun K hK => ?_) AllReadyH.nil)
      · go_simp
        refine hK.out _ _ ?_ (fun hHeld => ?_)
        · exact trivial
        clear hK K
        (try simp only [Act.put, List.setIfInBounds_toArray, List.set_cons_zero, List.set_cons_succ])
        refine wpAnyH_ready (rs := [3]) (by kernel_rfl) (by simp) ?_
        refine AllReadyH.cons (o := ⟨some 19, _, _, _, _, _⟩) rfl (fun K hK => ?_) AllReadyH.nil
        go_simp
        refine (pick_any B g _ _ _ (by repeat' (first | (with_reducible assumption) | (with_reducible apply Rdr.alloc) | (with_reducible apply Rdr.drew) | (with_reducible apply Rdr.set) | omega)) (by omega) (by omega)).mono ?_; rintro e w19 ⟨x19, rfl, p19, _, q19, hR19, hg19⟩; have q19 := q19 (by omega); have u19 := IntWalk.i64_in (x19 - 9) (by omega); have v19 := v.drew.grown hg19 (by simp; omega); have b19 := b.drew.grown hg19 (by simp; omega); have oa19 := oa.drew.gr hg19 (by omega); have ov19 := ov.drew.gr hg19 (by omega); have z19 := v19.lt; obtain ⟨⟨m0, m1⟩, n0, n1⟩ := v19.two
        refine hK.out _ _ ?_ (fun hHeld => ?_)
        · exact trivial
        clear hK K
        (try simp only [Act.put, List.setIfInBounds_toArray, List.set_cons_zero, List.set_cons_succ])
        refine wpAnyH_take (i := 4) (oi := ⟨some 20, _, _, _, _, _⟩) (v := ?_) rfl (by kernel_rfl) (by kernel_rfl) (by kernel_rfl) (fun _ _ _ h => h) (Or.inl ⟨by rfl, ?_⟩) (by assumption) ?_
        rotate_left
        · ((intro w hSw; (try dsimp only at hSw); go_simp) <;> (with_reducible rfl))
        (try simp only [Act.put, List.setIfInBounds_toArray, List.set_cons_zero, List.set_cons_succ])
        refine wpAnyH_ready (rs := [5]) (by kernel_rfl) (by simp) ?_
        refine AllReadyH.cons (o := ⟨some 21, _, _, _, _, _⟩) rfl (fun K hK => ?_) AllReadyH.nil
        go_simp
        refine hK.out _ _ ?_ (fun hHeld => ?_)
        · exact trivial
        clear hK K
        (try simp only [Act.put, List.setIfInBounds_toArray, List.set_cons_zero, List.set_cons_succ])
        refine wpAnyH_ready (rs := [6]) (by kernel_rfl) (by simp) ?_
        refine AllReadyH.cons (o := ⟨some 22, _, _, _, _, _⟩) rfl (fun K hK => ?_) AllReadyH.nil
        (refine stepApp1 rfl (.tmp 17) (.tmp 21) (by rfl) (V + 1) A2 c2 vs.length vs (by rfl) rfl (ov19.alloc _) w19.heap.size 1 (x19 - 9) (by rfl) (by simp) (by omega) (by simp; omega) ?_; intro A22 c22 w22 ho22 hb22; have v22 := (v19.alloc (.cells #[.int .i64 (x19 - 9)] 3)).below hb22 (by omega); obtain ⟨⟨k0, k1⟩, l0, l1⟩ := v22.two)
        refine hK.out _ _ ?_ (fun hHeld => ?_)
        · exact trivial
        clear hK K
        (try simp only [Act.put, List.setIfInBounds_toArray, List.set_cons_zero, List.set_cons_succ])
        refine wpAnyH_take (i := 7) (oi := ⟨some 23, _, _, _, _, _⟩) (v := ?_) rfl (by kernel_rfl) (by kernel_rfl) (by kernel_rfl) (fun _ _ _ h => h) (Or.inl ⟨by rfl, ?_⟩) (by assumption) ?_
        rotate_left
        · ((intro w hSw; (try dsimp only at hSw); go_simp) <;> (with_reducible rfl))
        (try simp only [Act.put, List.setIfInBounds_toArray, List.set_cons_zero, List.set_cons_succ])
        refine wpAnyH_ready (rs := [8]) (by kernel_rfl) (by simp) ?_
        refine AllReadyH.cons (o := ⟨none, _, _, _, _, _⟩) rfl (fun K hK => ?_) AllReadyH.nil
        go_simp
        refine hK.out _ _ ?_ (fun hHeld => ?_)
        · exact trivial
        clear hK K
        (try simp only [Act.put, List.setIfInBounds_toArray, List.set_cons_zero, List.set_cons_succ])
        refine wpAnyH_done (by kernel_rfl) ?_ _
        refine NoPanic.normal ?_
        go_wp2_with fail
        go_roundw
        case rel =>
          refine ⟨j, vs ++ [x19 - 9], A22, c22, by simp; omega, by go_num, ?_, ?_, ?_, ?_, ?_, ?_⟩
          · have := v22.set 1 (.slice A22 (vs.length + 1) c22)
            simpa using this
          · exact ((b19.alloc _).below hb22 (by omega)).other (by omega) _
          · exact ((oa19.alloc _).belowK hb22 (fun k e => by have := hkV k e; omega)).setK (fun k e => by have := hkV k e; omega)
          · exact ho22.setO (by omega) _ _
          · exact (((hR19.alloc _).app hb22 (by omega) (by omega)).set (by omega) (by omega) _).le (by omega)
          · exact grown_nset (grown_app (grown_alloc (grown_trans (grown_drew hgr) hg19) _) hb22 (by omega)) (by omega) _
        case measure => simp [intOf]
      · go_simp
        refine (pick_any B g _ _ _ (by repeat' (first | (with_reducible assumption) | (with_reducible apply Rdr.alloc) | (with_reducible apply Rdr.drew) | (with_reducible apply Rdr.set) | omega)) (by omega) (by omega)).mono ?_; rintro e w19 ⟨x19, rfl, p19, _, q19, hR19, hg19⟩; have q19 := q19 (by omega); have u19 := IntWalk.i64_in (x19 - 9) (by omega); have v19 := v.drew.grown hg19 (by simp; omega); have b19 := b.drew.grown hg19 (by simp; omega); have oa19 := oa.drew.gr hg19 (by omega); have ov19 := ov.drew.gr hg19 (by omega); have z19 := v19.lt; obtain ⟨⟨m0, m1⟩, n0, n1⟩ := v19.two
        refine hK.out _ _ ?_ (fun hHeld => ?_)
        · exact trivial
        clear hK K
        (try simp only [Act.put, List.setIfInBounds_toArray, List.set_cons_zero, List.set_cons_succ])
        refine wpAnyH_take (i := 4) (oi := ⟨some 20, _, _, _, _, _⟩) (v := ?_) rfl (by kernel_rfl) (by kernel_rfl) (by kernel_rfl) (fun _ _ _ h => h) (Or.inl ⟨by rfl, ?_⟩) (by assumption) ?_
        rotate_left
        · ((intro w hSw; (try dsimp only at hSw); go_simp) <;> (with_reducible rfl))
        (try simp only [Act.put, List.setIfInBounds_toArray, List.set_cons_zero, List.set_cons_succ])
        refine wpAnyH_ready (rs := [1, 5]) (by kernel_rfl) (by simp) ?_
        refine AllReadyH.cons (o := ⟨some 17, _, _, _, _, _⟩) rfl (fun K hK => ?_) (AllReadyH.cons (o := ⟨some 21, _, _, _, _, _⟩) rfl (fun K hK => ?_) AllReadyH.nil)
        · go_simp
          refine hK.out _ _ ?_ (fun hHeld => ?_)
          · exact trivial
          clear hK K
          (try simp only [Act.put, List.setIfInBounds_toArray, List.set_cons_zero, List.set_cons_succ])
          refine wpAnyH_ready (rs := [5]) (by kernel_rfl) (by simp) ?_
          refine AllReadyH.cons (o := ⟨some 21, _, _, _, _, _⟩) rfl (fun K hK => ?_) AllReadyH.nil
          go_simp
          refine hK.out _ _ ?_ (fun hHeld => ?_)
          · exact trivial
          clear hK K
          (try simp only [Act.put, List.setIfInBounds_toArray, List.set_cons_zero, List.set_cons_succ])
          refine wpAnyH_ready (rs := [6]) (by kernel_rfl) (by simp) ?_
          refine AllReadyH.cons (o := ⟨some 22, _, _, _, _, _⟩) rfl (fun K hK => ?_) AllReadyH.nil
          (refine stepApp1 rfl (.tmp 17) (.tmp 21) (by rfl) (V + 1) A2 c2 vs.length vs (by rfl) rfl (ov19.alloc _) w19.heap.size 1 (x19 - 9) (by rfl) (by simp) (by omega) (by simp; omega) ?_; intro A22 c22 w22 ho22 hb22; have v22 := (v19.alloc (.cells #[.int .i64 (x19 - 9)] 3)).below hb22 (by omega); obtain ⟨⟨k0, k1⟩, l0, l1⟩ := v22.two)
          refine hK.out _ _ ?_ (fun hHeld => ?_)
          · exact trivial
          clear hK K
          (try simp only [Act.put, List.setIfInBounds_toArray, List.set_cons_zero, List.set_cons_succ])
          refine wpAnyH_take (i := 7) (oi := ⟨some 23, _, _, _, _, _⟩) (v := ?_) rfl (by kernel_rfl) (by kernel_rfl) (by kernel_rfl) (fun _ _ _ h => h) (Or.inl ⟨by rfl, ?_⟩) (by assumption) ?_
          rotate_left
          · ((intro w hSw; (try dsimp only at hSw); go_simp) <;> (with_reducible rfl))
          (try simp only [Act.put, List.setIfInBounds_toArray, List.set_cons_zero, List.set_cons_succ])
          refine wpAnyH_ready (rs := [8]) (by kernel_rfl) (by simp) ?_
          refine AllReadyH.cons (o := ⟨none, _, _, _, _, _⟩) rfl (fun K hK => ?_) AllReadyH.nil
          go_simp
          refine hK.out _ _ ?_ (fun hHeld => ?_)
          · exact trivial
          clear hK K
          (try simp only [Act.put, List.setIfInBounds_toArray, List.set_cons_zero, List.set_cons_succ])
          refine wpAnyH_done (by kernel_rfl) ?_ _
          refine NoPanic.normal ?_
          go_wp2_with fail
          go_roundw
          case rel =>
            refine ⟨j, vs ++ [x19 - 9], A22, c22, by simp; omega, by go_num, ?_, ?_, ?_, ?_, ?_, ?_⟩
            · have := v22.set 1 (.slice A22 (vs.length + 1) c22)
              simpa using this
            · exact ((b19.alloc _).below hb22 (by omega)).other (by omega) _
            · exact ((oa19.alloc _).belowK hb22 (fun k e => by have := hkV k e; omega)).setK (fun k e => by have := hkV k e; omega)
            · exact ho22.setO (by omega) _ _
            · exact (((hR19.alloc _).app hb22 (by omega) (by omega)).set (by omega) (by omega) _).le (by omega)
            · exact grown_nset (grown_app (grown_alloc (grown_trans (grown_drew hgr) hg19) _) hb22 (by omega)) (by omega) _
          case measure => simp [intOf]
        · go_simp
          refine hK.out _ _ ?_ (fun hHeld => ?_)
          · exact trivial
          clear hK K
          (try simp only [Act.put, List.setIfInBounds_toArray, List.set_cons_zero, List.set_cons_succ])
          refine wpAnyH_ready (rs := [1]) (by kernel_rfl) (by simp) ?_
          refine AllReadyH.cons (o := ⟨some 17, _, _, _, _, _⟩) rfl (fun K hK => ?_) AllReadyH.nil
          go_simp
          refine hK.out _ _ ?_ (fun hHeld => ?_)
          · exact trivial
          clear hK K
          (try simp only [Act.put, List.setIfInBounds_toArray, List.set_cons_zero, List.set_cons_succ])
          refine wpAnyH_ready (rs := [6]) (by kernel_rfl) (by simp) ?_
          refine AllReadyH.cons (o := ⟨some 22, _, _, _, _, _⟩) rfl (fun K hK => ?_) AllReadyH.nil
          (refine stepApp1 rfl (.tmp 17) (.tmp 21) (by rfl) (V + 1) A2 c2 vs.length vs (by rfl) rfl (ov19.alloc _) w19.heap.size 1 (x19 - 9) (by rfl) (by simp) (by omega) (by simp; omega) ?_; intro A22 c22 w22 ho22 hb22; have v22 := (v19.alloc (.cells #[.int .i64 (x19 - 9)] 3)).below hb22 (by omega); obtain ⟨⟨k0, k1⟩, l0, l1⟩ := v22.two)
          refine hK.out _ _ ?_ (fun hHeld => ?_)
          · exact trivial
          clear hK K
          (try simp only [Act.put, List.setIfInBounds_toArray, List.set_cons_zero, List.set_cons_succ])
          refine wpAnyH_take (i := 7) (oi := ⟨some 23, _, _, _, _, _⟩) (v := ?_) rfl (by kernel_rfl) (by kernel_rfl) (by kernel_rfl) (fun _ _ _ h => h) (Or.inl ⟨by rfl, ?_⟩) (by assumption) ?_
          rotate_left
          · ((intro w hSw; (try dsimp only at hSw); go_simp) <;> (with_reducible rfl))
          (try simp only [Act.put, List.setIfInBounds_toArray, List.set_cons_zero, List.set_cons_succ])
          refine wpAnyH_ready (rs := [8]) (by kernel_rfl) (by simp) ?_
          refine AllReadyH.cons (o := ⟨none, _, _, _, _, _⟩) rfl (fun K hK => ?_) AllReadyH.nil
          go_simp
          refine hK.out _ _ ?_ (fun hHeld => ?_)
          · exact trivial
          clear hK K
          (try simp only [Act.put, List.setIfInBounds_toArray, List.set_cons_zero, List.set_cons_succ])
          refine wpAnyH_done (by kernel_rfl) ?_ _
          refine NoPanic.normal ?_
          go_wp2_with fail
          go_roundw
          case rel =>
            refine ⟨j, vs ++ [x19 - 9], A22, c22, by simp; omega, by go_num, ?_, ?_, ?_, ?_, ?_, ?_⟩
            · have := v22.set 1 (.slice A22 (vs.length + 1) c22)
              simpa using this
            · exact ((b19.alloc _).below hb22 (by omega)).other (by omega) _
            · exact ((oa19.alloc _).belowK hb22 (fun k e => by have := hkV k e; omega)).setK (fun k e => by have := hkV k e; omega)
            · exact ho22.setO (by omega) _ _
            · exact (((hR19.alloc _).app hb22 (by omega) (by omega)).set (by omega) (by omega) _).le (by omega)
            · exact grown_nset (grown_app (grown_alloc (grown_trans (grown_drew hgr) hg19) _) hb22 (by omega)) (by omega) _
          case measure => simp [intOf]
end Go.Proofs.Ytdhhdkncglhgfaa
