/- The walks of the laws over ranges in reverse order and in normal form. -/
import Derived.Test.YtipgopapohigpaaLawBC
import Derived.Test.YtipgopapohigpaaBack
import Derived.Test.YtipgopapohigpaaSlice4
import Derived.Test.YtipgopapohigpaaReg
set_option linter.unusedVariables false
namespace Go.Proofs.Ytipgopapohigpaa
open Go.RowKit

set_option maxHeartbeats 400000 in
theorem equalRange_same (a b c : Int) (w : World) : Calls Try.prog 17 #[.agg #[.int .i64 a, .int .i64 b, .int .i64 c], .agg #[.int .i64 a, .int .i64 b, .int .i64 c]] w (Ret w (.bool true)) := by
  go_enter Try.func17, Try.ntmps17
  go_wp2_with fail
  go_ret
  exact ⟨rfl, (by (repeat' (first | (with_reducible exact Below.refl _ _) | (with_reducible assumption) | (with_reducible refine Below.setCell ?_ ?_ _) | (with_reducible refine Below.al ?_ _) | (with_reducible refine Below.drew ?_) | (with_reducible refine Below.drN ?_ _) | (with_reducible refine Below.step ?_ (by assumption)) | (with_reducible refine Below.alloc ?_ ?_ _))); all_goals (simp; try omega))⟩

theorem rev_rev {a b c : Int} (h : rangeB a b c = true) : rv1 (rv1 a b c) (rv2 a b c) (rv3 a b c) = nrmA (nums a b c) ∧ rv2 (rv1 a b c) (rv2 a b c) (rv3 a b c) = nrmB (nums a b c) ∧ rv3 (rv1 a b c) (rv2 a b c) (rv3 a b c) = nrmC (nums a b c) := by
  have e : (nums (rv1 a b c) (rv2 a b c) (rv3 a b c)).reverse = nums a b c := by
    rw [rev_nums h, ← prg_rev, ← nums_prg, List.reverse_reverse]
  have hr := rev_range h
  refine ⟨?_, ?_, ?_⟩
  · rw [rv1, if_pos hr, e]
  · rw [rv2, if_pos hr, e]
  · rw [rv3, if_pos hr, e]
theorem rev_numsL {a b c : Int} (h : rangeB a b c = true) : nums (rv1 a b c) (rv2 a b c) (rv3 a b c) = (nums a b c).reverse := by
  rw [rev_nums h, nums_prg a b c, prg_rev]
theorem rev_step {a b c : Int} (h : rangeB a b c = true) : rv3 a b c ≠ 0 := ne_zero (rev_range h)

set_option maxHeartbeats 3200000 in
theorem FnReverseRange_walk (A : Option Addr) (n : Nat) (bs : List Int) (w : World) (hr : Rd w w.heap.size .u8 A bs) (hl : bs.length ≤ maxLen) (hn : bs.length ≤ n) (hb : ∀ x ∈ bs, 0 ≤ x ∧ x ≤ 255) :
    Calls Try.prog 11 #[.slice A bs.length n] w (Ret w (.bool true)) := by
  by_cases hbig : bs.length > 1048576
  · go_enter Try.func11, Try.ntmps11
    go_wp2_with fail
    go_ret
    exact ⟨rfl, (by (repeat' (first | (with_reducible exact Below.refl _ _) | (with_reducible assumption) | (with_reducible refine Below.setCell ?_ ?_ _) | (with_reducible refine Below.al ?_ _) | (with_reducible refine Below.drew ?_) | (with_reducible refine Below.drN ?_ _) | (with_reducible refine Below.step ?_ (by assumption)) | (with_reducible refine Below.alloc ?_ ?_ _))); all_goals (simp; try omega))⟩
  go_enter Try.func11, Try.ntmps11
  go_wp2_with fail
  refine (DrawReverseRange_any A n bs _ hr hl hn hb).mono ?_; rintro e w1 ⟨a, b, c, rfl, ha, hb', hc, hb1⟩
  clear hr hb
  by_cases hv : rangeB a b c = true
  · have hz := rev_step hv
    obtain ⟨e1, e2, e3⟩ := rev_rev hv
    have H1 := Lib.hid e1
    have H2 := Lib.hid e2
    have H3 := Lib.hid e3
    clear e1 e2 e3
    have HL := Lib.hid (rev_numsL hv)
    have HV := Lib.hid (rev_range hv)
    have hle := cnt_le a b c (small_of hv)
    have HN := Lib.hid (nums_length a b c)
    have HX : ∃ x y z xs, Hid (rv1 a b c = x) ∧ Hid (rv2 a b c = y) ∧ Hid (rv3 a b c = z) ∧ Hid (nums a b c = xs) := ⟨_, _, _, _, rfl, rfl, rfl, rfl⟩
    obtain ⟨x, y, z, xs, X, Y, Z, XS⟩ := HX
    rw [X.out, Y.out, Z.out] at H1 H2 H3 HL HV
    rw [XS.out] at HL H1 H2 H3 HN
    rw [Z.out] at hz
    rw [← HN.out] at hle
    have hxl : xs.length ≤ 2000000000 := by omega
    have HY : ∃ ys, Hid (xs.reverse = ys) ∧ ys.length ≤ maxLen := ⟨_, rfl, by rw [List.length_reverse]; simp only [maxLen]; omega⟩
    obtain ⟨ys, YS, hxm⟩ := HY
    rw [YS.out] at HL
    have HE := Lib.hid (show eqB ys ys = true by simp [eqB])
    go_wp2_with fail
    refine (iReverseRange_any _ _ _ _).mono ?_; rw [X.out, Y.out, Z.out]; rintro e w2 ⟨rfl, g2⟩
    have hc2 := bcel g2
    go_wp2_with fail
    refine nameW ?_; intro W hW
    (have z1 : w1.heap.size < w2.heap.size := by have := g2.size; simp at this; omega); (have p0 : W.cell? ⟨w1.heap.size, 0, none⟩ = some (.int .i64 a) := by rw [hW, World.cell?_alloc_lt _ _ _ z1]; exact (hc2 _ _ (by simp)).trans (by simp)); (have p1 : W.cell? ⟨w1.heap.size, 1, none⟩ = some (.int .i64 b) := by rw [hW, World.cell?_alloc_lt _ _ _ z1]; exact (hc2 _ _ (by simp)).trans (by simp)); (have p2 : W.cell? ⟨w1.heap.size, 2, none⟩ = some (.int .i64 c) := by rw [hW, World.cell?_alloc_lt _ _ _ z1]; exact (hc2 _ _ (by simp)).trans (by simp)); (have q0 : W.cell? ⟨w2.heap.size, 0, none⟩ = some (.int .i64 x) := by rw [hW]; simp [go_sem]); (have q1 : W.cell? ⟨w2.heap.size, 1, none⟩ = some (.int .i64 y) := by rw [hW]; simp [go_sem]); (have q2 : W.cell? ⟨w2.heap.size, 2, none⟩ = some (.int .i64 z) := by rw [hW]; simp [go_sem]); (have zB : w2.heap.size < W.heap.size := by rw [hW]; simp); (have zA : w1.heap.size < W.heap.size := Nat.lt_trans z1 zB); (have gW : Below w.heap.size w W := by rw [hW]; exact (by (repeat' (first | (with_reducible exact Below.refl _ _) | (with_reducible assumption) | (with_reducible refine Below.setCell ?_ ?_ _) | (with_reducible refine Below.al ?_ _) | (with_reducible refine Below.drew ?_) | (with_reducible refine Below.drN ?_ _) | (with_reducible refine Below.step ?_ (by assumption)) | (with_reducible refine Below.alloc ?_ ?_ _))); all_goals (simp; try omega))); clear hc2 hW g2 hb1
    refine wp_region_noPanic ?_
    refine wp_region_held_drew (S := (fun w' => Below W.heap.size W w' ∧ ∀ bb oo, bb < W.heap.size → w'.cell? ⟨bb, oo, none⟩ = W.cell? ⟨bb, oo, none⟩)) (by kernel_rfl) ?_ (fun hHeld => ?_)
    · ((refine keepB ?_) <;> (repeat' (first | (with_reducible assumption) | (with_reducible exact And.left (by assumption)) | (with_reducible exact Below.refl _ _) | (with_reducible exact Below.size (And.left (by assumption))) | (with_reducible refine Below.drew ?_) | (with_reducible refine Below.drN ?_ _) | (with_reducible refine Below.al ?_ _) | (with_reducible refine Below.step ?_ (by assumption)) | (with_reducible refine Below.setCell ?_ ?_ _) | (with_reducible refine Below.alloc ?_ ?_ _) | (simp <;> omega))))
    refine wpAnyH_take (i := 0) (oi := ⟨some 12, _, _, _, _, _⟩) (v := ?_) rfl (by kernel_rfl) (by kernel_rfl) (by kernel_rfl) (fun _ _ _ h => h) (Or.inl ⟨by rfl, ?_⟩) (by assumption) ?_
    rotate_left
    · ((intro w hSw; (try dsimp only at hSw); go_simp) <;> (with_reducible rfl))
    (try simp only [Act.put, List.setIfInBounds_toArray, List.set_cons_zero, List.set_cons_succ])
    refine wpAnyH_take (i := 1) (oi := ⟨some 13, _, _, _, _, _⟩) (v := ?_) rfl (by kernel_rfl) (by kernel_rfl) (by kernel_rfl) (fun _ _ _ h => h) (Or.inl ⟨by rfl, ?_⟩) (by assumption) ?_
    rotate_left
    · ((intro w hSw; (try dsimp only at hSw); go_simp) <;> (with_reducible rfl))
    (try simp only [Act.put, List.setIfInBounds_toArray, List.set_cons_zero, List.set_cons_succ])
    refine wpAnyH_ready (rs := [2]) (by kernel_rfl) (by simp) ?_
    refine AllReadyH.cons (o := ⟨some 14, _, _, _, _, _⟩) rfl (fun K hK => ?_) AllReadyH.nil
    go_simp
    refine (sReverseRange_any _ _ _ _).mono ?_; rw [X.out, Y.out, Z.out]; rintro e w14 ⟨rfl, hb14⟩
    refine hK.out _ _ ?_ (fun hHeld => ?_)
    · ((refine keepB ?_) <;> (repeat' (first | (with_reducible assumption) | (with_reducible exact And.left (by assumption)) | (with_reducible exact Below.refl _ _) | (with_reducible exact Below.size (And.left (by assumption))) | (with_reducible refine Below.drew ?_) | (with_reducible refine Below.drN ?_ _) | (with_reducible refine Below.al ?_ _) | (with_reducible refine Below.step ?_ (by assumption)) | (with_reducible refine Below.setCell ?_ ?_ _) | (with_reducible refine Below.alloc ?_ ?_ _) | (simp <;> omega))))
    clear hK K
    (try simp only [Act.put, List.setIfInBounds_toArray, List.set_cons_zero, List.set_cons_succ])
    refine wpAnyH_ready (rs := [3]) (by kernel_rfl) (by simp) ?_
    refine AllReadyH.cons (o := ⟨some 15, _, _, _, _, _⟩) rfl (fun K hK => ?_) AllReadyH.nil
    go_simp
    refine (equalRange_same _ _ _ _).mono ?_; rintro e w15 ⟨rfl, hb15⟩
    refine hK.out _ _ ?_ (fun hHeld => ?_)
    · ((refine keepB ?_) <;> (repeat' (first | (with_reducible assumption) | (with_reducible exact And.left (by assumption)) | (with_reducible exact Below.refl _ _) | (with_reducible exact Below.size (And.left (by assumption))) | (with_reducible refine Below.drew ?_) | (with_reducible refine Below.drN ?_ _) | (with_reducible refine Below.al ?_ _) | (with_reducible refine Below.step ?_ (by assumption)) | (with_reducible refine Below.setCell ?_ ?_ _) | (with_reducible refine Below.alloc ?_ ?_ _) | (simp <;> omega))))
    clear hK K
    (try simp only [Act.put, List.setIfInBounds_toArray, List.set_cons_zero, List.set_cons_succ])
    refine wpAnyH_take (i := 4) (oi := ⟨some 16, _, _, _, _, _⟩) (v := ?_) rfl (by kernel_rfl) (by kernel_rfl) (by kernel_rfl) (fun _ _ _ h => h) (Or.inl ⟨by rfl, ?_⟩) (by assumption) ?_
    rotate_left
    · ((intro w hSw; (try dsimp only at hSw); go_simp) <;> (with_reducible rfl))
    (try simp only [Act.put, List.setIfInBounds_toArray, List.set_cons_zero, List.set_cons_succ])
    refine wpAnyH_take (i := 5) (oi := ⟨some 17, _, _, _, _, _⟩) (v := ?_) rfl (by kernel_rfl) (by kernel_rfl) (by kernel_rfl) (fun _ _ _ h => h) (Or.inl ⟨by rfl, ?_⟩) (by assumption) ?_
    rotate_left
    · ((intro w hSw; (try dsimp only at hSw); go_simp) <;> (with_reducible rfl))
    (try simp only [Act.put, List.setIfInBounds_toArray, List.set_cons_zero, List.set_cons_succ])
    refine wpAnyH_take (i := 6) (oi := ⟨some 18, _, _, _, _, _⟩) (v := ?_) rfl (by kernel_rfl) (by kernel_rfl) (by kernel_rfl) (fun _ _ _ h => h) (Or.inl ⟨by rfl, ?_⟩) (by assumption) ?_
    rotate_left
    · ((intro w hSw; (try dsimp only at hSw); go_simp) <;> (with_reducible rfl))
    (try simp only [Act.put, List.setIfInBounds_toArray, List.set_cons_zero, List.set_cons_succ])
    refine wpAnyH_take (i := 7) (oi := ⟨some 19, _, _, _, _, _⟩) (v := ?_) rfl (by kernel_rfl) (by kernel_rfl) (by kernel_rfl) (fun _ _ _ h => h) (Or.inl ⟨by rfl, ?_⟩) (by assumption) ?_
    rotate_left
    · ((intro w hSw; (try dsimp only at hSw); go_simp) <;> (with_reducible rfl))
    (try simp only [Act.put, List.setIfInBounds_toArray, List.set_cons_zero, List.set_cons_succ])
    refine wpAnyH_take (i := 8) (oi := ⟨some 20, _, _, _, _, _⟩) (v := ?_) rfl (by kernel_rfl) (by kernel_rfl) (by kernel_rfl) (fun _ _ _ h => h) (Or.inl ⟨by rfl, ?_⟩) (by assumption) ?_
    rotate_left
    · ((intro w hSw; (try dsimp only at hSw); go_simp) <;> (with_reducible rfl))
    (try simp only [Act.put, List.setIfInBounds_toArray, List.set_cons_zero, List.set_cons_succ])
    refine wpAnyH_take (i := 9) (oi := ⟨some 21, _, _, _, _, _⟩) (v := ?_) rfl (by kernel_rfl) (by kernel_rfl) (by kernel_rfl) (fun _ _ _ h => h) (Or.inl ⟨by rfl, ?_⟩) (by assumption) ?_
    rotate_left
    · ((intro w hSw; (try dsimp only at hSw); go_simp) <;> (with_reducible rfl))
    (try simp only [Act.put, List.setIfInBounds_toArray, List.set_cons_zero, List.set_cons_succ])
    refine wpAnyH_done (by kernel_rfl) ?_ _
    refine NoPanic.normal ?_
    go_wp2_with fail
    refine wp_region_noPanic ?_
    refine wp_region_held_drew (S := (fun w' => Below W.heap.size W w' ∧ ∀ bb oo, bb < W.heap.size → w'.cell? ⟨bb, oo, none⟩ = W.cell? ⟨bb, oo, none⟩)) (by kernel_rfl) ?_ (fun hHeld => ?_)
    · ((refine keepB ?_) <;> (repeat' (first | (with_reducible assumption) | (with_reducible exact And.left (by assumption)) | (with_reducible exact Below.refl _ _) | (with_reducible exact Below.size (And.left (by assumption))) | (with_reducible refine Below.drew ?_) | (with_reducible refine Below.drN ?_ _) | (with_reducible refine Below.al ?_ _) | (with_reducible refine Below.step ?_ (by assumption)) | (with_reducible refine Below.setCell ?_ ?_ _) | (with_reducible refine Below.alloc ?_ ?_ _) | (simp <;> omega))))
    refine wpAnyH_take (i := 0) (oi := ⟨some 26, _, _, _, _, _⟩) (v := ?_) rfl (by kernel_rfl) (by kernel_rfl) (by kernel_rfl) (fun _ _ _ h => h) (Or.inl ⟨by rfl, ?_⟩) (by assumption) ?_
    rotate_left
    · ((intro w hSw; (try dsimp only at hSw); go_simp) <;> (with_reducible rfl))
    (try simp only [Act.put, List.setIfInBounds_toArray, List.set_cons_zero, List.set_cons_succ])
    refine wpAnyH_take (i := 2) (oi := ⟨some 28, _, _, _, _, _⟩) (v := ?_) rfl (by kernel_rfl) (by kernel_rfl) (by kernel_rfl) (fun _ _ _ h => h) (Or.inl ⟨by rfl, ?_⟩) (by assumption) ?_
    rotate_left
    · ((intro w hSw; (try dsimp only at hSw); go_simp) <;> (with_reducible rfl))
    (try simp only [Act.put, List.setIfInBounds_toArray, List.set_cons_zero, List.set_cons_succ])
    refine wpAnyH_ready (rs := [1]) (by kernel_rfl) (by simp) ?_
    refine AllReadyH.cons (o := ⟨some 27, _, _, _, _, _⟩) rfl (fun K hK => ?_) AllReadyH.nil
    go_simp
    refine (iNumbersOf_any _ _ _ _).mono ?_; rw [if_pos HV.out, HL.out]; rintro e w27 ⟨A27, c27, rfl, ho27, hb27⟩; have r27 := ho27.rd
    refine hK.out _ _ ?_ (fun hHeld => ?_)
    · ((refine keepB ?_) <;> (repeat' (first | (with_reducible assumption) | (with_reducible exact And.left (by assumption)) | (with_reducible exact Below.refl _ _) | (with_reducible exact Below.size (And.left (by assumption))) | (with_reducible refine Below.drew ?_) | (with_reducible refine Below.drN ?_ _) | (with_reducible refine Below.al ?_ _) | (with_reducible refine Below.step ?_ (by assumption)) | (with_reducible refine Below.setCell ?_ ?_ _) | (with_reducible refine Below.alloc ?_ ?_ _) | (simp <;> omega))))
    clear hK K
    (try simp only [Act.put, List.setIfInBounds_toArray, List.set_cons_zero, List.set_cons_succ])
    refine wpAnyH_ready (rs := [3]) (by kernel_rfl) (by simp) ?_
    refine AllReadyH.cons (o := ⟨some 29, _, _, _, _, _⟩) rfl (fun K hK => ?_) AllReadyH.nil
    go_simp
    refine (iNumbersOf_any _ _ _ _).mono ?_; rw [if_pos hv, XS.out]; rintro e w29 ⟨A29, c29, rfl, ho29, hb29⟩; have r29 := r27.to hb29
    refine hK.out _ _ ?_ (fun hHeld => ?_)
    · ((refine keepB ?_) <;> (repeat' (first | (with_reducible assumption) | (with_reducible exact And.left (by assumption)) | (with_reducible exact Below.refl _ _) | (with_reducible exact Below.size (And.left (by assumption))) | (with_reducible refine Below.drew ?_) | (with_reducible refine Below.drN ?_ _) | (with_reducible refine Below.al ?_ _) | (with_reducible refine Below.step ?_ (by assumption)) | (with_reducible refine Below.setCell ?_ ?_ _) | (with_reducible refine Below.alloc ?_ ?_ _) | (simp <;> omega))))
    clear hK K
    (try simp only [Act.put, List.setIfInBounds_toArray, List.set_cons_zero, List.set_cons_succ])
    refine wpAnyH_ready (rs := [4]) (by kernel_rfl) (by simp) ?_
    refine AllReadyH.cons (o := ⟨some 30, _, _, _, _, _⟩) rfl (fun K hK => ?_) AllReadyH.nil
    go_simp
    refine (back_any _ _ _ _ ho29.rd hxl).mono ?_; rw [YS.out]; rintro e w30 ⟨A30, c30, rfl, ho30, hb30⟩; have r30 := r29.to hb30
    refine hK.out _ _ ?_ (fun hHeld => ?_)
    · ((refine keepB ?_) <;> (repeat' (first | (with_reducible assumption) | (with_reducible exact And.left (by assumption)) | (with_reducible exact Below.refl _ _) | (with_reducible exact Below.size (And.left (by assumption))) | (with_reducible refine Below.drew ?_) | (with_reducible refine Below.drN ?_ _) | (with_reducible refine Below.al ?_ _) | (with_reducible refine Below.step ?_ (by assumption)) | (with_reducible refine Below.setCell ?_ ?_ _) | (with_reducible refine Below.alloc ?_ ?_ _) | (simp <;> omega))))
    clear hK K
    (try simp only [Act.put, List.setIfInBounds_toArray, List.set_cons_zero, List.set_cons_succ])
    refine wpAnyH_ready (rs := [5]) (by kernel_rfl) (by simp) ?_
    refine AllReadyH.cons (o := ⟨some 31, _, _, _, _, _⟩) rfl (fun K hK => ?_) AllReadyH.nil
    go_simp
    refine (equalInts_any _ _ _ _ _ _ _ _ _ r30 ho30.rd hxm hxm).mono ?_; rintro e w31 ⟨rfl, hb31⟩; rw [HE.out]
    refine hK.out _ _ ?_ (fun hHeld => ?_)
    · ((refine keepB ?_) <;> (repeat' (first | (with_reducible assumption) | (with_reducible exact And.left (by assumption)) | (with_reducible exact Below.refl _ _) | (with_reducible exact Below.size (And.left (by assumption))) | (with_reducible refine Below.drew ?_) | (with_reducible refine Below.drN ?_ _) | (with_reducible refine Below.al ?_ _) | (with_reducible refine Below.step ?_ (by assumption)) | (with_reducible refine Below.setCell ?_ ?_ _) | (with_reducible refine Below.alloc ?_ ?_ _) | (simp <;> omega))))
    clear hK K
    (try simp only [Act.put, List.setIfInBounds_toArray, List.set_cons_zero, List.set_cons_succ])
    refine wpAnyH_take (i := 6) (oi := ⟨some 32, _, _, _, _, _⟩) (v := ?_) rfl (by kernel_rfl) (by kernel_rfl) (by kernel_rfl) (fun _ _ _ h => h) (Or.inl ⟨by rfl, ?_⟩) (by assumption) ?_
    rotate_left
    · ((intro w hSw; (try dsimp only at hSw); go_simp) <;> (with_reducible rfl))
    (try simp only [Act.put, List.setIfInBounds_toArray, List.set_cons_zero, List.set_cons_succ])
    refine wpAnyH_take (i := 7) (oi := ⟨some 33, _, _, _, _, _⟩) (v := ?_) rfl (by kernel_rfl) (by kernel_rfl) (by kernel_rfl) (fun _ _ _ h => h) (Or.inl ⟨by rfl, ?_⟩) (by assumption) ?_
    rotate_left
    · ((intro w hSw; (try dsimp only at hSw); go_simp) <;> (with_reducible rfl))
    (try simp only [Act.put, List.setIfInBounds_toArray, List.set_cons_zero, List.set_cons_succ])
    refine wpAnyH_take (i := 9) (oi := ⟨some 35, _, _, _, _, _⟩) (v := ?_) rfl (by kernel_rfl) (by kernel_rfl) (by kernel_rfl) (fun _ _ _ h => h) (Or.inl ⟨by rfl, ?_⟩) (by assumption) ?_
    rotate_left
    · ((intro w hSw; (try dsimp only at hSw); go_simp) <;> (with_reducible rfl))
    (try simp only [Act.put, List.setIfInBounds_toArray, List.set_cons_zero, List.set_cons_succ])
    refine wpAnyH_ready (rs := [8]) (by kernel_rfl) (by simp) ?_
    refine AllReadyH.cons (o := ⟨some 34, _, _, _, _, _⟩) rfl (fun K hK => ?_) AllReadyH.nil
    go_simp
    refine (iReverseRange_any _ _ _ _).mono ?_; rw [H1.out, H2.out, H3.out]; rintro e w34 ⟨rfl, hb34⟩
    refine hK.out _ _ ?_ (fun hHeld => ?_)
    · ((refine keepB ?_) <;> (repeat' (first | (with_reducible assumption) | (with_reducible exact And.left (by assumption)) | (with_reducible exact Below.refl _ _) | (with_reducible exact Below.size (And.left (by assumption))) | (with_reducible refine Below.drew ?_) | (with_reducible refine Below.drN ?_ _) | (with_reducible refine Below.al ?_ _) | (with_reducible refine Below.step ?_ (by assumption)) | (with_reducible refine Below.setCell ?_ ?_ _) | (with_reducible refine Below.alloc ?_ ?_ _) | (simp <;> omega))))
    clear hK K
    (try simp only [Act.put, List.setIfInBounds_toArray, List.set_cons_zero, List.set_cons_succ])
    refine wpAnyH_ready (rs := [10]) (by kernel_rfl) (by simp) ?_
    refine AllReadyH.cons (o := ⟨some 36, _, _, _, _, _⟩) rfl (fun K hK => ?_) AllReadyH.nil
    go_simp
    refine (iNormalRange_any _ _ _ _).mono ?_; rw [if_pos hv, XS.out]; rintro e w36 ⟨rfl, hb36⟩
    refine hK.out _ _ ?_ (fun hHeld => ?_)
    · ((refine keepB ?_) <;> (repeat' (first | (with_reducible assumption) | (with_reducible exact And.left (by assumption)) | (with_reducible exact Below.refl _ _) | (with_reducible exact Below.size (And.left (by assumption))) | (with_reducible refine Below.drew ?_) | (with_reducible refine Below.drN ?_ _) | (with_reducible refine Below.al ?_ _) | (with_reducible refine Below.step ?_ (by assumption)) | (with_reducible refine Below.setCell ?_ ?_ _) | (with_reducible refine Below.alloc ?_ ?_ _) | (simp <;> omega))))
    clear hK K
    (try simp only [Act.put, List.setIfInBounds_toArray, List.set_cons_zero, List.set_cons_succ])
    refine wpAnyH_take (i := 11) (oi := ⟨some 37, _, _, _, _, _⟩) (v := ?_) rfl (by kernel_rfl) (by kernel_rfl) (by kernel_rfl) (fun _ _ _ h => h) (Or.inl ⟨by rfl, ?_⟩) (by assumption) ?_
    rotate_left
    · ((intro w hSw; (try dsimp only at hSw); go_simp) <;> (with_reducible rfl))
    (try simp only [Act.put, List.setIfInBounds_toArray, List.set_cons_zero, List.set_cons_succ])
    refine wpAnyH_take (i := 12) (oi := ⟨some 38, _, _, _, _, _⟩) (v := ?_) rfl (by kernel_rfl) (by kernel_rfl) (by kernel_rfl) (fun _ _ _ h => h) (Or.inl ⟨by rfl, ?_⟩) (by assumption) ?_
    rotate_left
    · ((intro w hSw; (try dsimp only at hSw); go_simp) <;> (with_reducible rfl))
    (try simp only [Act.put, List.setIfInBounds_toArray, List.set_cons_zero, List.set_cons_succ])
    refine wpAnyH_take (i := 13) (oi := ⟨some 2, _, _, _, _, _⟩) (v := ?_) rfl (by kernel_rfl) (by kernel_rfl) (by kernel_rfl) (fun _ _ _ h => h) (Or.inl ⟨by rfl, ?_⟩) (by assumption) ?_
    rotate_left
    · ((intro w hSw; (try dsimp only at hSw); go_simp) <;> (with_reducible rfl))
    (try simp only [Act.put, List.setIfInBounds_toArray, List.set_cons_zero, List.set_cons_succ])
    refine wpAnyH_done (by kernel_rfl) ?_ _
    refine NoPanic.normal ?_
    go_wp2_with fail
    go_ret
    exact ⟨rfl, gW.step hHeld.1⟩
  · have hv' : rangeB a b c = false := by simpa using hv
    have H1 : Hid (rv1 a b c = 0) := by rw [rv1, if_neg hv]; rfl
    have H2 : Hid (rv2 a b c = 0) := by rw [rv2, if_neg hv]; rfl
    have H3 : Hid (rv3 a b c = 0) := by rw [rv3, if_neg hv]; rfl
    go_wp2_with fail
    refine (iReverseRange_any _ _ _ _).mono ?_; rw [H1.out, H2.out, H3.out]; rintro e w2 ⟨rfl, g2⟩
    have hc2 := bcel g2
    go_wp2_with fail
    refine nameW ?_; intro W hW
    (have z1 : w1.heap.size < w2.heap.size := by have := g2.size; simp at this; omega); (have p0 : W.cell? ⟨w1.heap.size, 0, none⟩ = some (.int .i64 a) := by rw [hW, World.cell?_alloc_lt _ _ _ z1]; exact (hc2 _ _ (by simp)).trans (by simp)); (have p1 : W.cell? ⟨w1.heap.size, 1, none⟩ = some (.int .i64 b) := by rw [hW, World.cell?_alloc_lt _ _ _ z1]; exact (hc2 _ _ (by simp)).trans (by simp)); (have p2 : W.cell? ⟨w1.heap.size, 2, none⟩ = some (.int .i64 c) := by rw [hW, World.cell?_alloc_lt _ _ _ z1]; exact (hc2 _ _ (by simp)).trans (by simp)); (have q0 : W.cell? ⟨w2.heap.size, 0, none⟩ = some (.int .i64 0) := by rw [hW]; simp [go_sem]); (have q1 : W.cell? ⟨w2.heap.size, 1, none⟩ = some (.int .i64 0) := by rw [hW]; simp [go_sem]); (have q2 : W.cell? ⟨w2.heap.size, 2, none⟩ = some (.int .i64 0) := by rw [hW]; simp [go_sem]); (have zB : w2.heap.size < W.heap.size := by rw [hW]; simp); (have zA : w1.heap.size < W.heap.size := Nat.lt_trans z1 zB); (have gW : Below w.heap.size w W := by rw [hW]; exact (by (repeat' (first | (with_reducible exact Below.refl _ _) | (with_reducible assumption) | (with_reducible refine Below.setCell ?_ ?_ _) | (with_reducible refine Below.al ?_ _) | (with_reducible refine Below.drew ?_) | (with_reducible refine Below.drN ?_ _) | (with_reducible refine Below.step ?_ (by assumption)) | (with_reducible refine Below.alloc ?_ ?_ _))); all_goals (simp; try omega))); clear hc2 hW g2 hb1
    refine wp_region_noPanic ?_
    refine wp_region_held_drew (S := (fun w' => Below W.heap.size W w' ∧ ∀ bb oo, bb < W.heap.size → w'.cell? ⟨bb, oo, none⟩ = W.cell? ⟨bb, oo, none⟩)) (by kernel_rfl) ?_ (fun hHeld => ?_)
    · ((refine keepB ?_) <;> (repeat' (first | (with_reducible assumption) | (with_reducible exact And.left (by assumption)) | (with_reducible exact Below.refl _ _) | (with_reducible exact Below.size (And.left (by assumption))) | (with_reducible refine Below.drew ?_) | (with_reducible refine Below.drN ?_ _) | (with_reducible refine Below.al ?_ _) | (with_reducible refine Below.step ?_ (by assumption)) | (with_reducible refine Below.setCell ?_ ?_ _) | (with_reducible refine Below.alloc ?_ ?_ _) | (simp <;> omega))))
    refine wpAnyH_take (i := 0) (oi := ⟨some 12, _, _, _, _, _⟩) (v := ?_) rfl (by kernel_rfl) (by kernel_rfl) (by kernel_rfl) (fun _ _ _ h => h) (Or.inl ⟨by rfl, ?_⟩) (by assumption) ?_
    rotate_left
    · ((intro w hSw; (try dsimp only at hSw); go_simp) <;> (with_reducible rfl))
    (try simp only [Act.put, List.setIfInBounds_toArray, List.set_cons_zero, List.set_cons_succ])
    refine wpAnyH_take (i := 1) (oi := ⟨some 13, _, _, _, _, _⟩) (v := ?_) rfl (by kernel_rfl) (by kernel_rfl) (by kernel_rfl) (fun _ _ _ h => h) (Or.inl ⟨by rfl, ?_⟩) (by assumption) ?_
    rotate_left
    · ((intro w hSw; (try dsimp only at hSw); go_simp) <;> (with_reducible rfl))
    (try simp only [Act.put, List.setIfInBounds_toArray, List.set_cons_zero, List.set_cons_succ])
    refine wpAnyH_ready (rs := [2]) (by kernel_rfl) (by simp) ?_
    refine AllReadyH.cons (o := ⟨some 14, _, _, _, _, _⟩) rfl (fun K hK => ?_) AllReadyH.nil
    go_simp
    refine (sReverseRange_any _ _ _ _).mono ?_; rw [H1.out, H2.out, H3.out]; rintro e w14 ⟨rfl, hb14⟩
    refine hK.out _ _ ?_ (fun hHeld => ?_)
    · ((refine keepB ?_) <;> (repeat' (first | (with_reducible assumption) | (with_reducible exact And.left (by assumption)) | (with_reducible exact Below.refl _ _) | (with_reducible exact Below.size (And.left (by assumption))) | (with_reducible refine Below.drew ?_) | (with_reducible refine Below.drN ?_ _) | (with_reducible refine Below.al ?_ _) | (with_reducible refine Below.step ?_ (by assumption)) | (with_reducible refine Below.setCell ?_ ?_ _) | (with_reducible refine Below.alloc ?_ ?_ _) | (simp <;> omega))))
    clear hK K
    (try simp only [Act.put, List.setIfInBounds_toArray, List.set_cons_zero, List.set_cons_succ])
    refine wpAnyH_ready (rs := [3]) (by kernel_rfl) (by simp) ?_
    refine AllReadyH.cons (o := ⟨some 15, _, _, _, _, _⟩) rfl (fun K hK => ?_) AllReadyH.nil
    go_simp
    refine (equalRange_same _ _ _ _).mono ?_; rintro e w15 ⟨rfl, hb15⟩
    refine hK.out _ _ ?_ (fun hHeld => ?_)
    · ((refine keepB ?_) <;> (repeat' (first | (with_reducible assumption) | (with_reducible exact And.left (by assumption)) | (with_reducible exact Below.refl _ _) | (with_reducible exact Below.size (And.left (by assumption))) | (with_reducible refine Below.drew ?_) | (with_reducible refine Below.drN ?_ _) | (with_reducible refine Below.al ?_ _) | (with_reducible refine Below.step ?_ (by assumption)) | (with_reducible refine Below.setCell ?_ ?_ _) | (with_reducible refine Below.alloc ?_ ?_ _) | (simp <;> omega))))
    clear hK K
    (try simp only [Act.put, List.setIfInBounds_toArray, List.set_cons_zero, List.set_cons_succ])
    refine wpAnyH_take (i := 4) (oi := ⟨some 16, _, _, _, _, _⟩) (v := ?_) rfl (by kernel_rfl) (by kernel_rfl) (by kernel_rfl) (fun _ _ _ h => h) (Or.inl ⟨by rfl, ?_⟩) (by assumption) ?_
    rotate_left
    · ((intro w hSw; (try dsimp only at hSw); go_simp) <;> (with_reducible rfl))
    (try simp only [Act.put, List.setIfInBounds_toArray, List.set_cons_zero, List.set_cons_succ])
    refine wpAnyH_take (i := 5) (oi := ⟨some 17, _, _, _, _, _⟩) (v := ?_) rfl (by kernel_rfl) (by kernel_rfl) (by kernel_rfl) (fun _ _ _ h => h) (Or.inl ⟨by rfl, ?_⟩) (by assumption) ?_
    rotate_left
    · ((intro w hSw; (try dsimp only at hSw); go_simp) <;> (with_reducible rfl))
    (try simp only [Act.put, List.setIfInBounds_toArray, List.set_cons_zero, List.set_cons_succ])
    refine wpAnyH_take (i := 6) (oi := ⟨some 18, _, _, _, _, _⟩) (v := ?_) rfl (by kernel_rfl) (by kernel_rfl) (by kernel_rfl) (fun _ _ _ h => h) (Or.inl ⟨by rfl, ?_⟩) (by assumption) ?_
    rotate_left
    · ((intro w hSw; (try dsimp only at hSw); go_simp) <;> (with_reducible rfl))
    (try simp only [Act.put, List.setIfInBounds_toArray, List.set_cons_zero, List.set_cons_succ])
    refine wpAnyH_take (i := 7) (oi := ⟨some 19, _, _, _, _, _⟩) (v := ?_) rfl (by kernel_rfl) (by kernel_rfl) (by kernel_rfl) (fun _ _ _ h => h) (Or.inl ⟨by rfl, ?_⟩) (by assumption) ?_
    rotate_left
    · ((intro w hSw; (try dsimp only at hSw); go_simp) <;> (with_reducible rfl))
    (try simp only [Act.put, List.setIfInBounds_toArray, List.set_cons_zero, List.set_cons_succ])
    refine wpAnyH_take (i := 8) (oi := ⟨some 20, _, _, _, _, _⟩) (v := ?_) rfl (by kernel_rfl) (by kernel_rfl) (by kernel_rfl) (fun _ _ _ h => h) (Or.inl ⟨by rfl, ?_⟩) (by assumption) ?_
    rotate_left
    · ((intro w hSw; (try dsimp only at hSw); go_simp) <;> (with_reducible rfl))
    (try simp only [Act.put, List.setIfInBounds_toArray, List.set_cons_zero, List.set_cons_succ])
    refine wpAnyH_take (i := 9) (oi := ⟨some 21, _, _, _, _, _⟩) (v := ?_) rfl (by kernel_rfl) (by kernel_rfl) (by kernel_rfl) (fun _ _ _ h => h) (Or.inl ⟨by rfl, ?_⟩) (by assumption) ?_
    rotate_left
    · ((intro w hSw; (try dsimp only at hSw); go_simp) <;> (with_reducible rfl))
    (try simp only [Act.put, List.setIfInBounds_toArray, List.set_cons_zero, List.set_cons_succ])
    refine wpAnyH_done (by kernel_rfl) ?_ _
    refine NoPanic.normal ?_
    go_wp2_with fail
    refine wp_region_noPanic ?_
    refine wp_region_held_drew (S := (fun w' => Below W.heap.size W w' ∧ ∀ bb oo, bb < W.heap.size → w'.cell? ⟨bb, oo, none⟩ = W.cell? ⟨bb, oo, none⟩)) (by kernel_rfl) ?_ (fun hHeld => ?_)
    · ((refine keepB ?_) <;> (repeat' (first | (with_reducible assumption) | (with_reducible exact And.left (by assumption)) | (with_reducible exact Below.refl _ _) | (with_reducible exact Below.size (And.left (by assumption))) | (with_reducible refine Below.drew ?_) | (with_reducible refine Below.drN ?_ _) | (with_reducible refine Below.al ?_ _) | (with_reducible refine Below.step ?_ (by assumption)) | (with_reducible refine Below.setCell ?_ ?_ _) | (with_reducible refine Below.alloc ?_ ?_ _) | (simp <;> omega))))
    refine wpAnyH_take (i := 0) (oi := ⟨some 22, _, _, _, _, _⟩) (v := ?_) rfl (by kernel_rfl) (by kernel_rfl) (by kernel_rfl) (fun _ _ _ h => h) (Or.inl ⟨by rfl, ?_⟩) (by assumption) ?_
    rotate_left
    · ((intro w hSw; (try dsimp only at hSw); go_simp) <;> (with_reducible rfl))
    (try simp only [Act.put, List.setIfInBounds_toArray, List.set_cons_zero, List.set_cons_succ])
    refine wpAnyH_take (i := 1) (oi := ⟨some 23, _, _, _, _, _⟩) (v := ?_) rfl (by kernel_rfl) (by kernel_rfl) (by kernel_rfl) (fun _ _ _ h => h) (Or.inl ⟨by rfl, ?_⟩) (by assumption) ?_
    rotate_left
    · ((intro w hSw; (try dsimp only at hSw); go_simp) <;> (with_reducible rfl))
    (try simp only [Act.put, List.setIfInBounds_toArray, List.set_cons_zero, List.set_cons_succ])
    refine wpAnyH_ready (rs := [2]) (by kernel_rfl) (by simp) ?_
    refine AllReadyH.cons (o := ⟨some 24, _, _, _, _, _⟩) rfl (fun K hK => ?_) AllReadyH.nil
    go_simp
    refine (sReverseRange_any _ _ _ _).mono ?_; rw [H1.out, H2.out, H3.out]; rintro e w24 ⟨rfl, hb24⟩
    refine hK.out _ _ ?_ (fun hHeld => ?_)
    · ((refine keepB ?_) <;> (repeat' (first | (with_reducible assumption) | (with_reducible exact And.left (by assumption)) | (with_reducible exact Below.refl _ _) | (with_reducible exact Below.size (And.left (by assumption))) | (with_reducible refine Below.drew ?_) | (with_reducible refine Below.drN ?_ _) | (with_reducible refine Below.al ?_ _) | (with_reducible refine Below.step ?_ (by assumption)) | (with_reducible refine Below.setCell ?_ ?_ _) | (with_reducible refine Below.alloc ?_ ?_ _) | (simp <;> omega))))
    clear hK K
    (try simp only [Act.put, List.setIfInBounds_toArray, List.set_cons_zero, List.set_cons_succ])
    refine wpAnyH_ready (rs := [3]) (by kernel_rfl) (by simp) ?_
    refine AllReadyH.cons (o := ⟨some 25, _, _, _, _, _⟩) rfl (fun K hK => ?_) AllReadyH.nil
    go_simp
    refine (equalRange_same _ _ _ _).mono ?_; rintro e w25 ⟨rfl, hb25⟩
    refine hK.out _ _ ?_ (fun hHeld => ?_)
    · ((refine keepB ?_) <;> (repeat' (first | (with_reducible assumption) | (with_reducible exact And.left (by assumption)) | (with_reducible exact Below.refl _ _) | (with_reducible exact Below.size (And.left (by assumption))) | (with_reducible refine Below.drew ?_) | (with_reducible refine Below.drN ?_ _) | (with_reducible refine Below.al ?_ _) | (with_reducible refine Below.step ?_ (by assumption)) | (with_reducible refine Below.setCell ?_ ?_ _) | (with_reducible refine Below.alloc ?_ ?_ _) | (simp <;> omega))))
    clear hK K
    (try simp only [Act.put, List.setIfInBounds_toArray, List.set_cons_zero, List.set_cons_succ])
    refine wpAnyH_take (i := 4) (oi := ⟨some 2, _, _, _, _, _⟩) (v := ?_) rfl (by kernel_rfl) (by kernel_rfl) (by kernel_rfl) (fun _ _ _ h => h) (Or.inl ⟨by rfl, ?_⟩) (by assumption) ?_
    rotate_left
    · ((intro w hSw; (try dsimp only at hSw); go_simp) <;> (with_reducible rfl))
    (try simp only [Act.put, List.setIfInBounds_toArray, List.set_cons_zero, List.set_cons_succ])
    refine wpAnyH_done (by kernel_rfl) ?_ _
    refine NoPanic.normal ?_
    go_wp2_with fail
    go_ret
    exact ⟨rfl, gW.step hHeld.1⟩
end Go.Proofs.Ytipgopapohigpaa
