/- The walk of the law over valid shapes. -/
import Derived.Test.YtdhhdkncglhgfaaLawCA
import Derived.Test.YtdhhdkncglhgfaaAppAll
import Derived.Test.YtdhhdkncglhgfaaReg
import Derived.Test.YtdhhdkncglhgfaaShape3
set_option linter.unusedVariables false
namespace Go.Proofs.Ytdhhdkncglhgfaa
open Go.RowKit

/-- 'append(dst, src...)' at a step of a drawn region. -/
theorem stepAppAll {ops : Array Oper} {o : Oper} {a : Act} {K : Act → World → Prop} {Q : Exit → Act → World → Prop} {E : Prop} {w : World} (hgd : o.guard = none) (s x : Operand)
    (ho : o.op = .call { callee := .builtin .append, args := #[s, x], argTypes := #[24, 24] })
    (B : Nat) (A : Option Addr) (c n : Nat) (xs : List Int) (hs : a.eval s = .slice A n c) (hn : xs.length = n) (hown : Own w B A c xs)
    (A1 : Option Addr) (c1 m : Nat) (ys : List Int) (hx : a.eval x = .slice A1 m c1) (hm : ys.length = m) (B1 : Nat) (hr : Rd w B1 .i64 A1 ys) (hlen : n + m ≤ 2000000000) (hB : B ≤ w.heap.size)
    (h : ∀ A' c' w', Own w' B A' c' (xs ++ ys) → w.grownBy w' (blk A) → Below B w w' → K (a.put o.dst (.slice A' (n + m) c')) w') : if Region.wanted o (yielded ops a.tmps) = true then Oper.wp Try.prog o a w K Q else E := by
  have hw : Region.wanted o (yielded ops a.tmps) = true := by simp [Region.wanted, hgd]
  rw [if_pos hw]
  exact wpAppAll s x ho B A c n xs hs hn hown A1 c1 m ys hx hm B1 hr hlen hB h

def woL (xs : List Int) (i : Nat) : List Int := xs.take i ++ xs.drop (i + 1)
theorem prod_app (xs ys : List Int) : prod (xs ++ ys) = prod xs * prod ys := by
  induction xs with
  | nil => simp [prod]
  | cons x l ih => rw [List.cons_append, prod_cons, prod_cons, ih, Int.mul_assoc]
theorem wo_shape {xs : List Int} (h : shapeB xs = true) (hp : prod xs ≠ 0) {i : Nat} (hi : i < xs.length) : shapeB (woL xs i) = true := by
  have hx := ext_shape h
  have hb := prod_shape h
  have h4 := hx.1
  have e : prod xs = prod (woL xs i) * xs.getD i 0 := by
    have e1 : xs = xs.take i ++ xs.drop i := (List.take_append_drop i xs).symm
    have e2 : prod xs = prod (xs.take i) * prod (xs.drop i) := by
      conv => lhs; rw [e1]
      exact prod_app _ _
    rw [e2, prod_drop xs i hi, woL, prod_app, Int.mul_assoc]
  have h1 := (hx.2 i hi).1
  have hne : xs.getD i 0 ≠ 0 := by intro h0; apply hp; rw [e, h0, Int.mul_zero]
  have hmem : ∀ y ∈ woL xs i, y ∈ xs := fun y hy => by
    rcases List.mem_append.1 hy with hy | hy
    · exact List.mem_of_mem_take hy
    · exact List.mem_of_mem_drop hy
  have hl : (woL xs i).length ≤ 4 := by simp [woL]; omega
  have hE : Ext (woL xs i) := ⟨hl, fun j hj => by
    obtain ⟨k, hk, e⟩ := List.getElem_of_mem (hmem _ (mem_getD hj))
    have := hx.2 k hk
    rw [List.getD_eq_getElem?_getD, List.getElem?_eq_getElem hk] at this
    simp only [Option.getD_some] at this
    rw [e] at this
    exact this⟩
  have hP := hE.prod.1
  have hle : prod (woL xs i) ≤ 60 := by
    have : prod (woL xs i) * 1 ≤ prod (woL xs i) * xs.getD i 0 := Int.mul_le_mul_of_nonneg_left (by omega) hP
    omega
  have ha : allB 0 60 (woL xs i) = true := by
    simp only [shapeB, Bool.and_eq_true] at h
    have h2 := h.2.1
    simp only [allB, Bool.not_eq_true', List.any_eq_false] at h2 ⊢
    exact fun y hy => h2 y (hmem y hy)
  simp [shapeB, ha, hl, hle]

set_option maxHeartbeats 1600000 in
theorem without_any (A : Option Addr) (c : Nat) (xs : List Int) (i : Nat) (w : World) (hr : Rd w w.heap.size .i64 A xs) (hl : xs.length ≤ 1000) (hi : i < xs.length) (hc : xs.length ≤ c) :
    Calls Try.prog 32 #[.slice A xs.length c, .int .i64 i] w (RetInts w (woL xs i)) := by
  obtain ⟨ad, y, rfl, _, _, _⟩ := hr.get hi
  have u1 := IntWalk.i64_in ((i : Int) + 1) (by omega)
  have i1 : (i : Int) ≤ (c : Int) := by omega
  have i2 : (0 : Int) ≤ (i : Int) + 1 := by omega
  have i3 : (i : Int) + 1 ≤ (xs.length : Int) := by omega
  have i4 : (xs.length : Int) ≤ (c : Int) := by omega
  have htk : (xs.take i).length = i := by rw [List.length_take]; omega
  have hdr : (xs.drop (i + 1)).length = xs.length - (i + 1) := by rw [List.length_drop]
  have hd : Rd w w.heap.size .i64 (if c = i + 1 then some ad else some ⟨ad.block, ad.off + (i + 1), none⟩) (xs.drop (i + 1)) := by
    split
    · have : xs.drop (i + 1) = [] := List.drop_of_length_le (by omega)
      rw [this]; exact Rd.nil _ _ _ _
    · have := hr.cut (i + 1)
      rw [← addLit]
      exact this
  have HTK := Lib.hid htk
  have HDR := Lib.hid hdr
  have hlen : i + (xs.length - (i + 1)) ≤ 2000000000 := by omega
  clear htk hdr
  go_enter Try.func32, Try.ntmps32
  go_wp2_with fail
  refine wp_region_noPanic ?_
  refine wp_region_held_drew (S := (fun w' => Below w.heap.size w w' ∧ ∀ bb oo, bb < w.heap.size → w'.cell? ⟨bb, oo, none⟩ = w.cell? ⟨bb, oo, none⟩)) (by kernel_rfl) ?_ (fun hHeld => ?_)
  · ((refine keepB ?_) <;> (repeat' (first | (with_reducible assumption) | (with_reducible exact And.left (by assumption)) | (with_reducible exact Below.refl _ _) | (with_reducible exact Below.size (And.left (by assumption))) | (with_reducible refine Below.drew ?_) | (with_reducible refine Below.drN ?_ _) | (with_reducible refine Below.al ?_ _) | (with_reducible refine Below.step ?_ (by assumption)) | (with_reducible refine Below.setCell ?_ ?_ _) | (with_reducible refine Below.alloc ?_ ?_ _) | (simp <;> omega))))
  refine wpAnyH_take (i := 1) (oi := ⟨some 6, _, _, _, _, _⟩) (v := ?_) rfl (by kernel_rfl) (by kernel_rfl) (by kernel_rfl) (fun _ _ _ h => h) (Or.inl ⟨by rfl, ?_⟩) (by assumption) ?_
  rotate_left
  · ((intro w hSw; (try dsimp only at hSw); go_simp) <;> (with_reducible rfl))
  (try simp only [Act.put, List.setIfInBounds_toArray, List.set_cons_zero, List.set_cons_succ])
  refine wpAnyH_take (i := 2) (oi := ⟨some 7, _, _, _, _, _⟩) (v := ?_) rfl (by kernel_rfl) (by kernel_rfl) (by kernel_rfl) (fun _ _ _ h => h) (Or.inl ⟨by rfl, ?_⟩) (by assumption) ?_
  rotate_left
  · ((intro w hSw; (try dsimp only at hSw); go_simp) <;> (with_reducible rfl))
  (try simp only [Act.put, List.setIfInBounds_toArray, List.set_cons_zero, List.set_cons_succ])
  refine wpAnyH_take (i := 3) (oi := ⟨some 8, _, _, _, _, _⟩) (v := ?_) rfl (by kernel_rfl) (by kernel_rfl) (by kernel_rfl) (fun _ _ _ h => h) (Or.inl ⟨by rfl, ?_⟩) (by assumption) ?_
  rotate_left
  · ((intro w hSw; (try dsimp only at hSw); go_simp) <;> (with_reducible rfl))
  (try simp only [Act.put, List.setIfInBounds_toArray, List.set_cons_zero, List.set_cons_succ])
  refine wpAnyH_take (i := 5) (oi := ⟨some 10, _, _, _, _, _⟩) (v := ?_) rfl (by kernel_rfl) (by kernel_rfl) (by kernel_rfl) (fun _ _ _ h => h) (Or.inl ⟨by rfl, ?_⟩) (by assumption) ?_
  rotate_left
  · ((intro w hSw; (try dsimp only at hSw); go_simp) <;> (with_reducible rfl))
  (try simp only [Act.put, List.setIfInBounds_toArray, List.set_cons_zero, List.set_cons_succ])
  refine wpAnyH_take (i := 6) (oi := ⟨some 11, _, _, _, _, _⟩) (v := ?_) rfl (by kernel_rfl) (by kernel_rfl) (by kernel_rfl) (fun _ _ _ h => h) (Or.inl ⟨by rfl, ?_⟩) (by assumption) ?_
  rotate_left
  · ((intro w hSw; (try dsimp only at hSw); go_simp) <;> (with_reducible rfl))
  (try simp only [Act.put, List.setIfInBounds_toArray, List.set_cons_zero, List.set_cons_succ])
  refine wpAnyH_take (i := 7) (oi := ⟨some 12, _, _, _, _, _⟩) (v := ?_) rfl (by kernel_rfl) (by kernel_rfl) (by kernel_rfl) (fun _ _ _ h => h) (Or.inl ⟨by rfl, ?_⟩) (by assumption) ?_
  rotate_left
  · ((intro w hSw; (try dsimp only at hSw); go_simp) <;> (with_reducible rfl))
  (try simp only [Act.put, List.setIfInBounds_toArray, List.set_cons_zero, List.set_cons_succ])
  refine wpAnyH_take (i := 8) (oi := ⟨some 13, _, _, _, _, _⟩) (v := ?_) rfl (by kernel_rfl) (by kernel_rfl) (by kernel_rfl) (fun _ _ _ h => h) (Or.inl ⟨by rfl, ?_⟩) (by assumption) ?_
  rotate_left
  · ((intro w hSw; (try dsimp only at hSw); go_simp) <;> (with_reducible rfl))
  (try simp only [Act.put, List.setIfInBounds_toArray, List.set_cons_zero, List.set_cons_succ])
  refine wpAnyH_ready (rs := [0]) (by kernel_rfl) (by simp) ?_
  refine AllReadyH.cons (o := ⟨some 5, _, _, _, _, _⟩) rfl (fun K hK => ?_) AllReadyH.nil
  go_simp
  refine hK.out _ _ ?_ (fun hHeld => ?_)
  · ((refine keepB ?_) <;> (repeat' (first | (with_reducible assumption) | (with_reducible exact And.left (by assumption)) | (with_reducible exact Below.refl _ _) | (with_reducible exact Below.size (And.left (by assumption))) | (with_reducible refine Below.drew ?_) | (with_reducible refine Below.drN ?_ _) | (with_reducible refine Below.al ?_ _) | (with_reducible refine Below.step ?_ (by assumption)) | (with_reducible refine Below.setCell ?_ ?_ _) | (with_reducible refine Below.alloc ?_ ?_ _) | (simp <;> omega))))
  clear hK K
  (try simp only [Act.put, List.setIfInBounds_toArray, List.set_cons_zero, List.set_cons_succ])
  refine wpAnyH_ready (rs := [4]) (by kernel_rfl) (by simp) ?_
  refine AllReadyH.cons (o := ⟨some 9, _, _, _, _, _⟩) rfl (fun K hK => ?_) AllReadyH.nil
  (refine stepAppAll rfl (.tmp 5) (.tmp 8) (by rfl) w.heap.size (some ⟨w.heap.size, 0, none⟩) 0 0 [] (by rfl) rfl (Own.made rfl (Nat.le_refl _)).drew (some ad) c i (xs.take i) (by rfl) HTK.out w.heap.size ((hr.take i).alloc (Nat.le_refl _) _).drew (by omega) (by simp) ?_; intro A9 c9 w9 ho9 hg9 hb9; have hS9 := hHeld.1.trans hb9; have hd9 := hd.below hS9; rw [Nat.zero_add]; rw [List.nil_append] at ho9)
  refine hK.out _ _ ?_ (fun hHeld => ?_)
  · ((refine keepB ?_) <;> (repeat' (first | (with_reducible assumption) | (with_reducible exact And.left (by assumption)) | (with_reducible exact Below.refl _ _) | (with_reducible exact Below.size (And.left (by assumption))) | (with_reducible refine Below.drew ?_) | (with_reducible refine Below.drN ?_ _) | (with_reducible refine Below.al ?_ _) | (with_reducible refine Below.step ?_ (by assumption)) | (with_reducible refine Below.setCell ?_ ?_ _) | (with_reducible refine Below.alloc ?_ ?_ _) | (simp <;> omega))))
  clear hK K
  (try simp only [Act.put, List.setIfInBounds_toArray, List.set_cons_zero, List.set_cons_succ])
  refine wpAnyH_ready (rs := [9]) (by kernel_rfl) (by simp) ?_
  refine AllReadyH.cons (o := ⟨some 14, _, _, _, _, _⟩) rfl (fun K hK => ?_) AllReadyH.nil
  (refine stepAppAll rfl (.tmp 9) (.tmp 13) (by rfl) w.heap.size A9 c9 i (xs.take i) (by rfl) HTK.out ho9 _ _ (xs.length - (i + 1)) (xs.drop (i + 1)) (by rfl) HDR.out w.heap.size hd9 hlen hS9.size ?_; intro A14 c14 w14 ho14 hg14 hb14; have hS14 := hS9.trans hb14)
  refine hK.out _ _ ?_ (fun hHeld => ?_)
  · ((refine keepB ?_) <;> (repeat' (first | (with_reducible assumption) | (with_reducible exact And.left (by assumption)) | (with_reducible exact Below.refl _ _) | (with_reducible exact Below.size (And.left (by assumption))) | (with_reducible refine Below.drew ?_) | (with_reducible refine Below.drN ?_ _) | (with_reducible refine Below.al ?_ _) | (with_reducible refine Below.step ?_ (by assumption)) | (with_reducible refine Below.setCell ?_ ?_ _) | (with_reducible refine Below.alloc ?_ ?_ _) | (simp <;> omega))))
  clear hK K
  (try simp only [Act.put, List.setIfInBounds_toArray, List.set_cons_zero, List.set_cons_succ])
  refine wpAnyH_take (i := 10) (oi := ⟨some 4, _, _, _, _, _⟩) (v := ?_) rfl (by kernel_rfl) (by kernel_rfl) (by kernel_rfl) (fun _ _ _ h => h) (Or.inl ⟨by rfl, ?_⟩) (by assumption) ?_
  rotate_left
  · ((intro w hSw; (try dsimp only at hSw); go_simp) <;> (with_reducible rfl))
  (try simp only [Act.put, List.setIfInBounds_toArray, List.set_cons_zero, List.set_cons_succ])
  refine wpAnyH_done (by kernel_rfl) ?_ _
  refine NoPanic.normal ?_
  go_wp2_with fail
  all_goals go_ret
  all_goals (refine ⟨A14, c14, ?_, ho14, hS14⟩; rw [woL, List.length_append, HTK.out, HDR.out]; rfl)

theorem wo_len {xs : List Int} {i : Nat} (h : xs.length ≤ 1000) : (woL xs i).length ≤ maxLen := by simp [woL, maxLen]; omega
set_option maxHeartbeats 1600000 in
theorem FnValidShape_walk (A : Option Addr) (n : Nat) (bs : List Int) (w : World) (hr : Rd w w.heap.size .u8 A bs) (hl : bs.length ≤ maxLen) (hn : bs.length ≤ n) (hb : ∀ x ∈ bs, 0 ≤ x ∧ x ≤ 255) :
    Calls Try.prog 6 #[.slice A bs.length n] w (Ret w (.bool true)) := by
  by_cases hbig : bs.length > 1048576
  · go_enter Try.func6, Try.ntmps6
    go_wp2_with fail
    go_ret
    exact ⟨rfl, (by (repeat' (first | (with_reducible exact Below.refl _ _) | (with_reducible assumption) | (with_reducible refine Below.setCell ?_ ?_ _) | (with_reducible refine Below.al ?_ _) | (with_reducible refine Below.drew ?_) | (with_reducible refine Below.drN ?_ _) | (with_reducible refine Below.step ?_ (by assumption)) | (with_reducible refine Below.alloc ?_ ?_ _))); all_goals (simp; try omega))⟩
  go_enter Try.func6, Try.ntmps6
  go_wp2_with fail
  refine (DrawValidShape_any A n bs _ hr hl hn hb).mono ?_; rintro e w1 ⟨A1, c1, xs, rfl, hx1, hxc, hx2, r1, hb1⟩
  clear hr hb
  have hxm : xs.length ≤ maxLen := by simp only [maxLen]; omega
  rcases hv : shapeB xs with _ | _
  · have HV := Lib.hid hv
    clear hv
    go_wp2_with fail
    refine (iValidShape_any _ _ _ _ r1 hxm).mono ?_; rw [HV.out]; rintro e w2 ⟨rfl, hb2⟩
    have r2 := r1.to hb2
    go_wp2_with fail
    refine (sValidShape_any _ _ _ _ r2 hxm).mono ?_; rw [HV.out]; rintro e w3 ⟨rfl, hb3⟩
    have r3 := r2.to hb3
    go_wp2_with fail
    refine (sValidShape_any _ _ _ _ r3 hxm).mono ?_; rw [HV.out]; rintro e w4 ⟨rfl, hb4⟩
    go_wp2_with fail
    go_ret
    exact ⟨rfl, (by (repeat' (first | (with_reducible exact Below.refl _ _) | (with_reducible assumption) | (with_reducible refine Below.setCell ?_ ?_ _) | (with_reducible refine Below.al ?_ _) | (with_reducible refine Below.drew ?_) | (with_reducible refine Below.drN ?_ _) | (with_reducible refine Below.step ?_ (by assumption)) | (with_reducible refine Below.alloc ?_ ?_ _))); all_goals (simp; try omega))⟩
  · have HV := Lib.hid hv
    obtain ⟨P, HP⟩ : ∃ P, Hid (prod xs = P) := ⟨_, rfl⟩
    have HC : Hid (cntS xs = P) := by rw [cntS, if_pos hv]; exact HP
    have HW : Hid (P ≠ 0 → ∀ i, i < xs.length → shapeB (woL xs i) = true) := fun h i hi => wo_shape hv (by rw [HP.out]; exact h) hi
    clear hv
    go_wp2_with fail
    refine (iValidShape_any _ _ _ _ r1 hxm).mono ?_; rw [HV.out]; rintro e w2 ⟨rfl, hb2⟩
    have r2 := r1.to hb2
    go_wp2_with fail
    refine (sValidShape_any _ _ _ _ r2 hxm).mono ?_; rw [HV.out]; rintro e w3 ⟨rfl, hb3⟩
    have r3 := r2.to hb3
    go_wp2_with fail
    refine (iCountOf_any _ _ _ _ r3 hxm).mono ?_; rw [HC.out]; rintro e w4 ⟨rfl, hb4⟩
    have r4 := r3.to hb4
    by_cases hp : P = 0
    · have hp' : (P == 0) = true := by simpa using hp
      go_wp2_with fail
      refine (sValidShape_any _ _ _ _ r4 hxm).mono ?_; rw [HV.out]; rintro e w5 ⟨rfl, hb5⟩
      go_wp2_with fail
      go_ret
      exact ⟨rfl, (by (repeat' (first | (with_reducible exact Below.refl _ _) | (with_reducible assumption) | (with_reducible refine Below.setCell ?_ ?_ _) | (with_reducible refine Below.al ?_ _) | (with_reducible refine Below.drew ?_) | (with_reducible refine Below.drN ?_ _) | (with_reducible refine Below.step ?_ (by assumption)) | (with_reducible refine Below.alloc ?_ ?_ _))); all_goals (simp; try omega))⟩
    · have hp' : (P == 0) = false := by simpa using hp
      have HW2 := Lib.hid (HW.out hp)
      have hbx : Below w.heap.size w w4 := (by (repeat' (first | (with_reducible exact Below.refl _ _) | (with_reducible assumption) | (with_reducible refine Below.setCell ?_ ?_ _) | (with_reducible refine Below.al ?_ _) | (with_reducible refine Below.drew ?_) | (with_reducible refine Below.drN ?_ _) | (with_reducible refine Below.step ?_ (by assumption)) | (with_reducible refine Below.alloc ?_ ?_ _))); all_goals (simp; try omega))
      clear hp hb1 hb2 hb3 hb4 r1 r2 r3
      go_wp2_with fail
      go_loopw [5] (fun i wr => ∃ k : Nat, k ≤ xs.length ∧ i = .int .i64 k ∧ Below w4.heap.size w4 wr) (fun i _ => xs.length - (intOf i).toNat)
      case atStart => exact ⟨0, Nat.zero_le _, rfl, Below.refl _ _⟩
      case round =>
        obtain ⟨k, hk, rfl, hS⟩ := hrel
        have rr := r4.to hS
        by_cases hlt : k < xs.length
        · go_wp2_with fail
          refine (without_any _ _ _ _ _ rr (by omega) hlt hxc).mono ?_; rintro e w6 ⟨A6, c6, rfl, ho6, hb6⟩
          go_wp2_with fail
          refine (iValidShape_any _ _ _ _ ho6.rd (wo_len (by omega))).mono ?_; rw [HW2.out k hlt]; rintro e w7 ⟨rfl, hb7⟩
          go_wp2_with fail
          go_roundw
          case rel => exact ⟨k + 1, hlt, by go_num, (hS.step hb6).step hb7⟩
          case measure => simp [intOf]; omega
        · obtain rfl : k = xs.length := by omega
          go_wp2_with fail
          go_ret
          exact ⟨rfl, hbx.step hS⟩
end Go.Proofs.Ytdhhdkncglhgfaa
