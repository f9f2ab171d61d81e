/- The walk of the law over column strides. -/
import Derived.Test.YtdhhdkncglhgfaaLawCA
import Derived.Test.YtdhhdkncglhgfaaLawK
import Derived.Test.YtdhhdkncglhgfaaBack
set_option linter.unusedVariables false
namespace Go.Proofs.Ytdhhdkncglhgfaa
open Go.RowKit

theorem prod_app (xs ys : List Int) : prod (xs ++ ys) = prod xs * prod ys := by
  induction xs with
  | nil => simp [prod]
  | cons x l ih => rw [List.cons_append, prod_cons, prod_cons, ih, Int.mul_assoc]
theorem prod_reverse (xs : List Int) : prod xs.reverse = prod xs := by
  induction xs with
  | nil => rfl
  | cons x l ih =>
    have : prod [x] = x := by simp [prod]
    rw [List.reverse_cons, prod_app, ih, this, Int.mul_comm, ← prod_cons]
theorem shape_reverse (xs : List Int) : shapeB xs.reverse = shapeB xs := by
  simp [shapeB, allB, prod_reverse]
theorem col_row (xs : List Int) : (rowS xs.reverse).reverse = colS xs := by
  refine getD_ext' _ _ (by rw [List.length_reverse, rowS_length, List.length_reverse, colS_length]) fun j hj => ?_
  rw [List.length_reverse, rowS_length, List.length_reverse] at hj
  rw [rev_get _ _ (by rw [rowS_length, List.length_reverse]; exact hj), rowS_length, List.length_reverse, rowS_get _ _ (by rw [List.length_reverse]; omega), colS_get _ _ hj]
  rw [List.drop_reverse, prod_reverse]
  congr 2; omega

set_option maxHeartbeats 1600000 in
theorem FnColStrides_walk (A : Option Addr) (n : Nat) (bs : List Int) (w : World) (hr : Rd w w.heap.size .u8 A bs) (hl : bs.length ≤ maxLen) (hn : bs.length ≤ n) (hb : ∀ x ∈ bs, 0 ≤ x ∧ x ≤ 255) :
    Calls Try.prog 12 #[.slice A bs.length n] w (Ret w (.bool true)) := by
  by_cases hbig : bs.length > 1048576
  · go_enter Try.func12, Try.ntmps12
    go_wp2_with fail
    go_ret
    exact ⟨rfl, (by (repeat' (first | (with_reducible exact Below.refl _ _) | (with_reducible assumption) | (with_reducible refine Below.setCell ?_ ?_ _) | (with_reducible refine Below.al ?_ _) | (with_reducible refine Below.drew ?_) | (with_reducible refine Below.drN ?_ _) | (with_reducible refine Below.step ?_ (by assumption)) | (with_reducible refine Below.alloc ?_ ?_ _))); all_goals (simp; try omega))⟩
  go_enter Try.func12, Try.ntmps12
  go_wp2_with fail
  refine (DrawColStrides_any A n bs _ hr hl hn hb).mono ?_; rintro e w1 ⟨A1, c1, xs, rfl, hx1, hxc, hx2, r1, hb1⟩
  clear hr hb
  have hxm : xs.length ≤ maxLen := by simp only [maxLen]; omega
  have hxl : xs.length ≤ 2000000000 := by omega
  obtain ⟨ys, Y0, hy0⟩ : ∃ ys, Hid (colR xs = ys) ∧ ys.length ≤ maxLen := by
    refine ⟨_, rfl, ?_⟩
    unfold colR
    split
    · rw [colS_length]; exact hxm
    · simp
  have HE := Lib.hid (show eqB ys ys = true by simp [eqB])
  rcases hv : shapeB xs with _ | _
  · have HV := Lib.hid hv
    clear hv
    go_wp2_with fail
    refine (iColStrides_any _ _ _ _ r1 hxm hxc).mono ?_; rw [Y0.out]; rintro e w2 ⟨A2, c2, rfl, ho2, hb2⟩
    have r2 := r1.to hb2
    have y2 := ho2.rd
    go_wp2_with fail
    refine (sColStrides_any _ _ _ _ r2 hxm hxc).mono ?_; rw [Y0.out]; rintro e w3 ⟨A3, c3, rfl, ho3, hb3⟩
    have r3 := r2.to hb3
    have y3 := y2.to hb3
    go_wp2_with fail
    refine (equalInts_any _ _ _ _ _ _ _ _ _ y3 ho3.rd hy0 hy0).mono ?_; rw [HE.out]; rintro e w4 ⟨rfl, hb4⟩
    have r4 := r3.to hb4
    have y4 := y3.to hb4
    go_wp2_with fail
    refine (iValidShape_any _ _ _ _ r4 hxm).mono ?_; rw [HV.out]; rintro e w5 ⟨rfl, hb5⟩
    have r5 := r4.to hb5
    have y5 := y4.to hb5
    go_wp2_with fail
    refine (sColStrides_any _ _ _ _ r5 hxm hxc).mono ?_; rw [Y0.out]; rintro e w6 ⟨A6, c6, rfl, ho6, hb6⟩
    have y6 := y5.to hb6
    go_wp2_with fail
    refine (equalInts_any _ _ _ _ _ _ _ _ _ y6 ho6.rd hy0 hy0).mono ?_; rw [HE.out]; rintro e w7 ⟨rfl, hb7⟩
    go_wp2_with fail
    go_ret
    exact ⟨rfl, (by (repeat' (first | (with_reducible exact Below.refl _ _) | (with_reducible assumption) | (with_reducible refine Below.setCell ?_ ?_ _) | (with_reducible refine Below.al ?_ _) | (with_reducible refine Below.drew ?_) | (with_reducible refine Below.drN ?_ _) | (with_reducible refine Below.step ?_ (by assumption)) | (with_reducible refine Below.alloc ?_ ?_ _))); all_goals (simp; try omega))⟩
  · have HV := Lib.hid hv
    have hrv : shapeB xs.reverse = true := by rw [shape_reverse]; exact hv
    have hlr : (rowR xs.reverse).length ≤ 2000000000 := by rw [rowR, if_pos hrv, rowS_length, List.length_reverse]; omega
    have hB : (rowR xs.reverse).reverse = ys := by
      rw [← Y0.out, rowR, if_pos hrv, colR, if_pos hv, col_row]
    have HX2 : ∃ zs ts, Hid (xs.reverse = zs) ∧ Hid (rowR zs = ts) ∧ Hid (ts.reverse = ys) ∧ zs.length ≤ maxLen ∧ ts.length ≤ 2000000000 := ⟨_, _, rfl, rfl, hB, by rw [List.length_reverse]; exact hxm, hlr⟩
    obtain ⟨zs, ts, ZS, TS, TY, hzm, htl⟩ := HX2
    clear hv hrv hlr hB
    go_wp2_with fail
    refine (iColStrides_any _ _ _ _ r1 hxm hxc).mono ?_; rw [Y0.out]; rintro e w2 ⟨A2, c2, rfl, ho2, hb2⟩
    have r2 := r1.to hb2
    have y2 := ho2.rd
    go_wp2_with fail
    refine (sColStrides_any _ _ _ _ r2 hxm hxc).mono ?_; rw [Y0.out]; rintro e w3 ⟨A3, c3, rfl, ho3, hb3⟩
    have r3 := r2.to hb3
    have y3 := y2.to hb3
    go_wp2_with fail
    refine (equalInts_any _ _ _ _ _ _ _ _ _ y3 ho3.rd hy0 hy0).mono ?_; rw [HE.out]; rintro e w4 ⟨rfl, hb4⟩
    have r4 := r3.to hb4
    have y4 := y3.to hb4
    go_wp2_with fail
    refine (iValidShape_any _ _ _ _ r4 hxm).mono ?_; rw [HV.out]; rintro e w5 ⟨rfl, hb5⟩
    have r5 := r4.to hb5
    have y5 := y4.to hb5
    go_wp2_with fail
    refine (back_any _ _ _ _ r5 hxl).mono ?_; rw [ZS.out]; rintro e w6 ⟨A6, c6, rfl, ho6, hb6⟩
    have y6 := y5.to hb6
    have k6 := ho6.cap_le
    go_wp2_with fail
    refine (iRowStrides_any _ _ _ _ ho6.rd hzm k6).mono ?_; rw [TS.out]; rintro e w7 ⟨A7, c7, rfl, ho7, hb7⟩
    have y7 := y6.to hb7
    go_wp2_with fail
    refine (back_any _ _ _ _ ho7.rd htl).mono ?_; rw [TY.out]; rintro e w8 ⟨A8, c8, rfl, ho8, hb8⟩
    have y8 := y7.to hb8
    go_wp2_with fail
    refine (equalInts_any _ _ _ _ _ _ _ _ _ ho8.rd y8 hy0 hy0).mono ?_; rw [HE.out]; rintro e w9 ⟨rfl, hb9⟩
    go_wp2_with fail
    go_ret
    exact ⟨rfl, (by (repeat' (first | (with_reducible exact Below.refl _ _) | (with_reducible assumption) | (with_reducible refine Below.setCell ?_ ?_ _) | (with_reducible refine Below.al ?_ _) | (with_reducible refine Below.drew ?_) | (with_reducible refine Below.drN ?_ _) | (with_reducible refine Below.step ?_ (by assumption)) | (with_reducible refine Below.alloc ?_ ?_ _))); all_goals (simp; try omega))⟩
end Go.Proofs.Ytdhhdkncglhgfaa
