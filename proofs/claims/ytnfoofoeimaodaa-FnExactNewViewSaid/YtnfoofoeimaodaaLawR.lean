/- The walk of the exact law over a new view. -/
import Derived.Test.YtnfoofoeimaodaaView6
set_option linter.unusedVariables false
namespace Go.Proofs.Ytnfoofoeimaodaa
open Go.RowKit
theorem nv_len {xs : List Int} : (nvS xs).length ≤ 4 ∧ (nvT xs).length ≤ 4 := by
  rcases hv : shapeB xs with _ | _
  · obtain ⟨e1, e2⟩ := nv_no hv
    rw [e1, e2]; simp
  · have h4 := (ext_shape hv).1
    by_cases h0 : prod xs = 0
    · obtain ⟨e1, e2⟩ := nv_zero hv h0
      rw [e1, e2]; simp; omega
    · obtain ⟨e1, e2⟩ := nv_some hv h0
      rw [e1, e2, rowS_length]; omega
set_option maxHeartbeats 6400000 in
theorem FnExactNewView_walk (A : Option Addr) (c : Nat) (ys : List Int) (w : World) (hr : Rd w w.heap.size .i64 A ys) (hl : ys.length ≤ maxLen) : Calls Try.prog 13 #[.slice A ys.length c] w (Ret w (.bool true)) := by
  have hl2 := hl
  unfold maxLen at hl2
  by_cases hbig : 1048576 < ys.length
  · go_enter Try.func13, Try.ntmps13
    go_wp2_with fail
    go_ret
    exact ⟨rfl, (by (repeat' (first | (with_reducible exact Below.refl _ _) | (with_reducible assumption) | (with_reducible refine Below.setCell ?_ ?_ _) | (with_reducible refine Below.al ?_ _) | (with_reducible refine Below.drew ?_) | (with_reducible refine Below.drN ?_ _) | (with_reducible refine Below.step ?_ (by assumption)) | (with_reducible refine Below.alloc ?_ ?_ _))); all_goals (simp; try omega))⟩
  have hnv := nv_len (xs := ys)
  obtain ⟨xs, hxs⟩ : ∃ xs, xs = nvS ys := ⟨_, rfl⟩
  obtain ⟨ts, hts⟩ : ∃ ts, ts = nvT ys := ⟨_, rfl⟩
  have HXS := Lib.hid hxs
  have HTS := Lib.hid hts
  rw [← hxs, ← hts] at hnv
  obtain ⟨n1, n2⟩ := hnv
  clear hxs hts
  have HEy := Lib.hid (show eqB ys ys = true by simp [eqB])
  have al2 : ys.length ≤ maxLen := by simp only [maxLen]; omega
  have al : ys.length ≤ 2000000000 := by omega
  have xl2 : xs.length ≤ maxLen := by simp only [maxLen]; omega
  have tl2 : ts.length ≤ maxLen := by simp only [maxLen]; omega
  have hp : ¬ (1 + (xs.length : Int) + (ts.length : Int) < 0) := by omega
  go_enter Try.func13, Try.ntmps13
  go_wp2_with fail
  refine (toIntS_any _ _ _ _ hr al).mono ?_; rintro e w1 ⟨A1, c1, rfl, ho1, hb1⟩
  have z1 := hb1.size
  have r1 := ho1.rd
  have k1 := ho1.cap_le
  go_wp2_with fail
  refine (sNewView_any _ _ _ _ r1 al2 k1).mono ?_; rw [← HXS.out, ← HTS.out]; rintro e w2 ⟨Aw, cw, Aw', cw', rfl, how, how', hb2, _⟩
  have z2 := hb2.size
  have g2 := hb1.step hb2
  have vw2 := how.rd
  have vt2 := how'.rd
  have BW2 := Bx.made w2 (.int .i64 0) (.slice Aw xs.length cw) (.slice Aw' ts.length cw') 31
  have a2 := (Below.refl w2.heap.size w2).al (.cells #[.int .i64 0, .slice Aw xs.length cw, .slice Aw' ts.length cw'] 31)
  go_wp2_with fail
  refine (toIntS_any _ _ _ _ ((hr.to (g2.step a2))) al).mono ?_; rintro e w3 ⟨A3, c3, rfl, ho3, hb3⟩
  have z3 := hb3.size
  simp at z3
  have BW3 := BW2.to hb3
  have hb23 := a2.step hb3
  have g3 := g2.step hb23
  have vw3 := vw2.below hb23
  have vt3 := vt2.below hb23
  have r3 := ho3.rd
  have k3 := ho3.cap_le
  go_wp2_with fail
  refine (iNewView_any _ _ _ _ r3 al2 k3).mono ?_; rw [← HXS.out, ← HTS.out]; rintro e w4 ⟨Ag, cg, Ag', cg', rfl, hog, hog', hb4, hdg⟩
  have z4 := hb4.size
  have BW4 := BW3.to hb4
  have g4 := g3.step hb4
  have vw4 := vw3.below (hb4.mono (by omega))
  have vt4 := vt3.below (hb4.mono (by omega))
  have o34 := ho3.below hb4 (Nat.le_refl _)
  have BG4 := Bx.made w4 (.int .i64 0) (.slice Ag xs.length cg) (.slice Ag' ts.length cg') 31
  have a4 := (Below.refl w4.heap.size w4).al (.cells #[.int .i64 0, .slice Ag xs.length cg, .slice Ag' ts.length cg'] 31)
  obtain ⟨zw4, p0, p1, p2⟩ := BW4
  go_wp2_with fail
  refine (eqView_same _ _ _ _ _ _ _ _ _ _ _ _ (hog.rd.to a4) (hog'.rd.to a4) ((vw4.below (a4.mono (by omega))).more (by simp; omega)) ((vt4.below (a4.mono (by omega))).more (by simp; omega)) xl2 tl2).mono ?_; rintro e w5 ⟨rfl, hb5⟩
  have z5 := hb5.size
  simp at z5
  have BW5 := ((show Bx w4 w2.heap.size (.int .i64 0, .slice Aw xs.length cw, .slice Aw' ts.length cw') from ⟨zw4, p0, p1, p2⟩).to a4).to hb5
  clear p0 p1 p2
  have BG5 := BG4.to hb5
  have hb45 := a4.step hb5
  have g5 := g4.step hb45
  have vw5 := vw4.below (hb45.mono (by omega))
  have vt5 := vt4.below (hb45.mono (by omega))
  have og5 := hog.below hb45 (Nat.le_refl _)
  have ot5 := hog'.below hb45 (Nat.le_refl _)
  have o35 := o34.below hb45 (Nat.le_refl _)
  go_wp2_with fail
  refine (toIntS_any _ _ _ _ (hr.to g5) al).mono ?_; rintro e w6 ⟨A6, c6, rfl, ho6, hb6⟩
  have o36 := o35.below hb6 (Nat.le_refl _)
  go_wp2_with fail
  refine (eqIntS_any _ _ _ _ _ _ _ _ _ o36.rd ho6.rd al2 al2).mono ?_; rw [HEy.out]; rintro e w7 ⟨rfl, hb7⟩
  have hb57 := hb6.step hb7
  have z7 := hb57.size
  have g7 := g5.step hb57
  have BW7 := BW5.to hb57
  have BG7 := BG5.to hb57
  have vw7 := vw5.below (hb57.mono (by omega))
  have vt7 := vt5.below (hb57.mono (by omega))
  have og7 := og5.below hb57 (Nat.le_refl _)
  have ot7 := ot5.below hb57 (Nat.le_refl _)
  have o37 := o35.below hb57 (Nat.le_refl _)
  go_wp2_with fail
  refine (markIntS_any _ _ _ _ _ _ o37 al (by omega) (by omega)).mono ?_; rintro e w8 ⟨rfl, _, hg8⟩
  have z8 := hg8.size
  have hb78 : Below (w2.heap.size + 1) w7 w8 := below_of_grown hg8 (by omega) (fun k hk => by have := (ho3.ge k hk).1; simp at this; omega)
  have g8 : Below w.heap.size w w8 := g7.trans (hb78.mono (by omega))
  have BW8 := BW7.lower (by omega) hb78
  have BG8 := BG7.keep z8 fun o => hg8.cell_far ⟨w4.heap.size, o, none⟩ (by simp; omega) (by intro h; have := (ho3.ge w4.heap.size h.symm).2; omega)
  have vw8 := vw7.below (hb78.mono (by omega))
  have vt8 := vt7.below (hb78.mono (by omega))
  have og8 := og7.kept hg8 (blk_ne ho3 hog (Nat.le_refl _))
  have ot8 := ot7.kept hg8 (blk_ne ho3 hog' (Nat.le_refl _))
  obtain ⟨zw8, p0, p1, p2⟩ := BW8
  obtain ⟨zg8, q0, q1, q2⟩ := BG8
  have hk : ¬ (1 + (ys.length : Int) < 0) := by omega
  go_wp2_with fail
  refine (eqView_same _ _ _ _ _ _ _ _ _ _ _ _ og8.rd ot8.rd (vw8.more (by omega)) (vt8.more (by omega)) xl2 tl2).mono ?_; rintro e w9 ⟨rfl, hb9⟩
  have BW9 := (show Bx w8 w2.heap.size (.int .i64 0, .slice Aw xs.length cw, .slice Aw' ts.length cw') from ⟨zw8, p0, p1, p2⟩).to hb9
  have BG9 := (show Bx w8 w4.heap.size (.int .i64 0, .slice Ag xs.length cg, .slice Ag' ts.length cg') from ⟨zg8, q0, q1, q2⟩).to hb9
  clear p0 p1 p2 q0 q1 q2
  have z9 := hb9.size
  have g9 := g8.step hb9
  have vw9 := vw8.below (hb9.mono (by omega))
  have vt9 := vt8.below (hb9.mono (by omega))
  have og9 := og8.below hb9 (Nat.le_refl _)
  have ot9 := ot8.below hb9 (Nat.le_refl _)
  obtain ⟨zg9, q0, q1, q2⟩ := BG9
  go_wp2_with fail
  refine (markView_any _ _ _ _ _ _ _ _ _ _ og9 ot9 hdg (by omega) (by omega) (by omega) (by omega) (by omega)).mono ?_; rintro e w10 ⟨rfl, om10, on10, hb10, hc10⟩
  have z10 := hb10.size
  have BG10 := (show Bx w9 w4.heap.size (.int .i64 0, .slice Ag xs.length cg, .slice Ag' ts.length cg') from ⟨zg9, q0, q1, q2⟩).keep z10 fun o => hc10 w4.heap.size o zg9 (by intro h; have := (hog.ge _ h.symm).2; omega) (by intro h; have := (hog'.ge _ h.symm).2; omega)
  clear q0 q1 q2
  have BW10 := BW9.lower (B := w3.heap.size) (by omega) hb10
  have g10 : Below w.heap.size w w10 := g9.trans (hb10.mono (by omega))
  have vw10 := vw9.below (hb10.mono (by omega))
  have vt10 := vt9.below (hb10.mono (by omega))
  have um := om10.rd
  have un := on10.rd
  obtain ⟨zg10, q0, q1, q2⟩ := BG10
  go_wp2_with fail
  refine (heldView_any _ _ _ _ _ _ _ _ _ um un (by omega) (by omega) (by omega) (by omega)).mono ?_; rintro e w11 ⟨rfl, hb11⟩
  have z11 := hb11.size
  have BG11 := (show Bx w10 w4.heap.size (.int .i64 0, .slice Ag xs.length cg, .slice Ag' ts.length cg') from ⟨zg10, q0, q1, q2⟩).to hb11
  clear q0 q1 q2
  have BW11 := BW10.to hb11
  have g11 := g10.step hb11
  have vw11 := vw10.below (hb11.mono (by omega))
  have vt11 := vt10.below (hb11.mono (by omega))
  have um11 := um.to hb11
  have un11 := un.to hb11
  go_wp2_with fail
  refine (toIntS_any _ _ _ _ (hr.to g11) al).mono ?_; rintro e w12 ⟨A12, c12, rfl, ho12, hb12⟩
  have r12 := ho12.rd
  have k12 := ho12.cap_le
  go_wp2_with fail
  refine (iNewView_any _ _ _ _ r12 al2 k12).mono ?_; rw [← HXS.out, ← HTS.out]; rintro e w13 ⟨Ah, ch, Ah', ch', rfl, hoh, hoh', hb13, _⟩
  have hb113 := hb12.step hb13
  have z13 := hb113.size
  have BW13 := BW11.to hb113
  have BG13 := BG11.to hb113
  have g13 := g11.step hb113
  have vw13 := vw11.below (hb113.mono (by omega))
  have vt13 := vt11.below (hb113.mono (by omega))
  have um13 := um11.to hb113
  have un13 := un11.to hb113
  have a13 := (Below.refl w13.heap.size w13).al (.cells #[.int .i64 0, .slice Ah xs.length ch, .slice Ah' ts.length ch'] 31)
  obtain ⟨zw13, p0, p1, p2⟩ := BW13
  go_wp2_with fail
  refine (eqView_same _ _ _ _ _ _ _ _ _ _ _ _ (hoh.rd.to a13) (hoh'.rd.to a13) ((vw13.below (a13.mono (by omega))).more (by simp; omega)) ((vt13.below (a13.mono (by omega))).more (by simp; omega)) xl2 tl2).mono ?_; rintro e w14 ⟨rfl, hb14⟩
  clear p0 p1 p2
  have hb134 := a13.step hb14
  have g14 := g13.step hb134
  have BG14 := BG13.to hb134
  have um14 := um13.to hb134
  have un14 := un13.to hb134
  obtain ⟨zg14, q0, q1, q2⟩ := BG14
  go_wp2_with fail
  refine (heldView_any _ _ _ _ _ _ _ _ _ um14 un14 (by omega) (by omega) (by omega) (by omega)).mono ?_; rintro e w15 ⟨rfl, hb15⟩
  go_wp2_with fail
  go_ret
  exact ⟨rfl, g14.step hb15⟩
end Go.Proofs.Ytnfoofoeimaodaa
