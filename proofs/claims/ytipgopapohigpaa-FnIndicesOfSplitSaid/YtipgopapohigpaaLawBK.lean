/- The walk of the law over slices that fall apart. -/
import Derived.Test.YtipgopapohigpaaLawBJ
import Derived.Test.YtipgopapohigpaaAppAll
set_option linter.unusedVariables false
namespace Go.Proofs.Ytipgopapohigpaa
open Go.RowKit

theorem prg_join (p q : Nat) : prg 0 1 p ++ prg (p : Int) 1 q = prg 0 1 (p + q) := by
  induction q with
  | zero => simp [prg]
  | succ q ih =>
    rw [prg_succ, ← List.append_assoc, ih, show p + (q + 1) = (p + q) + 1 by omega, prg_succ]
    congr 2; omega
theorem split_all {m : Nat} (hm : m ≤ 60) {f t b : Int} {hf ht : Bool} (hv : sliceB f t b hf ht = true) :
    idxR (m : Int) 0 f 1 false true ++ idxR (m : Int) f 0 1 true false = upF 0 m ∧ (idxR (m : Int) 0 f 1 false true).length + (idxR (m : Int) f 0 1 true false).length = m := by
  simp [sliceB] at hv
  obtain ⟨h1, h2, h3, h4, h5, h6, h7, h8, h9⟩ := hv
  have e1 : idxR (m : Int) 0 f 1 false true = nums 0 (endV (m : Int) f 1) 1 := by
    rw [idxR_good (by omega) (by omega) (by simp [sliceB]; omega)]
    simp [idx, fromV, toV]
  have e2 : idxR (m : Int) f 0 1 true false = nums (endV (m : Int) f 1) (m : Int) 1 := by
    rw [idxR_good (by omega) (by omega) (by simp [sliceB]; omega)]
    simp [idx, fromV, toV]
  obtain ⟨g1, g2⟩ := endV_up (m : Int) f 1 (by omega) (by omega)
  obtain ⟨p, hp⟩ := Int.eq_ofNat_of_zero_le g1
  rw [hp] at g2
  rw [e1, e2, hp]
  have c1 : cnt 0 (p : Int) 1 = p := by unfold cnt; rw [if_pos (by omega)]; omega
  have c2 : cnt (p : Int) (m : Int) 1 = m - p := by unfold cnt; rw [if_pos (by omega)]; omega
  rw [nums_prg, nums_prg, c1, c2, prg_join, show p + (m - p) = m by omega, upF_prg]
  exact ⟨rfl, by rw [prg_length, prg_length]; omega⟩

set_option maxHeartbeats 3200000 in
theorem FnIndicesOfSplit_walk (A : Option Addr) (n : Nat) (bs : List Int) (w : World) (hr : Rd w w.heap.size .u8 A bs) (hl : bs.length ≤ maxLen) (hn : bs.length ≤ n) (hb : ∀ x ∈ bs, 0 ≤ x ∧ x ≤ 255) :
    Calls Try.prog 12 #[.slice A bs.length n] w (Ret w (.bool true)) := by
  by_cases hbig : bs.length > 1048576
  · go_enter Try.func12, Try.ntmps12
    go_wp2_with fail
    go_ret
    exact ⟨rfl, (by (repeat' (first | (with_reducible exact Below.refl _ _) | (with_reducible assumption) | (with_reducible refine Below.setCell ?_ ?_ _) | (with_reducible refine Below.al ?_ _) | (with_reducible refine Below.drew ?_) | (with_reducible refine Below.drN ?_ _) | (with_reducible refine Below.step ?_ (by assumption)) | (with_reducible refine Below.alloc ?_ ?_ _))); all_goals (simp; try omega))⟩
  go_enter Try.func12, Try.ntmps12
  go_wp2_with fail
  refine (DrawIndicesOf_any A n bs _ hr hl hn hb).mono ?_; rintro e w1 ⟨i, f, t, b, hf, ht, rfl, mi, mf, mt, mb, hb1⟩
  clear hr hb
  obtain ⟨xs, XS⟩ : ∃ xs, Hid (idxR i f t b hf ht = xs) := ⟨_, rfl⟩
  have hxl := idxR_len i f t b hf ht
  rw [XS.out] at hxl
  have hxm : xs.length ≤ maxLen := by simp only [maxLen]; omega
  have HE := Lib.hid (show eqB xs xs = true by simp [eqB])
  go_wp2_with fail
  refine (iIndicesOf_any _ _ _ _ _ _ _).mono ?_; rw [XS.out]; rintro e w2 ⟨A2, c2, rfl, ho2, g2⟩
  have hc2 := bcel g2
  have r2 := ho2.rd
  go_wp2_with fail
  refine (sIndicesOf_any _ _ _ _ _ _ _).mono ?_; rw [XS.out]; rintro e w3 ⟨A3, c3, rfl, ho3, hb3⟩; have g3 := g2.step hb3; clear hc2; have hc3 := bcel g3
  have r3 := r2.to hb3
  go_wp2_with fail
  refine (equalInts_any _ _ _ _ _ _ _ _ _ r3 ho3.rd hxm hxm).mono ?_; rw [HE.out]; rintro e w4 ⟨rfl, hb4⟩; have g4 := g3.step hb4; clear hc3; have hc4 := bcel g4
  have r4 := r3.to hb4
  rcases hv : sliceB f t b hf ht with _ | _
  · have HV := Lib.hid hv
    clear hv
    go_wp2_with fail
    refine (iValidSlice_any _ _ _ _ _ _).mono ?_; rw [HV.out]; rintro e w5 ⟨rfl, hb5⟩; have g5 := g4.step hb5; clear hc4; have hc5 := bcel g5
    have r5 := r4.to hb5
    go_wp2_with fail
    refine (sIndicesOf_any _ _ _ _ _ _ _).mono ?_; rw [XS.out]; rintro e w6 ⟨A6, c6, rfl, ho6, hb6⟩; have g6 := g5.step hb6; clear hc5; have hc6 := bcel g6
    have r6 := r5.to hb6
    go_wp2_with fail
    refine (equalInts_any _ _ _ _ _ _ _ _ _ r6 ho6.rd hxm hxm).mono ?_; rw [HE.out]; rintro e w7 ⟨rfl, hb7⟩
    go_wp2_with fail
    go_ret
    exact ⟨rfl, (by (repeat' (first | (with_reducible exact Below.refl _ _) | (with_reducible assumption) | (with_reducible refine Below.setCell ?_ ?_ _) | (with_reducible refine Below.al ?_ _) | (with_reducible refine Below.drew ?_) | (with_reducible refine Below.drN ?_ _) | (with_reducible refine Below.step ?_ (by assumption)) | (with_reducible refine Below.alloc ?_ ?_ _))); all_goals (simp; try omega))⟩
  have HV := Lib.hid hv
  by_cases h1 : i < 0
  · clear hv
    go_wp2_with fail
    refine (iValidSlice_any _ _ _ _ _ _).mono ?_; rw [HV.out]; rintro e w5 ⟨rfl, hb5⟩; have g5 := g4.step hb5; clear hc4; have hc5 := bcel g5
    have r5 := r4.to hb5
    go_wp2_with fail
    refine (sIndicesOf_any _ _ _ _ _ _ _).mono ?_; rw [XS.out]; rintro e w6 ⟨A6, c6, rfl, ho6, hb6⟩; have g6 := g5.step hb6; clear hc5; have hc6 := bcel g6
    have r6 := r5.to hb6
    go_wp2_with fail
    refine (equalInts_any _ _ _ _ _ _ _ _ _ r6 ho6.rd hxm hxm).mono ?_; rw [HE.out]; rintro e w7 ⟨rfl, hb7⟩
    go_wp2_with fail
    go_ret
    exact ⟨rfl, (by (repeat' (first | (with_reducible exact Below.refl _ _) | (with_reducible assumption) | (with_reducible refine Below.setCell ?_ ?_ _) | (with_reducible refine Below.al ?_ _) | (with_reducible refine Below.drew ?_) | (with_reducible refine Below.drN ?_ _) | (with_reducible refine Below.step ?_ (by assumption)) | (with_reducible refine Below.alloc ?_ ?_ _))); all_goals (simp; try omega))⟩
  by_cases h2 : 60 < i
  · clear hv
    go_wp2_with fail
    refine (iValidSlice_any _ _ _ _ _ _).mono ?_; rw [HV.out]; rintro e w5 ⟨rfl, hb5⟩; have g5 := g4.step hb5; clear hc4; have hc5 := bcel g5
    have r5 := r4.to hb5
    go_wp2_with fail
    refine (sIndicesOf_any _ _ _ _ _ _ _).mono ?_; rw [XS.out]; rintro e w6 ⟨A6, c6, rfl, ho6, hb6⟩; have g6 := g5.step hb6; clear hc5; have hc6 := bcel g6
    have r6 := r5.to hb6
    go_wp2_with fail
    refine (equalInts_any _ _ _ _ _ _ _ _ _ r6 ho6.rd hxm hxm).mono ?_; rw [HE.out]; rintro e w7 ⟨rfl, hb7⟩
    go_wp2_with fail
    go_ret
    exact ⟨rfl, (by (repeat' (first | (with_reducible exact Below.refl _ _) | (with_reducible assumption) | (with_reducible refine Below.setCell ?_ ?_ _) | (with_reducible refine Below.al ?_ _) | (with_reducible refine Below.drew ?_) | (with_reducible refine Below.drN ?_ _) | (with_reducible refine Below.step ?_ (by assumption)) | (with_reducible refine Below.alloc ?_ ?_ _))); all_goals (simp; try omega))⟩
  obtain ⟨m, rfl⟩ := Int.eq_ofNat_of_zero_le (show 0 ≤ i by omega)
  have hm60 : m ≤ 60 := by omega
  obtain ⟨hj1, hj2⟩ := split_all hm60 hv
  have HX2 : ∃ ps qs us, Hid (idxR (m : Int) 0 f 1 false true = ps) ∧ Hid (idxR (m : Int) f 0 1 true false = qs) ∧ Hid (upF 0 m = us) := ⟨_, _, _, rfl, rfl, rfl⟩
  obtain ⟨ps, qs, us, AS, BS, US⟩ := HX2
  rw [AS.out, BS.out] at hj1 hj2
  have HUL : us.length = m := by rw [← US.out, upF_length]
  rw [US.out] at hj1
  have HJ := Lib.hid hj1
  have hum : us.length ≤ maxLen := by rw [HUL]; simp only [maxLen]; omega
  have HE1 := Lib.hid (show eqB us us = true by simp [eqB])
  have HL : Hid (ps.length + qs.length = us.length) := by rw [HUL]; exact hj2
  have hal : ps.length ≤ 60 := by omega
  have hcl : qs.length ≤ 60 := by omega
  clear hv hj1 hj2 HUL
  go_wp2_with fail
  refine (iValidSlice_any _ _ _ _ _ _).mono ?_; rw [HV.out]; rintro e w5 ⟨rfl, hb5⟩; have g5 := g4.step hb5; clear hc4; have hc5 := bcel g5
  have r5 := r4.to hb5
  go_wp2_with fail
  refine (iIndicesOf_any _ _ _ _ _ _ _).mono ?_; rw [AS.out]; rintro e w6 ⟨A6, c6, rfl, ho6, hb6⟩; have g6 := g5.step hb6; clear hc5; have hc6 := bcel g6
  have r6 := ho6.rd
  go_wp2_with fail
  refine (iIndicesOf_any _ _ _ _ _ _ _).mono ?_; rw [BS.out]; rintro e w7 ⟨A7, c7, rfl, ho7, hb7⟩; have g7 := g6.step hb7; clear hc6
  have r7 := ho7.rd
  have r67 := r6.to hb7
  have hbx : Below w.heap.size w w7 := (by (repeat' (first | (with_reducible exact Below.refl _ _) | (with_reducible assumption) | (with_reducible refine Below.setCell ?_ ?_ _) | (with_reducible refine Below.al ?_ _) | (with_reducible refine Below.drew ?_) | (with_reducible refine Below.drN ?_ _) | (with_reducible refine Below.step ?_ (by assumption)) | (with_reducible refine Below.alloc ?_ ?_ _))); all_goals (simp; try omega))
  have hz7 : w7.heap.size ≤ (w7.alloc (.cells #[] 3)).heap.size := by simp
  go_wp2_with (first
    | (at_builtin; refine wpList_appAll rfl (.tmp 53) (.tmp 54) (by rfl) w7.heap.size (some ⟨w7.heap.size, 0, none⟩) 0 0 [] (by rfl) rfl (Own.made rfl (Nat.le_refl _)) A6 c6 ps.length ps (by rfl) rfl w7.heap.size (r67.alloc (Nat.le_refl _) _) (by omega) (by simp) ?_; intro A8 c8 w8 ho8 hg8 hb8; have ho8' : Own w8 w7.heap.size A8 c8 ps := (by simpa using ho8); have r78 := (r7.alloc (Nat.le_refl _) (.cells #[] 3)).below hb8; have hz8 := Nat.le_trans hz7 hb8.size)
    | (at_builtin; refine wpList_appAll rfl (.tmp 55) (.tmp 56) (by rfl) w7.heap.size A8 c8 ps.length ps (by rfl) rfl ho8' A7 c7 qs.length qs (by rfl) rfl w7.heap.size r78 (by omega) hz8 ?_; intro A9 c9 w9 ho9 hg9 hb9; rw [HL.out]; rw [HJ.out] at ho9))
  refine (upTo_any _ _ (by omega)).mono ?_; rw [US.out]; rintro e w10 ⟨A10, c10, rfl, ho10, hb10⟩
  have r10 := ho9.rd.to hb10
  go_wp2_with fail
  refine (equalInts_any _ _ _ _ _ _ _ _ _ r10 ho10.rd hum hum).mono ?_; rw [HE1.out]; rintro e w11 ⟨rfl, hb11⟩
  go_wp2_with fail
  go_ret
  have b9 : Below w7.heap.size w7 w9 := (((Below.refl _ _).alloc (Nat.le_refl _) _).trans hb8).trans hb9
  exact ⟨rfl, ((hbx.step b9).step hb10).step hb11⟩
end Go.Proofs.Ytipgopapohigpaa
