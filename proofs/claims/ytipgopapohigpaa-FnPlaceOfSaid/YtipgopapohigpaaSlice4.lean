/- The walks over slices of a range, further: the slice of a range. -/
import Derived.Test.YtipgopapohigpaaSlice3
set_option linter.unusedVariables false
namespace Go.Proofs.Ytipgopapohigpaa
open Go.RowKit

def slL (a b c f t s : Int) (hf ht : Bool) : List Int := takes (nums a b c) (idx (cnt a b c) f t s hf ht)
def slK (a b c f t s : Int) (hf ht : Bool) : Bool := rangeB a b c && (sliceB f t s hf ht && decide (cnt a b c ≤ 60))
def slOk (a b c f t s : Int) (hf ht : Bool) : Prop := rangeB a b c = true ∧ sliceB f t s hf ht = true ∧ cnt a b c ≤ 60
theorem slK_iff (a b c f t s : Int) (hf ht : Bool) : slK a b c f t s hf ht = true ↔ slOk a b c f t s hf ht := by simp [slK, slOk]
def sl1 (a b c f t s : Int) (hf ht : Bool) : Int := if slK a b c f t s hf ht = true then nrmA (slL a b c f t s hf ht) else 0
def sl2 (a b c f t s : Int) (hf ht : Bool) : Int := if slK a b c f t s hf ht = true then nrmB (slL a b c f t s hf ht) else 0
def sl3 (a b c f t s : Int) (hf ht : Bool) : Int := if slK a b c f t s hf ht = true then nrmC (slL a b c f t s hf ht) else 0
theorem sl_no {a b c f t s : Int} {hf ht : Bool} (h : ¬ slOk a b c f t s hf ht) : sl1 a b c f t s hf ht = 0 ∧ sl2 a b c f t s hf ht = 0 ∧ sl3 a b c f t s hf ht = 0 := by
  have h' : ¬ slK a b c f t s hf ht = true := fun e => h ((slK_iff ..).1 e)
  rw [sl1, sl2, sl3, if_neg h', if_neg h', if_neg h']; exact ⟨rfl, rfl, rfl⟩
theorem sl_yes {a b c f t s : Int} {hf ht : Bool} (h : slOk a b c f t s hf ht) : sl1 a b c f t s hf ht = nrmA (slL a b c f t s hf ht) ∧ sl2 a b c f t s hf ht = nrmB (slL a b c f t s hf ht) ∧ sl3 a b c f t s hf ht = nrmC (slL a b c f t s hf ht) := by
  have h' := (slK_iff ..).2 h
  rw [sl1, sl2, sl3, if_pos h', if_pos h', if_pos h']; exact ⟨rfl, rfl, rfl⟩
theorem slice_ne {f t s : Int} {hf ht : Bool} (h : sliceB f t s hf ht = true) : s ≠ 0 := by simp [sliceB] at h; omega

set_option maxHeartbeats 1600000 in
theorem iSliceRange_no (a b c f t s : Int) (hf ht : Bool) (w : World) (h : ¬ slOk a b c f t s hf ht) : Calls Try.prog 22 #[.agg #[.int .i64 a, .int .i64 b, .int .i64 c], .agg #[.int .i64 f, .int .i64 t, .int .i64 s, .bool hf, .bool ht]] w (Ret w (.agg #[.int .i64 (sl1 a b c f t s hf ht), .int .i64 (sl2 a b c f t s hf ht), .int .i64 (sl3 a b c f t s hf ht)])) := by
  obtain ⟨e1, e2, e3⟩ := sl_no h
  rw [e1, e2, e3]
  clear e1 e2 e3
  rcases h1 : rangeB a b c with _ | _
  · clear h
    go_enter Try.func22, Try.ntmps22
    go_wp2_with fail
    refine (isRange_any _ _ _ _).mono ?_; rintro e w1 ⟨rfl, hb1⟩; obtain ⟨hcz, hfz⟩ := bcell hb1
    rw [h1]
    go_wp2_with fail
    exact bodyPost_ret (v := .agg #[.int .i64 0, .int .i64 0, .int .i64 0]) (by simp [results, Try.results22, go_sem, hcz]) rfl ⟨rfl, (by (repeat' (first | (with_reducible exact Below.refl _ _) | (with_reducible assumption) | (with_reducible refine Below.setCell ?_ ?_ _) | (with_reducible refine Below.al ?_ _) | (with_reducible refine Below.drew ?_) | (with_reducible refine Below.drN ?_ _) | (with_reducible refine Below.step ?_ (by assumption)) | (with_reducible refine Below.alloc ?_ ?_ _))); all_goals (simp; try omega))⟩
  · have hs := small_of h1
    rcases h2 : sliceB f t s hf ht with _ | _
    · clear h
      go_enter Try.func22, Try.ntmps22
      go_wp2_with fail
      refine (isRange_any _ _ _ _).mono ?_; rintro e w1 ⟨rfl, hb1⟩; have hc1 := bcel hb1
      rw [h1]
      go_wp2_with fail
      refine (isSlice_any _ _ _ _ _ _).mono ?_; rintro e w2 ⟨rfl, hb2⟩; have g2 := hb1.step hb2
      rw [h2]
      clear hc1
      obtain ⟨hcz, hfz⟩ := bcell g2
      go_wp2_with fail
      exact bodyPost_ret (v := .agg #[.int .i64 0, .int .i64 0, .int .i64 0]) (by simp [results, Try.results22, go_sem, hcz]) rfl ⟨rfl, (by (repeat' (first | (with_reducible exact Below.refl _ _) | (with_reducible assumption) | (with_reducible refine Below.setCell ?_ ?_ _) | (with_reducible refine Below.al ?_ _) | (with_reducible refine Below.drew ?_) | (with_reducible refine Below.drN ?_ _) | (with_reducible refine Below.step ?_ (by assumption)) | (with_reducible refine Below.alloc ?_ ?_ _))); all_goals (simp; try omega))⟩
    · have hk : 60 < (nums a b c).length := by
        rw [nums_length]
        rcases Nat.lt_or_ge 60 (cnt a b c) with h' | h'
        · exact h'
        · exact absurd ⟨h1, h2, h'⟩ h
      clear h
      go_enter Try.func22, Try.ntmps22
      go_wp2_with fail
      refine (isRange_any _ _ _ _).mono ?_; rintro e w1 ⟨rfl, hb1⟩; have hc1 := bcel hb1
      rw [h1]
      go_wp2_with fail
      refine (isSlice_any _ _ _ _ _ _).mono ?_; rintro e w2 ⟨rfl, hb2⟩; have g2 := hb1.step hb2
      rw [h2]
      clear hc1
      have hc2 := bcel g2
      go_wp2_with fail
      refine (numbersOf_any _ _ _ hs _).mono ?_; rintro e w3 ⟨A3, c3, rfl, ho3, hb3⟩; have g3 := g2.step hb3
      clear hc2
      obtain ⟨hcz, hfz⟩ := bcell g3
      have hk' : (60 : Int) < ((nums a b c).length : Int) := by omega
      go_wp2_with fail
      exact bodyPost_ret (v := .agg #[.int .i64 0, .int .i64 0, .int .i64 0]) (by simp [results, Try.results22, go_sem, hcz]) rfl ⟨rfl, (by (repeat' (first | (with_reducible exact Below.refl _ _) | (with_reducible assumption) | (with_reducible refine Below.setCell ?_ ?_ _) | (with_reducible refine Below.al ?_ _) | (with_reducible refine Below.drew ?_) | (with_reducible refine Below.drN ?_ _) | (with_reducible refine Below.step ?_ (by assumption)) | (with_reducible refine Below.alloc ?_ ?_ _))); all_goals (simp; try omega))⟩

set_option maxHeartbeats 1600000 in
theorem iSliceRange_yes (a b c f t s : Int) (hf ht : Bool) (w : World) (h : slOk a b c f t s hf ht) : Calls Try.prog 22 #[.agg #[.int .i64 a, .int .i64 b, .int .i64 c], .agg #[.int .i64 f, .int .i64 t, .int .i64 s, .bool hf, .bool ht]] w (Ret w (.agg #[.int .i64 (sl1 a b c f t s hf ht), .int .i64 (sl2 a b c f t s hf ht), .int .i64 (sl3 a b c f t s hf ht)])) := by
  obtain ⟨e1, e2, e3⟩ := sl_yes h
  rw [e1, e2, e3]
  obtain ⟨h1, h2, h3⟩ := h
  have hs := small_of h1
  have hsm := nums_small hs
  have hlen := nums_length a b c
  have hin := idx_in (cnt a b c) f t s hf ht (by omega) (slice_ne h2)
  have hil := idx_len (cnt a b c) f t s hf ht (by omega) (slice_ne h2)
  have HL := Lib.hid hlen
  have HI := Lib.hid hin
  have HT : Hid (slL a b c f t s hf ht = takes (nums a b c) (idx (cnt a b c) f t s hf ht)) := rfl
  have HTS := Lib.hid (takes_small (xs := nums a b c) (is := idx (cnt a b c) f t s hf ht) hsm (by rw [hlen]; exact hin))
  have HTL := Lib.hid (takes_length (nums a b c) (idx (cnt a b c) f t s hf ht))
  have hn60 : (nums a b c).length ≤ 60 := by rw [hlen]; exact h3
  clear hlen hin e1 e2 e3
  rw [HT.out]
  obtain ⟨xs, hxs⟩ : ∃ xs, xs = nums a b c := ⟨_, rfl⟩
  have HXS := Lib.hid hxs
  rw [← hxs] at HL HTS HTL hn60 ⊢
  clear hxs
  rw [← HL.out] at HI HTS HTL hil ⊢
  obtain ⟨is, his⟩ : ∃ is, is = idx (xs.length : Int) f t s hf ht := ⟨_, rfl⟩
  have HIS := Lib.hid his
  rw [← his] at HI HTS HTL hil ⊢
  clear his
  have hk' : ¬ (60 : Int) < (xs.length : Int) := by omega
  go_enter Try.func22, Try.ntmps22
  go_wp2_with fail
  refine (isRange_any _ _ _ _).mono ?_; rintro e w1 ⟨rfl, hb1⟩; have hc1 := bcel hb1
  rw [h1]
  go_wp2_with fail
  refine (isSlice_any _ _ _ _ _ _).mono ?_; rintro e w2 ⟨rfl, hb2⟩; have g2 := hb1.step hb2
  rw [h2]
  clear hc1
  have hc2 := bcel g2
  go_wp2_with fail
  refine (numbersOf_any _ _ _ hs _).mono ?_; rw [← HXS.out]; rintro e w3 ⟨A3, c3, rfl, ho3, hb3⟩; have g3 := g2.step hb3
  clear hc2
  have hc3 := bcel g3
  go_wp2_with fail
  refine (numbersOf_any _ _ _ hs _).mono ?_; rw [← HXS.out]; rintro e w4 ⟨A4, c4, rfl, ho4, hb4⟩; have g4 := g3.step hb4
  clear hc3
  have hc4 := bcel g4
  have r4 := ho4.rd
  go_wp2_with fail
  refine (indicesOf_any _ _ _ _ _ _ _ (by omega) (by omega) h2).mono ?_; rw [← HIS.out]; rintro e w5 ⟨A5, c5, rfl, ho5, hb5⟩; have g5 := g4.step hb5
  have r5 := ho5.rd
  go_wp2_with fail
  refine (takenOf_any _ _ _ _ _ _ _ (r4.to hb5) r5 (by omega) (by omega) HI.out).mono ?_; rintro e w6 ⟨A6, c6, rfl, ho6, hb6⟩; have g6 := g5.step hb6
  have r6 := ho6.rd
  go_wp2_with fail
  refine (normalOf_any _ _ _ _ r6 (by rw [HTL.out]; omega) HTS.out).mono ?_; rintro e w7 ⟨rfl, hb7⟩; have g7 := g6.step hb7
  clear hc4
  obtain ⟨hcz, hfz⟩ := bcell g7
  go_wp2_with fail
  exact bodyPost_ret (v := .agg #[.int .i64 (nrmA (takes xs is)), .int .i64 (nrmB (takes xs is)), .int .i64 (nrmC (takes xs is))]) (by simp [results, Try.results22, go_sem, hcz]) rfl ⟨rfl, (by (repeat' (first | (with_reducible exact Below.refl _ _) | (with_reducible assumption) | (with_reducible refine Below.setCell ?_ ?_ _) | (with_reducible refine Below.al ?_ _) | (with_reducible refine Below.drew ?_) | (with_reducible refine Below.drN ?_ _) | (with_reducible refine Below.step ?_ (by assumption)) | (with_reducible refine Below.alloc ?_ ?_ _))); all_goals (simp; try omega))⟩


theorem iSliceRange_any (a b c f t s : Int) (hf ht : Bool) (w : World) : Calls Try.prog 22 #[.agg #[.int .i64 a, .int .i64 b, .int .i64 c], .agg #[.int .i64 f, .int .i64 t, .int .i64 s, .bool hf, .bool ht]] w (Ret w (.agg #[.int .i64 (sl1 a b c f t s hf ht), .int .i64 (sl2 a b c f t s hf ht), .int .i64 (sl3 a b c f t s hf ht)])) := by
  by_cases h : slOk a b c f t s hf ht
  · exact iSliceRange_yes _ _ _ _ _ _ _ _ _ h
  · exact iSliceRange_no _ _ _ _ _ _ _ _ _ h
end Go.Proofs.Ytipgopapohigpaa
