/- The walks over slices of a range, further: two slices as one. -/
import Derived.Test.YtoejfpncpgoboaaSlice3
set_option linter.unusedVariables false
namespace Go.Proofs.Ytoejfpncpgoboaa
open Go.RowKit

def mgL (n f t s : Int) (hf ht : Bool) (f2 t2 s2 : Int) (hf2 ht2 : Bool) : List Int := takes (idx n f t s hf ht) (idx ((idx n f t s hf ht).length : Int) f2 t2 s2 hf2 ht2)
def mgOk (n f t s : Int) (hf ht : Bool) (f2 t2 s2 : Int) (hf2 ht2 : Bool) : Prop := inB n 0 60 = true ∧ sliceB f t s hf ht = true ∧ sliceB f2 t2 s2 hf2 ht2 = true
def mgK (n f t s : Int) (hf ht : Bool) (f2 t2 s2 : Int) (hf2 ht2 : Bool) : Bool := inB n 0 60 && (sliceB f t s hf ht && sliceB f2 t2 s2 hf2 ht2)
theorem mgK_iff (n f t s : Int) (hf ht : Bool) (f2 t2 s2 : Int) (hf2 ht2 : Bool) : mgK n f t s hf ht f2 t2 s2 hf2 ht2 = true ↔ mgOk n f t s hf ht f2 t2 s2 hf2 ht2 := by simp [mgK, mgOk]
def mg1 (n f t s : Int) (hf ht : Bool) (f2 t2 s2 : Int) (hf2 ht2 : Bool) : Int := if mgK n f t s hf ht f2 t2 s2 hf2 ht2 = true then nrmA (mgL n f t s hf ht f2 t2 s2 hf2 ht2) else 0
def mg2 (n f t s : Int) (hf ht : Bool) (f2 t2 s2 : Int) (hf2 ht2 : Bool) : Int := if mgK n f t s hf ht f2 t2 s2 hf2 ht2 = true then (if nrmB (mgL n f t s hf ht f2 t2 s2 hf2 ht2) < 0 then 0 else nrmB (mgL n f t s hf ht f2 t2 s2 hf2 ht2)) else 0
def mg3 (n f t s : Int) (hf ht : Bool) (f2 t2 s2 : Int) (hf2 ht2 : Bool) : Int := if mgK n f t s hf ht f2 t2 s2 hf2 ht2 = true then nrmC (mgL n f t s hf ht f2 t2 s2 hf2 ht2) else 0
def mg4 (n f t s : Int) (hf ht : Bool) (f2 t2 s2 : Int) (hf2 ht2 : Bool) : Bool := mgK n f t s hf ht f2 t2 s2 hf2 ht2
def mg5 (n f t s : Int) (hf ht : Bool) (f2 t2 s2 : Int) (hf2 ht2 : Bool) : Bool := mgK n f t s hf ht f2 t2 s2 hf2 ht2 && !decide (nrmB (mgL n f t s hf ht f2 t2 s2 hf2 ht2) < 0)
theorem mg_no {n f t s : Int} {hf ht : Bool} {f2 t2 s2 : Int} {hf2 ht2 : Bool} (h : ¬ mgOk n f t s hf ht f2 t2 s2 hf2 ht2) : mg1 n f t s hf ht f2 t2 s2 hf2 ht2 = 0 ∧ mg2 n f t s hf ht f2 t2 s2 hf2 ht2 = 0 ∧ mg3 n f t s hf ht f2 t2 s2 hf2 ht2 = 0 ∧ mg4 n f t s hf ht f2 t2 s2 hf2 ht2 = false ∧ mg5 n f t s hf ht f2 t2 s2 hf2 ht2 = false := by
  have h' : ¬ mgK n f t s hf ht f2 t2 s2 hf2 ht2 = true := fun e => h ((mgK_iff ..).1 e)
  have h2 : mgK n f t s hf ht f2 t2 s2 hf2 ht2 = false := by simpa using h'
  rw [mg1, mg2, mg3, mg4, mg5, if_neg h', if_neg h', if_neg h', h2]
  exact ⟨rfl, rfl, rfl, rfl, rfl⟩
theorem mg_yes {n f t s : Int} {hf ht : Bool} {f2 t2 s2 : Int} {hf2 ht2 : Bool} (h : mgOk n f t s hf ht f2 t2 s2 hf2 ht2) : mg1 n f t s hf ht f2 t2 s2 hf2 ht2 = nrmA (mgL n f t s hf ht f2 t2 s2 hf2 ht2) ∧ mg2 n f t s hf ht f2 t2 s2 hf2 ht2 = (if nrmB (mgL n f t s hf ht f2 t2 s2 hf2 ht2) < 0 then 0 else nrmB (mgL n f t s hf ht f2 t2 s2 hf2 ht2)) ∧ mg3 n f t s hf ht f2 t2 s2 hf2 ht2 = nrmC (mgL n f t s hf ht f2 t2 s2 hf2 ht2) ∧ mg4 n f t s hf ht f2 t2 s2 hf2 ht2 = true ∧ mg5 n f t s hf ht f2 t2 s2 hf2 ht2 = !decide (nrmB (mgL n f t s hf ht f2 t2 s2 hf2 ht2) < 0) := by
  have h' := (mgK_iff ..).2 h
  rw [mg1, mg2, mg3, mg4, mg5, if_pos h', if_pos h', if_pos h', h']
  exact ⟨rfl, rfl, rfl, rfl, rfl⟩
theorem slice_ne' {f t s : Int} {hf ht : Bool} (h : sliceB f t s hf ht = true) : s ≠ 0 := by simp [sliceB] at h; omega
theorem nrmB_ge {xs : List Int} (h : ∀ j, j < xs.length → 0 ≤ xs.getD j 0) : -1 ≤ nrmB xs := by
  unfold nrmB
  split
  · omega
  · split
    · have := h 0 (by omega); omega
    · have := h (xs.length - 1) (by omega)
      split <;> omega
theorem takes_ge {xs is : List Int} (h : ∀ j, j < xs.length → 0 ≤ xs.getD j 0) (hin : ∀ j, j < is.length → 0 ≤ is.getD j 0 ∧ is.getD j 0 < (xs.length : Int)) : ∀ j, j < (takes xs is).length → 0 ≤ (takes xs is).getD j 0 := fun j hj => by
  rw [takes_length] at hj
  have h1 := hin j hj
  have e : (takes xs is).getD j 0 = xs.getD (is.getD j 0).toNat 0 := by simp [takes, List.getD_eq_getElem?_getD, hj]
  rw [e]
  exact h _ (by omega)

set_option maxHeartbeats 1600000 in
theorem sMergeSlices_no (n f t s : Int) (hf ht : Bool) (f2 t2 s2 : Int) (hf2 ht2 : Bool) (w : World) (h : ¬ mgOk n f t s hf ht f2 t2 s2 hf2 ht2) : Calls Try.prog 40 #[.int .i64 n, .agg #[.int .i64 f, .int .i64 t, .int .i64 s, .bool hf, .bool ht], .agg #[.int .i64 f2, .int .i64 t2, .int .i64 s2, .bool hf2, .bool ht2]] w (Ret w (.agg #[.int .i64 (mg1 n f t s hf ht f2 t2 s2 hf2 ht2), .int .i64 (mg2 n f t s hf ht f2 t2 s2 hf2 ht2), .int .i64 (mg3 n f t s hf ht f2 t2 s2 hf2 ht2), .bool (mg4 n f t s hf ht f2 t2 s2 hf2 ht2), .bool (mg5 n f t s hf ht f2 t2 s2 hf2 ht2)])) := by
  obtain ⟨e1, e2, e3, e4, e5⟩ := mg_no h
  rw [e1, e2, e3, e4, e5]
  clear e1 e2 e3 e4 e5
  rcases h1 : inB n 0 60 with _ | _
  · clear h
    go_enter Try.func40, Try.ntmps40
    go_wp2_with fail
    first
      | (refine (inRange_any _ _ _ _).mono ?_; rintro e w1 ⟨rfl, rfl⟩; have hcz := trivial; have hb1 := trivial)
      | (refine (inRange_any _ _).mono ?_; rintro e w1 ⟨rfl, hb1⟩; obtain ⟨hcz, hfz⟩ := bcell hb1)
    rw [h1]
    go_wp2_with fail
    exact bodyPost_ret (v := .agg #[.int .i64 0, .int .i64 0, .int .i64 0, .bool false, .bool false]) (by simp [results, Try.results40, go_sem]) rfl ⟨rfl, (by (repeat' (first | (with_reducible exact Below.refl _ _) | (with_reducible assumption) | (with_reducible refine Below.setCell ?_ ?_ _) | (with_reducible refine Below.al ?_ _) | (with_reducible refine Below.drew ?_) | (with_reducible refine Below.drN ?_ _) | (with_reducible refine Below.step ?_ (by assumption)) | (with_reducible refine Below.alloc ?_ ?_ _))); all_goals (simp; try omega))⟩
  · obtain ⟨w0, hw0⟩ : ∃ w0, w0 = ((w.alloc (.cells #[.int .i64 f, .int .i64 t, .int .i64 s, .bool hf, .bool ht] 41)).alloc (.cells #[.int .i64 f2, .int .i64 t2, .int .i64 s2, .bool hf2, .bool ht2] 41)).alloc (.cells #[.int .i64 0, .int .i64 0, .int .i64 0, .bool false, .bool false] 41) := ⟨_, rfl⟩
    have HW := Lib.hid hw0
    rcases h2 : sliceB f t s hf ht with _ | _
    · clear h hw0
      go_enter Try.func40, Try.ntmps40
      go_wp2_with fail
      rw [← HW.out]
      first
        | (refine (inRange_any _ _ _ _).mono ?_; rintro e w1 ⟨rfl, rfl⟩; have hb1 := Below.refl w0.heap.size w0)
        | (refine (inRange_any _ _).mono ?_; rintro e w1 ⟨rfl, hb1⟩)
      rw [HW.out] at *
      have hc1 := bcel hb1
      rw [h1]
      go_wp2_with fail
      refine (validSlice_any _ _ _ _ _ _).mono ?_; rintro e w2 ⟨rfl, hb2⟩; have g2 := hb1.step hb2
      rw [h2]
      clear hc1
      obtain ⟨hcz, hfz⟩ := bcell g2
      go_wp2_with fail
      exact bodyPost_ret (v := .agg #[.int .i64 0, .int .i64 0, .int .i64 0, .bool false, .bool false]) (by simp [results, Try.results40, go_sem, hcz]) rfl ⟨rfl, (by (repeat' (first | (with_reducible exact Below.refl _ _) | (with_reducible assumption) | (with_reducible refine Below.setCell ?_ ?_ _) | (with_reducible refine Below.al ?_ _) | (with_reducible refine Below.drew ?_) | (with_reducible refine Below.drN ?_ _) | (with_reducible refine Below.step ?_ (by assumption)) | (with_reducible refine Below.alloc ?_ ?_ _))); all_goals (simp; try omega))⟩
    · have h3 : sliceB f2 t2 s2 hf2 ht2 = false := by
        rcases h' : sliceB f2 t2 s2 hf2 ht2 with _ | _
        · rfl
        · exact absurd ⟨h1, h2, h'⟩ h
      clear h hw0
      go_enter Try.func40, Try.ntmps40
      go_wp2_with fail
      rw [← HW.out]
      first
        | (refine (inRange_any _ _ _ _).mono ?_; rintro e w1 ⟨rfl, rfl⟩; have hb1 := Below.refl w0.heap.size w0)
        | (refine (inRange_any _ _).mono ?_; rintro e w1 ⟨rfl, hb1⟩)
      rw [HW.out] at *
      have hc1 := bcel hb1
      rw [h1]
      go_wp2_with fail
      refine (validSlice_any _ _ _ _ _ _).mono ?_; rintro e w2 ⟨rfl, hb2⟩; have g2 := hb1.step hb2
      rw [h2]
      clear hc1
      have hc2 := bcel g2
      go_wp2_with fail
      refine (validSlice_any _ _ _ _ _ _).mono ?_; rintro e w3 ⟨rfl, hb3⟩; have g3 := g2.step hb3
      rw [h3]
      clear hc2
      obtain ⟨hcz, hfz⟩ := bcell g3
      go_wp2_with fail
      exact bodyPost_ret (v := .agg #[.int .i64 0, .int .i64 0, .int .i64 0, .bool false, .bool false]) (by simp [results, Try.results40, go_sem, hcz]) rfl ⟨rfl, (by (repeat' (first | (with_reducible exact Below.refl _ _) | (with_reducible assumption) | (with_reducible refine Below.setCell ?_ ?_ _) | (with_reducible refine Below.al ?_ _) | (with_reducible refine Below.drew ?_) | (with_reducible refine Below.drN ?_ _) | (with_reducible refine Below.step ?_ (by assumption)) | (with_reducible refine Below.alloc ?_ ?_ _))); all_goals (simp; try omega))⟩
set_option maxHeartbeats 1600000 in
theorem iMergeSlices_no (n f t s : Int) (hf ht : Bool) (f2 t2 s2 : Int) (hf2 ht2 : Bool) (w : World) (h : ¬ mgOk n f t s hf ht f2 t2 s2 hf2 ht2) : Calls Try.prog 41 #[.int .i64 n, .agg #[.int .i64 f, .int .i64 t, .int .i64 s, .bool hf, .bool ht], .agg #[.int .i64 f2, .int .i64 t2, .int .i64 s2, .bool hf2, .bool ht2]] w (Ret w (.agg #[.int .i64 (mg1 n f t s hf ht f2 t2 s2 hf2 ht2), .int .i64 (mg2 n f t s hf ht f2 t2 s2 hf2 ht2), .int .i64 (mg3 n f t s hf ht f2 t2 s2 hf2 ht2), .bool (mg4 n f t s hf ht f2 t2 s2 hf2 ht2), .bool (mg5 n f t s hf ht f2 t2 s2 hf2 ht2)])) := by
  obtain ⟨e1, e2, e3, e4, e5⟩ := mg_no h
  rw [e1, e2, e3, e4, e5]
  clear e1 e2 e3 e4 e5
  rcases h1 : inB n 0 60 with _ | _
  · clear h
    go_enter Try.func41, Try.ntmps41
    go_wp2_with fail
    first
      | (refine (areCells_any _ _ _ _).mono ?_; rintro e w1 ⟨rfl, rfl⟩; have hcz := trivial; have hb1 := trivial)
      | (refine (areCells_any _ _).mono ?_; rintro e w1 ⟨rfl, hb1⟩; obtain ⟨hcz, hfz⟩ := bcell hb1)
    rw [h1]
    go_wp2_with fail
    exact bodyPost_ret (v := .agg #[.int .i64 0, .int .i64 0, .int .i64 0, .bool false, .bool false]) (by simp [results, Try.results41, go_sem, hcz]) rfl ⟨rfl, (by (repeat' (first | (with_reducible exact Below.refl _ _) | (with_reducible assumption) | (with_reducible refine Below.setCell ?_ ?_ _) | (with_reducible refine Below.al ?_ _) | (with_reducible refine Below.drew ?_) | (with_reducible refine Below.drN ?_ _) | (with_reducible refine Below.step ?_ (by assumption)) | (with_reducible refine Below.alloc ?_ ?_ _))); all_goals (simp; try omega))⟩
  · obtain ⟨w0, hw0⟩ : ∃ w0, w0 = ((w.alloc (.cells #[.int .i64 f, .int .i64 t, .int .i64 s, .bool hf, .bool ht] 41)).alloc (.cells #[.int .i64 f2, .int .i64 t2, .int .i64 s2, .bool hf2, .bool ht2] 41)).alloc (.cells #[.int .i64 0, .int .i64 0, .int .i64 0, .bool false, .bool false] 41) := ⟨_, rfl⟩
    have HW := Lib.hid hw0
    rcases h2 : sliceB f t s hf ht with _ | _
    · clear h hw0
      go_enter Try.func41, Try.ntmps41
      go_wp2_with fail
      rw [← HW.out]
      first
        | (refine (areCells_any _ _ _ _).mono ?_; rintro e w1 ⟨rfl, rfl⟩; have hb1 := Below.refl w0.heap.size w0)
        | (refine (areCells_any _ _).mono ?_; rintro e w1 ⟨rfl, hb1⟩)
      rw [HW.out] at *
      have hc1 := bcel hb1
      rw [h1]
      go_wp2_with fail
      refine (isSlice_any _ _ _ _ _ _).mono ?_; rintro e w2 ⟨rfl, hb2⟩; have g2 := hb1.step hb2
      rw [h2]
      clear hc1
      obtain ⟨hcz, hfz⟩ := bcell g2
      go_wp2_with fail
      exact bodyPost_ret (v := .agg #[.int .i64 0, .int .i64 0, .int .i64 0, .bool false, .bool false]) (by simp [results, Try.results41, go_sem, hcz]) rfl ⟨rfl, (by (repeat' (first | (with_reducible exact Below.refl _ _) | (with_reducible assumption) | (with_reducible refine Below.setCell ?_ ?_ _) | (with_reducible refine Below.al ?_ _) | (with_reducible refine Below.drew ?_) | (with_reducible refine Below.drN ?_ _) | (with_reducible refine Below.step ?_ (by assumption)) | (with_reducible refine Below.alloc ?_ ?_ _))); all_goals (simp; try omega))⟩
    · have h3 : sliceB f2 t2 s2 hf2 ht2 = false := by
        rcases h' : sliceB f2 t2 s2 hf2 ht2 with _ | _
        · rfl
        · exact absurd ⟨h1, h2, h'⟩ h
      clear h hw0
      go_enter Try.func41, Try.ntmps41
      go_wp2_with fail
      rw [← HW.out]
      first
        | (refine (areCells_any _ _ _ _).mono ?_; rintro e w1 ⟨rfl, rfl⟩; have hb1 := Below.refl w0.heap.size w0)
        | (refine (areCells_any _ _).mono ?_; rintro e w1 ⟨rfl, hb1⟩)
      rw [HW.out] at *
      have hc1 := bcel hb1
      rw [h1]
      go_wp2_with fail
      refine (isSlice_any _ _ _ _ _ _).mono ?_; rintro e w2 ⟨rfl, hb2⟩; have g2 := hb1.step hb2
      rw [h2]
      clear hc1
      have hc2 := bcel g2
      go_wp2_with fail
      refine (isSlice_any _ _ _ _ _ _).mono ?_; rintro e w3 ⟨rfl, hb3⟩; have g3 := g2.step hb3
      rw [h3]
      clear hc2
      obtain ⟨hcz, hfz⟩ := bcell g3
      go_wp2_with fail
      exact bodyPost_ret (v := .agg #[.int .i64 0, .int .i64 0, .int .i64 0, .bool false, .bool false]) (by simp [results, Try.results41, go_sem, hcz]) rfl ⟨rfl, (by (repeat' (first | (with_reducible exact Below.refl _ _) | (with_reducible assumption) | (with_reducible refine Below.setCell ?_ ?_ _) | (with_reducible refine Below.al ?_ _) | (with_reducible refine Below.drew ?_) | (with_reducible refine Below.drN ?_ _) | (with_reducible refine Below.step ?_ (by assumption)) | (with_reducible refine Below.alloc ?_ ?_ _))); all_goals (simp; try omega))⟩

set_option maxHeartbeats 800000 in
theorem sliceFor_any (a b c : Int) (w : World) : Calls Try.prog 64 #[.agg #[.int .i64 a, .int .i64 b, .int .i64 c]] w (Ret w (.agg #[.int .i64 a, .int .i64 (if b < 0 then 0 else b), .int .i64 c, .bool true, .bool (!decide (b < 0))])) := by
  by_cases hb : b < 0
  · have hd : decide (b < 0) = true := by simpa using hb
    rw [if_pos hb, hd]
    clear hd
    go_enter Try.func64, Try.ntmps64
    go_wp2_with fail
    exact bodyPost_ret (v := .agg #[.int .i64 a, .int .i64 0, .int .i64 c, .bool true, .bool false]) (by simp [results, Try.results64, go_sem]) rfl ⟨rfl, (by (repeat' (first | (with_reducible exact Below.refl _ _) | (with_reducible assumption) | (with_reducible refine Below.setCell ?_ ?_ _) | (with_reducible refine Below.al ?_ _) | (with_reducible refine Below.drew ?_) | (with_reducible refine Below.drN ?_ _) | (with_reducible refine Below.step ?_ (by assumption)) | (with_reducible refine Below.alloc ?_ ?_ _))); all_goals (simp; try omega))⟩
  · have hd : decide (b < 0) = false := by simpa using hb
    rw [if_neg hb, hd]
    clear hd
    go_enter Try.func64, Try.ntmps64
    go_wp2_with fail
    exact bodyPost_ret (v := .agg #[.int .i64 a, .int .i64 b, .int .i64 c, .bool true, .bool true]) (by simp [results, Try.results64, go_sem]) rfl ⟨rfl, (by (repeat' (first | (with_reducible exact Below.refl _ _) | (with_reducible assumption) | (with_reducible refine Below.setCell ?_ ?_ _) | (with_reducible refine Below.al ?_ _) | (with_reducible refine Below.drew ?_) | (with_reducible refine Below.drN ?_ _) | (with_reducible refine Below.step ?_ (by assumption)) | (with_reducible refine Below.alloc ?_ ?_ _))); all_goals (simp; try omega))⟩

/-- What a merge of two valid slices of n things is made of: the indices of the first, those of the second in them, and facts on both. -/
structure MgF (n f t s : Int) (hf ht : Bool) (f2 t2 s2 : Int) (hf2 ht2 : Bool) (xs is : List Int) : Prop where
  xs_eq : xs = idx n f t s hf ht
  is_eq : is = idx (xs.length : Int) f2 t2 s2 hf2 ht2
  n0 : 0 ≤ n
  n1 : n ≤ 60
  xl : xs.length ≤ 60
  il : is.length ≤ 60
  hin : ∀ j, j < is.length → 0 ≤ is.getD j 0 ∧ is.getD j 0 < (xs.length : Int)
  sm : SmallL (takes xs is)
  ge : -1 ≤ nrmB (takes xs is)
theorem mgF_mk (n f t s : Int) (hf ht : Bool) (f2 t2 s2 : Int) (hf2 ht2 : Bool) (h : mgOk n f t s hf ht f2 t2 s2 hf2 ht2) : ∃ xs is, MgF n f t s hf ht f2 t2 s2 hf2 ht2 xs is ∧ mgL n f t s hf ht f2 t2 s2 hf2 ht2 = takes xs is := by
  obtain ⟨h1, h2, h3⟩ := h
  obtain ⟨n0, n1⟩ := inB_yes h1
  have x1 := idx_in n f t s hf ht n0 (slice_ne' h2)
  have x2 := idx_len n f t s hf ht n0 (slice_ne' h2)
  have y1 := idx_in ((idx n f t s hf ht).length : Int) f2 t2 s2 hf2 ht2 (by omega) (slice_ne' h3)
  have y2 := idx_len ((idx n f t s hf ht).length : Int) f2 t2 s2 hf2 ht2 (by omega) (slice_ne' h3)
  refine ⟨_, _, ⟨rfl, rfl, n0, n1, by omega, by omega, y1, takes_small (fun j hj => ?_) y1, nrmB_ge (takes_ge (fun j hj => (x1 j hj).1) y1)⟩, rfl⟩
  have := x1 j hj
  omega

set_option maxHeartbeats 3200000 in
theorem iMergeSlices_neg (n f t s : Int) (hf ht : Bool) (f2 t2 s2 : Int) (hf2 ht2 : Bool) (w : World) (h : mgOk n f t s hf ht f2 t2 s2 hf2 ht2) (hneg : nrmB (mgL n f t s hf ht f2 t2 s2 hf2 ht2) < 0) : Calls Try.prog 41 #[.int .i64 n, .agg #[.int .i64 f, .int .i64 t, .int .i64 s, .bool hf, .bool ht], .agg #[.int .i64 f2, .int .i64 t2, .int .i64 s2, .bool hf2, .bool ht2]] w (Ret w (.agg #[.int .i64 (mg1 n f t s hf ht f2 t2 s2 hf2 ht2), .int .i64 (mg2 n f t s hf ht f2 t2 s2 hf2 ht2), .int .i64 (mg3 n f t s hf ht f2 t2 s2 hf2 ht2), .bool (mg4 n f t s hf ht f2 t2 s2 hf2 ht2), .bool (mg5 n f t s hf ht f2 t2 s2 hf2 ht2)])) := by
  obtain ⟨e1, e2, e3, e4, e5⟩ := mg_yes h
  rw [e1, e2, e3, e4, e5]
  clear e1 e2 e3 e4 e5
  obtain ⟨xs, is, F, hL⟩ := mgF_mk n f t s hf ht f2 t2 s2 hf2 ht2 h
  rw [hL] at hneg ⊢
  clear hL
  obtain ⟨h1, h2, h3⟩ := h
  have HF := Lib.hid F
  have n0 := F.n0
  have n1 := F.n1
  have xl := F.xl
  have il := F.il
  have bge := F.ge
  have HTL := Lib.hid (takes_length xs is)
  clear F
  obtain ⟨x1, hx1⟩ : ∃ x, x = nrmA (takes xs is) := ⟨_, rfl⟩
  obtain ⟨x2, hx2⟩ : ∃ x, x = nrmB (takes xs is) := ⟨_, rfl⟩
  obtain ⟨x3, hx3⟩ : ∃ x, x = nrmC (takes xs is) := ⟨_, rfl⟩
  rw [← hx2] at bge hneg
  rw [← hx1, ← hx2, ← hx3]
  have H1 := Lib.hid hx1
  have H2 := Lib.hid hx2
  have H3 := Lib.hid hx3
  clear hx1 hx2 hx3
  have hd : decide (x2 < 0) = true := by simpa using hneg
  rw [if_pos hneg, hd]
  clear hd
  have hq' : (x2 == -1) = true := by simp; omega
  go_enter Try.func41, Try.ntmps41
  go_wp2_with fail
  refine (areCells_any _ _).mono ?_; rintro e w1 ⟨rfl, hb1⟩; have hc1 := bcel hb1
  rw [h1]
  go_wp2_with fail
  refine (isSlice_any _ _ _ _ _ _).mono ?_; rintro e w2 ⟨rfl, hb2⟩; have g2 := hb1.step hb2
  rw [h2]
  clear hc1
  have hc2 := bcel g2
  go_wp2_with fail
  refine (isSlice_any _ _ _ _ _ _).mono ?_; rintro e w3 ⟨rfl, hb3⟩; have g3 := g2.step hb3
  rw [h3]
  clear hc2
  have hc3 := bcel g3
  go_wp2_with fail
  refine (indicesOf_any _ _ _ _ _ _ _ n0 (by omega) h2).mono ?_; rw [← HF.out.xs_eq]; rintro e w4 ⟨A4, c4, rfl, ho4, hb4⟩; have g4 := g3.step hb4
  clear hc3
  have hc4 := bcel g4
  have r4 := ho4.rd
  go_wp2_with fail
  refine (indicesOf_any _ _ _ _ _ _ _ (by omega) (by omega) h3).mono ?_; rw [← HF.out.is_eq]; rintro e w5 ⟨A5, c5, rfl, ho5, hb5⟩; have g5 := g4.step hb5
  have r5 := ho5.rd
  go_wp2_with fail
  refine (takenOf_any _ _ _ _ _ _ _ (r4.to hb5) r5 (by omega) (by omega) HF.out.hin).mono ?_; rintro e w6 ⟨A6, c6, rfl, ho6, hb6⟩; have g6 := g5.step hb6
  have r6 := ho6.rd
  go_wp2_with fail
  refine (normalOf_any _ _ _ _ r6 (by rw [HTL.out]; omega) HF.out.sm).mono ?_; rw [← H1.out, ← H2.out, ← H3.out]; rintro e w7 ⟨rfl, hb7⟩; have g7 := g6.step hb7
  clear hc4
  obtain ⟨hcz, hfz⟩ := bcell g7
  have hz7 : w.heap.size + 2 < w7.heap.size := by have := g7.size; simp at this; omega
  have hz8 : w.heap.size + 2 < w7.heap.size + 1 := by omega
  have hz9 : w.heap.size + 2 < w7.heap.size + 1 + 1 := by omega
  go_wp2_with fail
  refine bodyPost_ret (v := .agg #[.int .i64 x1, .int .i64 0, .int .i64 x3, .bool true, .bool false]) ?_ rfl ⟨rfl, ?_⟩
  · simp [results, Try.results41, go_sem, hcz, hz7, hz8]
  · exact (by (repeat' (first | (with_reducible exact Below.refl _ _) | (with_reducible assumption) | (with_reducible refine Below.setCell ?_ ?_ _) | (with_reducible refine Below.al ?_ _) | (with_reducible refine Below.drew ?_) | (with_reducible refine Below.drN ?_ _) | (with_reducible refine Below.step ?_ (by assumption)) | (with_reducible refine Below.alloc ?_ ?_ _))); all_goals (simp; try omega))
set_option maxHeartbeats 3200000 in
theorem iMergeSlices_pos (n f t s : Int) (hf ht : Bool) (f2 t2 s2 : Int) (hf2 ht2 : Bool) (w : World) (h : mgOk n f t s hf ht f2 t2 s2 hf2 ht2) (hneg : ¬ nrmB (mgL n f t s hf ht f2 t2 s2 hf2 ht2) < 0) : Calls Try.prog 41 #[.int .i64 n, .agg #[.int .i64 f, .int .i64 t, .int .i64 s, .bool hf, .bool ht], .agg #[.int .i64 f2, .int .i64 t2, .int .i64 s2, .bool hf2, .bool ht2]] w (Ret w (.agg #[.int .i64 (mg1 n f t s hf ht f2 t2 s2 hf2 ht2), .int .i64 (mg2 n f t s hf ht f2 t2 s2 hf2 ht2), .int .i64 (mg3 n f t s hf ht f2 t2 s2 hf2 ht2), .bool (mg4 n f t s hf ht f2 t2 s2 hf2 ht2), .bool (mg5 n f t s hf ht f2 t2 s2 hf2 ht2)])) := by
  obtain ⟨e1, e2, e3, e4, e5⟩ := mg_yes h
  rw [e1, e2, e3, e4, e5]
  clear e1 e2 e3 e4 e5
  obtain ⟨xs, is, F, hL⟩ := mgF_mk n f t s hf ht f2 t2 s2 hf2 ht2 h
  rw [hL] at hneg ⊢
  clear hL
  obtain ⟨h1, h2, h3⟩ := h
  have HF := Lib.hid F
  have n0 := F.n0
  have n1 := F.n1
  have xl := F.xl
  have il := F.il
  have bge := F.ge
  have HTL := Lib.hid (takes_length xs is)
  clear F
  obtain ⟨x1, hx1⟩ : ∃ x, x = nrmA (takes xs is) := ⟨_, rfl⟩
  obtain ⟨x2, hx2⟩ : ∃ x, x = nrmB (takes xs is) := ⟨_, rfl⟩
  obtain ⟨x3, hx3⟩ : ∃ x, x = nrmC (takes xs is) := ⟨_, rfl⟩
  rw [← hx2] at bge hneg
  rw [← hx1, ← hx2, ← hx3]
  have H1 := Lib.hid hx1
  have H2 := Lib.hid hx2
  have H3 := Lib.hid hx3
  clear hx1 hx2 hx3
  have hd : decide (x2 < 0) = false := by simpa using hneg
  rw [if_neg hneg, hd]
  clear hd
  have hq' : (x2 == -1) = false := by simp; omega
  go_enter Try.func41, Try.ntmps41
  go_wp2_with fail
  refine (areCells_any _ _).mono ?_; rintro e w1 ⟨rfl, hb1⟩; have hc1 := bcel hb1
  rw [h1]
  go_wp2_with fail
  refine (isSlice_any _ _ _ _ _ _).mono ?_; rintro e w2 ⟨rfl, hb2⟩; have g2 := hb1.step hb2
  rw [h2]
  clear hc1
  have hc2 := bcel g2
  go_wp2_with fail
  refine (isSlice_any _ _ _ _ _ _).mono ?_; rintro e w3 ⟨rfl, hb3⟩; have g3 := g2.step hb3
  rw [h3]
  clear hc2
  have hc3 := bcel g3
  go_wp2_with fail
  refine (indicesOf_any _ _ _ _ _ _ _ n0 (by omega) h2).mono ?_; rw [← HF.out.xs_eq]; rintro e w4 ⟨A4, c4, rfl, ho4, hb4⟩; have g4 := g3.step hb4
  clear hc3
  have hc4 := bcel g4
  have r4 := ho4.rd
  go_wp2_with fail
  refine (indicesOf_any _ _ _ _ _ _ _ (by omega) (by omega) h3).mono ?_; rw [← HF.out.is_eq]; rintro e w5 ⟨A5, c5, rfl, ho5, hb5⟩; have g5 := g4.step hb5
  have r5 := ho5.rd
  go_wp2_with fail
  refine (takenOf_any _ _ _ _ _ _ _ (r4.to hb5) r5 (by omega) (by omega) HF.out.hin).mono ?_; rintro e w6 ⟨A6, c6, rfl, ho6, hb6⟩; have g6 := g5.step hb6
  have r6 := ho6.rd
  go_wp2_with fail
  refine (normalOf_any _ _ _ _ r6 (by rw [HTL.out]; omega) HF.out.sm).mono ?_; rw [← H1.out, ← H2.out, ← H3.out]; rintro e w7 ⟨rfl, hb7⟩; have g7 := g6.step hb7
  clear hc4
  obtain ⟨hcz, hfz⟩ := bcell g7
  have hz7 : w.heap.size + 2 < w7.heap.size := by have := g7.size; simp at this; omega
  have hz8 : w.heap.size + 2 < w7.heap.size + 1 := by omega
  have hz9 : w.heap.size + 2 < w7.heap.size + 1 + 1 := by omega
  go_wp2_with fail
  refine bodyPost_ret (v := .agg #[.int .i64 x1, .int .i64 x2, .int .i64 x3, .bool true, .bool true]) ?_ rfl ⟨rfl, ?_⟩
  · simp [results, Try.results41, go_sem, hcz, hz7, hz8]
  · exact (by (repeat' (first | (with_reducible exact Below.refl _ _) | (with_reducible assumption) | (with_reducible refine Below.setCell ?_ ?_ _) | (with_reducible refine Below.al ?_ _) | (with_reducible refine Below.drew ?_) | (with_reducible refine Below.drN ?_ _) | (with_reducible refine Below.step ?_ (by assumption)) | (with_reducible refine Below.alloc ?_ ?_ _))); all_goals (simp; try omega))

set_option maxHeartbeats 3200000 in
theorem sMergeSlices_yes (n f t s : Int) (hf ht : Bool) (f2 t2 s2 : Int) (hf2 ht2 : Bool) (w : World) (h : mgOk n f t s hf ht f2 t2 s2 hf2 ht2) : Calls Try.prog 40 #[.int .i64 n, .agg #[.int .i64 f, .int .i64 t, .int .i64 s, .bool hf, .bool ht], .agg #[.int .i64 f2, .int .i64 t2, .int .i64 s2, .bool hf2, .bool ht2]] w (Ret w (.agg #[.int .i64 (mg1 n f t s hf ht f2 t2 s2 hf2 ht2), .int .i64 (mg2 n f t s hf ht f2 t2 s2 hf2 ht2), .int .i64 (mg3 n f t s hf ht f2 t2 s2 hf2 ht2), .bool (mg4 n f t s hf ht f2 t2 s2 hf2 ht2), .bool (mg5 n f t s hf ht f2 t2 s2 hf2 ht2)])) := by
  obtain ⟨e1, e2, e3, e4, e5⟩ := mg_yes h
  rw [e1, e2, e3, e4, e5]
  clear e1 e2 e3 e4 e5
  obtain ⟨xs, is, F, hL⟩ := mgF_mk n f t s hf ht f2 t2 s2 hf2 ht2 h
  rw [hL]
  clear hL
  obtain ⟨h1, h2, h3⟩ := h
  have HF := Lib.hid F
  have n0 := F.n0
  have n1 := F.n1
  have xl := F.xl
  have il := F.il
  have HTL := Lib.hid (takes_length xs is)
  clear F
  obtain ⟨x1, hx1⟩ : ∃ x, x = nrmA (takes xs is) := ⟨_, rfl⟩
  obtain ⟨x2, hx2⟩ : ∃ x, x = nrmB (takes xs is) := ⟨_, rfl⟩
  obtain ⟨x3, hx3⟩ : ∃ x, x = nrmC (takes xs is) := ⟨_, rfl⟩
  rw [← hx1, ← hx2, ← hx3]
  have H1 := Lib.hid hx1
  have H2 := Lib.hid hx2
  have H3 := Lib.hid hx3
  clear hx1 hx2 hx3
  obtain ⟨y2, hy2⟩ : ∃ y : Int, y = if x2 < 0 then 0 else x2 := ⟨_, rfl⟩
  obtain ⟨y5, hy5⟩ : ∃ y : Bool, y = !decide (x2 < 0) := ⟨_, rfl⟩
  rw [← hy2, ← hy5]
  have K2 := Lib.hid hy2
  have K5 := Lib.hid hy5
  clear hy2 hy5
  go_enter Try.func40, Try.ntmps40
  go_wp2_with fail
  refine (inRange_any _ _ _ _).mono ?_; rintro e w1 ⟨rfl, rfl⟩
  rw [h1]
  go_wp2_with fail
  refine (validSlice_any _ _ _ _ _ _).mono ?_; rintro e w2 ⟨rfl, g2⟩
  rw [h2]
  have hc2 := bcel g2
  go_wp2_with fail
  refine (validSlice_any _ _ _ _ _ _).mono ?_; rintro e w3 ⟨rfl, hb3⟩; have g3 := g2.step hb3
  rw [h3]
  clear hc2
  have hc3 := bcel g3
  go_wp2_with fail
  refine (indices_any _ _ _ _ _ _ _ n0 (by omega) h2).mono ?_; rw [← HF.out.xs_eq]; rintro e w4 ⟨A4, c4, rfl, ho4, hb4⟩; have g4 := g3.step hb4
  clear hc3
  have hc4 := bcel g4
  have r4 := ho4.rd
  go_wp2_with fail
  refine (indices_any _ _ _ _ _ _ _ (by omega) (by omega) h3).mono ?_; rw [← HF.out.is_eq]; rintro e w5 ⟨A5, c5, rfl, ho5, hb5⟩; have g5 := g4.step hb5
  have r5 := ho5.rd
  clear hc4
  go_wp2_with fail
  go_loopw [9, 10] (fun v i wr => ∃ (k : Nat) (A1 : Option Addr) (c1 : Nat), k ≤ is.length ∧ i = .int .i64 k ∧ v = .slice A1 k c1 ∧ Own wr w5.heap.size A1 c1 (takes xs (is.take k)) ∧ Below w5.heap.size w5 wr) (fun _ i _ => is.length - (intOf i).toNat)
  case atStart => exact ⟨0, _, _, Nat.zero_le _, rfl, rfl, Own.made (by simp) (Nat.le_refl _), (by (repeat' (first | (with_reducible exact Below.refl _ _) | (with_reducible assumption) | (with_reducible refine Below.setCell ?_ ?_ _) | (with_reducible refine Below.al ?_ _) | (with_reducible refine Below.drew ?_) | (with_reducible refine Below.drN ?_ _) | (with_reducible refine Below.step ?_ (by assumption)) | (with_reducible refine Below.alloc ?_ ?_ _))); all_goals (simp; try omega))⟩
  case round =>
  obtain ⟨k, A1, c1, hk, rfl, rfl, hown, hbl⟩ := hrel
  have hq := hbl.size
  by_cases hlt : k < is.length
  · obtain ⟨ad, x, rfl, _, hcell, HX⟩ := (r5.below hbl).get hlt
    have hx := HF.out.hin k hlt
    rw [← HX.out] at hx
    obtain ⟨hx1, hx2⟩ := hx
    obtain ⟨ad2, y, rfl, _, hcell2, HY⟩ := ((r4.to hb5).below hbl).get (j := x.toNat) (by omega)
    have HS := takes_snoc xs is k x y hlt HX HY
    have HL2 : Hid ((takes xs (is.take k)).length = k) := by show _ = _; rw [takes_length, List.length_take]; omega
    go_wp2_with (at_builtin; refine wpList_app1 _ rfl (.tmp 39) (.tmp 47) (by rfl) w5.heap.size A1 c1 k (takes xs (is.take k)) (by rfl) HL2.out (hown.alloc _) wr.heap.size 1 y (by rfl) (by simp) (by omega) (by simp; omega) ?_; intro A2 c2 w1' hown1 hb1' _)
    go_roundw
    case rel => exact ⟨k + 1, A2, c2, hlt, by go_num, rfl, by rw [HS.out]; exact hown1, (hbl.al _).trans hb1'⟩
    case measure => simp [intOf]; omega
  obtain rfl : k = is.length := by omega
  have HT2 := Lib.hid (List.take_of_length_le (Nat.le_refl is.length))
  rw [HT2.out] at hown
  have g6 := g5.step hbl
  have r6 := hown.rd
  go_wp2_with fail
  rw [← HTL.out]
  refine (normal_any _ _ _ _ r6 (by rw [HTL.out]; omega) HF.out.sm).mono ?_; rw [← H1.out, ← H2.out, ← H3.out]; rintro e w7 ⟨rfl, hb7⟩; have g7 := g6.step hb7
  go_wp2_with fail
  refine (sliceFor_any _ _ _ _).mono ?_; rw [← K2.out, ← K5.out]; rintro e w8 ⟨rfl, hb8⟩; have g8 := g7.step hb8
  obtain ⟨hcz, hfz⟩ := bcell g8
  go_wp2_with fail
  exact bodyPost_ret (v := .agg #[.int .i64 x1, .int .i64 y2, .int .i64 x3, .bool true, .bool y5]) (by simp [results, Try.results40, go_sem, hcz]) rfl ⟨rfl, (by (repeat' (first | (with_reducible exact Below.refl _ _) | (with_reducible assumption) | (with_reducible refine Below.setCell ?_ ?_ _) | (with_reducible refine Below.al ?_ _) | (with_reducible refine Below.drew ?_) | (with_reducible refine Below.drN ?_ _) | (with_reducible refine Below.step ?_ (by assumption)) | (with_reducible refine Below.alloc ?_ ?_ _))); all_goals (simp; try omega))⟩
theorem iMergeSlices_yes (n f t s : Int) (hf ht : Bool) (f2 t2 s2 : Int) (hf2 ht2 : Bool) (w : World) (h : mgOk n f t s hf ht f2 t2 s2 hf2 ht2) : Calls Try.prog 41 #[.int .i64 n, .agg #[.int .i64 f, .int .i64 t, .int .i64 s, .bool hf, .bool ht], .agg #[.int .i64 f2, .int .i64 t2, .int .i64 s2, .bool hf2, .bool ht2]] w (Ret w (.agg #[.int .i64 (mg1 n f t s hf ht f2 t2 s2 hf2 ht2), .int .i64 (mg2 n f t s hf ht f2 t2 s2 hf2 ht2), .int .i64 (mg3 n f t s hf ht f2 t2 s2 hf2 ht2), .bool (mg4 n f t s hf ht f2 t2 s2 hf2 ht2), .bool (mg5 n f t s hf ht f2 t2 s2 hf2 ht2)])) := by
  by_cases hneg : nrmB (mgL n f t s hf ht f2 t2 s2 hf2 ht2) < 0
  · exact iMergeSlices_neg n f t s hf ht f2 t2 s2 hf2 ht2 w h hneg
  · exact iMergeSlices_pos n f t s hf ht f2 t2 s2 hf2 ht2 w h hneg
theorem sMergeSlices_any (n f t s : Int) (hf ht : Bool) (f2 t2 s2 : Int) (hf2 ht2 : Bool) (w : World) : Calls Try.prog 40 #[.int .i64 n, .agg #[.int .i64 f, .int .i64 t, .int .i64 s, .bool hf, .bool ht], .agg #[.int .i64 f2, .int .i64 t2, .int .i64 s2, .bool hf2, .bool ht2]] w (Ret w (.agg #[.int .i64 (mg1 n f t s hf ht f2 t2 s2 hf2 ht2), .int .i64 (mg2 n f t s hf ht f2 t2 s2 hf2 ht2), .int .i64 (mg3 n f t s hf ht f2 t2 s2 hf2 ht2), .bool (mg4 n f t s hf ht f2 t2 s2 hf2 ht2), .bool (mg5 n f t s hf ht f2 t2 s2 hf2 ht2)])) := by
  by_cases h : mgOk n f t s hf ht f2 t2 s2 hf2 ht2
  · exact sMergeSlices_yes n f t s hf ht f2 t2 s2 hf2 ht2 w h
  · exact sMergeSlices_no n f t s hf ht f2 t2 s2 hf2 ht2 w h
theorem iMergeSlices_any (n f t s : Int) (hf ht : Bool) (f2 t2 s2 : Int) (hf2 ht2 : Bool) (w : World) : Calls Try.prog 41 #[.int .i64 n, .agg #[.int .i64 f, .int .i64 t, .int .i64 s, .bool hf, .bool ht], .agg #[.int .i64 f2, .int .i64 t2, .int .i64 s2, .bool hf2, .bool ht2]] w (Ret w (.agg #[.int .i64 (mg1 n f t s hf ht f2 t2 s2 hf2 ht2), .int .i64 (mg2 n f t s hf ht f2 t2 s2 hf2 ht2), .int .i64 (mg3 n f t s hf ht f2 t2 s2 hf2 ht2), .bool (mg4 n f t s hf ht f2 t2 s2 hf2 ht2), .bool (mg5 n f t s hf ht f2 t2 s2 hf2 ht2)])) := by
  by_cases h : mgOk n f t s hf ht f2 t2 s2 hf2 ht2
  · exact iMergeSlices_yes n f t s hf ht f2 t2 s2 hf2 ht2 w h
  · exact iMergeSlices_no n f t s hf ht f2 t2 s2 hf2 ht2 w h
end Go.Proofs.Ytoejfpncpgoboaa
