/- The walks over views: a new view; marks. -/
import Derived.Test.YtnfoofoeimaodaaView4
import Derived.Test.YtnfoofoeimaodaaAppAll
import Derived.Deep.OwnRows
set_option linter.unusedVariables false
namespace Go.Proofs.Ytnfoofoeimaodaa
open Go.RowKit

theorem Own.row {w : World} {B g n : Nat} (hg : w.heap.size = g) (hB : B ≤ g) (hn : n ≤ 1000000000) : Own (w.alloc (.cells (madeCells #[Value.int .i64 0] n) 3)) B (some ⟨g, 0, none⟩) n (List.replicate n 0) := by
  subst hg
  unfold Own
  have hs : (madeCells #[Value.int .i64 0] n).size = n := by simp [madeCells]
  refine ⟨by simp, .inr ⟨w.heap.size, n, madeCells #[Value.int .i64 0] n, by simp, hB, heap_alloc_new w _, by simp, by simp only [maxLen]; omega, by omega, ?_⟩⟩
  rw [toList_madeCells_one]
  simp

def nvS (xs : List Int) : List Int := if shapeB xs = true then xs else []
def nvT (xs : List Int) : List Int := if shapeB xs = true then (if prod xs = 0 then List.replicate xs.length 0 else rowS xs) else []
theorem nv_no {xs : List Int} (h : shapeB xs = false) : nvS xs = [] ∧ nvT xs = [] := by simp [nvS, nvT, h]
theorem nv_zero {xs : List Int} (h : shapeB xs = true) (h0 : prod xs = 0) : nvS xs = xs ∧ nvT xs = List.replicate xs.length 0 := by simp [nvS, nvT, h, h0]
theorem nv_some {xs : List Int} (h : shapeB xs = true) (h0 : ¬ prod xs = 0) : nvS xs = xs ∧ nvT xs = rowS xs := by simp [nvS, nvT, h, h0]

set_option maxHeartbeats 1600000 in
theorem cleared_some (b : Int) (A : Option Addr) (A' : Option Addr) (c n' c' : Nat) (xs : List Int) (w : World) (h1 : Rd w w.heap.size .i64 A xs) (hx : Ext xs) (h0 : ¬ prod xs = 0) :
    Calls Try.prog 81 #[.agg #[.int .i64 b, .slice A xs.length c, .slice A' n' c']] w (Ret w (.agg #[.int .i64 b, .slice A xs.length c, .slice A' n' c'])) := by
  have HX := Lib.hid hx
  have h0' : (prod xs == 0) = false := by simp; exact h0
  clear hx h0
  go_enter Try.func81, Try.ntmps81
  go_wp2_with fail
  refine (countOf_any _ _ _ _ _ ((h1.alloc (Nat.le_refl _) _).alloc (by simp) _) HX.out).mono ?_; rintro e w1 ⟨rfl, rfl⟩
  go_wp2_with fail
  exact bodyPost_ret (v := .agg #[.int .i64 b, .slice A xs.length c, .slice A' n' c']) (by simp [results, Try.results81, go_sem]) rfl ⟨rfl, (by (repeat' (first | (with_reducible exact Below.refl _ _) | (with_reducible assumption) | (with_reducible refine Below.setCell ?_ ?_ _) | (with_reducible refine Below.al ?_ _) | (with_reducible refine Below.drew ?_) | (with_reducible refine Below.drN ?_ _) | (with_reducible refine Below.step ?_ (by assumption)) | (with_reducible refine Below.alloc ?_ ?_ _))); all_goals (simp; try omega))⟩
set_option maxHeartbeats 1600000 in
theorem cleared_zero (b : Int) (A : Option Addr) (A' : Option Addr) (c n' c' : Nat) (xs : List Int) (w : World) (h1 : Rd w w.heap.size .i64 A xs) (hx : Ext xs) (h0 : prod xs = 0) :
    Calls Try.prog 81 #[.agg #[.int .i64 b, .slice A xs.length c, .slice A' n' c']] w fun e w' => ∃ A2, e = .returned (.agg #[.int .i64 0, .slice A xs.length c, .slice A2 xs.length xs.length]) ∧ Own w' w.heap.size A2 xs.length (List.replicate xs.length 0) ∧ Below w.heap.size w w' := by
  have HX := Lib.hid hx
  have H0 := Lib.hid h0
  have h4 := hx.1
  clear hx h0
  go_enter Try.func81, Try.ntmps81
  go_wp2_with fail
  refine (countOf_any _ _ _ _ _ ((h1.alloc (Nat.le_refl _) _).alloc (by simp) _) HX.out).mono ?_; rw [H0.out]; rintro e w1 ⟨rfl, rfl⟩
  go_wp2_with (at_make; refine wpList_mk1 _ rfl _ (by rfl) xs.length _ (by rfl) rfl (by omega) ?_; intro w1 ho1 hb1 hz1; obtain ⟨hc1, hf1⟩ := bcell hb1; have z1 := hb1.size; simp at z1; have z1x := Nat.lt_of_succ_le z1; have z1y := Nat.lt_trans (Nat.lt_succ_self w.heap.size) z1x; have hx1 : w1.cell? ⟨w.heap.size, 2, none⟩ = some (.slice A' n' c') := (by rw [hc1 _ _ (by simp <;> omega)]; simp [go_sem]))
  have ho2 : Own w1 (w.heap.size + 1 + 1) (some ⟨w.heap.size + 1 + 1, 0, none⟩) xs.length (List.replicate xs.length 0) := by simpa using ho1
  exact bodyPost_ret (v := .agg #[.int .i64 0, .slice A xs.length c, .slice (some ⟨w.heap.size + 1 + 1, 0, none⟩) xs.length xs.length]) (by simp [results, Try.results81, go_sem, hc1]) rfl ⟨_, rfl, by (refine Own.mono (B := w.heap.size + 1 + 1) ?_ (by omega)); (repeat (refine Own.setOff ?_ (by omega) _ _)); exact ho2, (by (repeat' (first | (with_reducible exact Below.refl _ _) | (with_reducible assumption) | (with_reducible refine Below.setCell ?_ ?_ _) | (with_reducible refine Below.al ?_ _) | (with_reducible refine Below.drew ?_) | (with_reducible refine Below.drN ?_ _) | (with_reducible refine Below.step ?_ (by assumption)) | (with_reducible refine Below.alloc ?_ ?_ _))); all_goals (simp; try omega))⟩

theorem blk_ne {w w' : World} {B B' c c' : Nat} {A A' : Option Addr} {xs ys : List Int} (h : Own w B A c xs) (h' : Own w' B' A' c' ys) (hB : w.heap.size ≤ B') : blk A' = none ∨ blk A' ≠ blk A := by
  rcases hb : blk A' with _ | k
  · exact .inl rfl
  · refine .inr fun e => ?_
    have h1 := (h'.ge _ hb).1
    have h2 := (h.ge _ e.symm).2
    omega
set_option maxHeartbeats 3200000 in
theorem iNewView_any (A : Option Addr) (c : Nat) (xs : List Int) (w : World) (h1 : Rd w w.heap.size .i64 A xs) (hl : xs.length ≤ maxLen) (hcap : xs.length ≤ c) :
    Calls Try.prog 49 #[.slice A xs.length c] w (RetView w 0 (nvS xs) (nvT xs)) := by
  have hl2 := hl
  unfold maxLen at hl2
  rcases hv : shapeB xs with _ | _
  · obtain ⟨e1, e2⟩ := nv_no hv
    rw [e1, e2]
    clear e1 e2
    go_enter Try.func49, Try.ntmps49
    go_wp2_with fail
    refine (isShape_any _ _ _ _ _ (h1.alloc (Nat.le_refl _) _) hl).mono ?_; rw [hv]; rintro e w1 ⟨rfl, rfl⟩
    go_wp2_with fail
    exact bodyPost_ret (v := .agg #[.int .i64 0, .slice none 0 0, .slice none 0 0]) (by simp [results, Try.results49, go_sem]) rfl ⟨none, 0, none, 0, rfl, Own.nil _ _, Own.nil _ _, (by (repeat' (first | (with_reducible exact Below.refl _ _) | (with_reducible assumption) | (with_reducible refine Below.setCell ?_ ?_ _) | (with_reducible refine Below.al ?_ _) | (with_reducible refine Below.drew ?_) | (with_reducible refine Below.drN ?_ _) | (with_reducible refine Below.step ?_ (by assumption)) | (with_reducible refine Below.alloc ?_ ?_ _))); all_goals (simp; try omega)), .inl rfl⟩
  have hx := ext_shape hv
  have h4 := hx.1
  have HX := Lib.hid hx
  have HRL := Lib.hid (rowS_length xs)
  clear hx
  by_cases h0 : prod xs = 0
  · obtain ⟨e1, e2⟩ := nv_zero hv h0
    have HN1 := Lib.hid e1
    have HN2 := Lib.hid e2
    have H0 := Lib.hid h0
    clear h0 e1 e2
    rw [HN1.out, HN2.out]
    go_enter Try.func49, Try.ntmps49
    go_wp2_with fail
    refine (isShape_any _ _ _ _ _ (h1.alloc (Nat.le_refl _) _) hl).mono ?_; rw [hv]; rintro e w1 ⟨rfl, rfl⟩
    go_wp2_with (at_builtin; refine wpList_appAll rfl (.tmp 7) (.tmp 8) (by rfl) (w.heap.size + 1) (some ⟨w.heap.size + 1, 0, none⟩) 0 0 [] (by rfl) rfl (Own.made (by simp) (Nat.le_refl _)) A c xs.length xs (by rfl) rfl w.heap.size ((h1.alloc (Nat.le_refl _) _).alloc (by simp) _) (by omega) (by simp) ?_; intro A1 c1 w1 ho1 hg1 hb1)
    rw [List.nil_append] at ho1
    have z1 := hb1.size
    simp at z1
    have zz1 : w.heap.size < w1.heap.size := by omega
    have hr1 : Rd w1 w1.heap.size .i64 A xs := ((((h1.alloc (Nat.le_refl _) _).alloc (by simp) _).below (hb1.mono (by simp))).more (by omega))
    refine (iRowStrides_in _ _ _ _ hr1 HX.out hcap).mono ?_; rintro e w2 ⟨A2, c2, rfl, ho2, hb2⟩
    have z2 := hb2.size
    have o2 := ho1.below hb2 (Nat.le_refl _)
    have G1 := ((Below.refl (w.alloc (.cells #[.int .i64 0, .slice none 0 0, .slice none 0 0] 31)).heap.size (w.alloc (.cells #[.int .i64 0, .slice none 0 0, .slice none 0 0] 31))).al (.cells #[] 3)).trans (hb1.mono (by simp))
    go_wp2_with fail
    refine (cleared_zero _ _ _ _ _ _ _ _ (o2.rd) HX.out H0.out).mono ?_; rintro e w3 ⟨A3, rfl, ho3, hb3⟩
    have o3 := o2.below hb3 (Nat.le_refl _)
    have G3 := (G1.step hb2).step hb3
    obtain ⟨hc3, hf3⟩ := bcell G3
    have z3 := hb3.size
    have zz3 : w.heap.size < w3.heap.size := by omega
    have hd := blk_ne o2 ho3 (Nat.le_refl _)
    go_wp2_with fail
    exact bodyPost_ret (v := .agg #[.int .i64 0, .slice A1 xs.length c1, .slice A3 xs.length xs.length]) (by simp [results, Try.results49, go_sem, hc3]) rfl ⟨A1, c1, A3, xs.length, by simp, by (refine Own.mono (B := w.heap.size + 1) ?_ (by omega)); (repeat (refine Own.setOff ?_ (by omega) _ _)); exact o3, by (refine Own.mono (B := w.heap.size + 1) ?_ (by omega)); (repeat (refine Own.setOff ?_ (by omega) _ _)); exact ho3.mono (by omega), (by (repeat' (first | (with_reducible exact Below.refl _ _) | (with_reducible assumption) | (with_reducible refine Below.setCell ?_ ?_ _) | (with_reducible refine Below.al ?_ _) | (with_reducible refine Below.drew ?_) | (with_reducible refine Below.drN ?_ _) | (with_reducible refine Below.step ?_ (by assumption)) | (with_reducible refine Below.alloc ?_ ?_ _))); all_goals (simp; try omega)), hd⟩
  · obtain ⟨e1, e2⟩ := nv_some hv h0
    have HN1 := Lib.hid e1
    have HN2 := Lib.hid e2
    have H0 := Lib.hid h0
    clear h0 e1 e2
    rw [HN1.out, HN2.out]
    go_enter Try.func49, Try.ntmps49
    go_wp2_with fail
    refine (isShape_any _ _ _ _ _ (h1.alloc (Nat.le_refl _) _) hl).mono ?_; rw [hv]; rintro e w1 ⟨rfl, rfl⟩
    go_wp2_with (at_builtin; refine wpList_appAll rfl (.tmp 7) (.tmp 8) (by rfl) (w.heap.size + 1) (some ⟨w.heap.size + 1, 0, none⟩) 0 0 [] (by rfl) rfl (Own.made (by simp) (Nat.le_refl _)) A c xs.length xs (by rfl) rfl w.heap.size ((h1.alloc (Nat.le_refl _) _).alloc (by simp) _) (by omega) (by simp) ?_; intro A1 c1 w1 ho1 hg1 hb1)
    rw [List.nil_append] at ho1
    have z1 := hb1.size
    simp at z1
    have zz1 : w.heap.size < w1.heap.size := by omega
    have hr1 : Rd w1 w1.heap.size .i64 A xs := ((((h1.alloc (Nat.le_refl _) _).alloc (by simp) _).below (hb1.mono (by simp))).more (by omega))
    refine (iRowStrides_in _ _ _ _ hr1 HX.out hcap).mono ?_; rintro e w2 ⟨A2, c2, rfl, ho2, hb2⟩
    have z2 := hb2.size
    have o2 := ho1.below hb2 (Nat.le_refl _)
    have G1 := ((Below.refl (w.alloc (.cells #[.int .i64 0, .slice none 0 0, .slice none 0 0] 31)).heap.size (w.alloc (.cells #[.int .i64 0, .slice none 0 0, .slice none 0 0] 31))).al (.cells #[] 3)).trans (hb1.mono (by simp))
    go_wp2_with fail
    rw [HRL.out]
    refine (cleared_some _ _ _ _ _ _ _ _ (o2.rd) HX.out H0.out).mono ?_; rintro e w3 ⟨rfl, hb3⟩
    have o3 := o2.below hb3 (Nat.le_refl _)
    have G3 := (G1.step hb2).step hb3
    obtain ⟨hc3, hf3⟩ := bcell G3
    have z3 := hb3.size
    have zz3 : w.heap.size < w3.heap.size := by omega
    have ho3 := ho2.below hb3 (Nat.le_refl _)
    have hd := blk_ne ho1 ho2 (Nat.le_refl _)
    go_wp2_with fail
    exact bodyPost_ret (v := .agg #[.int .i64 0, .slice A1 xs.length c1, .slice A2 xs.length c2]) (by simp [results, Try.results49, go_sem, hc3]) rfl ⟨A1, c1, A2, c2, by rw [HRL.out], by (refine Own.mono (B := w.heap.size + 1) ?_ (by omega)); (repeat (refine Own.setOff ?_ (by omega) _ _)); exact o3, by (refine Own.mono (B := w.heap.size + 1) ?_ (by omega)); (repeat (refine Own.setOff ?_ (by omega) _ _)); exact ho3.mono (by omega), (by (repeat' (first | (with_reducible exact Below.refl _ _) | (with_reducible assumption) | (with_reducible refine Below.setCell ?_ ?_ _) | (with_reducible refine Below.al ?_ _) | (with_reducible refine Below.drew ?_) | (with_reducible refine Below.drN ?_ _) | (with_reducible refine Below.step ?_ (by assumption)) | (with_reducible refine Below.alloc ?_ ?_ _))); all_goals (simp; try omega)), hd⟩


theorem resFacts1 {w w1 : World} (hz : w.heap.size < w1.heap.size) (hb : Below (w.alloc (.cells #[.int .i64 0, .slice none 0 0, .slice none 0 0] 31)).drew.heap.size (w.alloc (.cells #[.int .i64 0, .slice none 0 0, .slice none 0 0] 31)).drew w1) :
    w1.cell? ⟨w.heap.size, 0, none⟩ = some (.int .i64 0) ∧ w1.cell? ⟨w.heap.size, 1, none⟩ = some (.slice none 0 0) ∧ w1.cell? ⟨w.heap.size, 2, none⟩ = some (.slice none 0 0) ∧ w1.frozen? ⟨w.heap.size, 0, none⟩ = false ∧ w1.frozen? ⟨w.heap.size, 1, none⟩ = false ∧ w1.frozen? ⟨w.heap.size, 2, none⟩ = false := by
  obtain ⟨hc, hf⟩ := bcell hb
  refine ⟨?_, ?_, ?_, ?_, ?_, ?_⟩
  all_goals first | rw [hc _ _ (by simp)] | rw [hf _ _ (by simp)]
  all_goals simp [go_sem]
theorem resFacts2 {w w1 : World} {o : Obj} (hz : w.heap.size < w1.heap.size) (hb : Below ((w.alloc (.cells #[.int .i64 0, .slice none 0 0, .slice none 0 0] 31)).alloc o).drew.heap.size ((w.alloc (.cells #[.int .i64 0, .slice none 0 0, .slice none 0 0] 31)).alloc o).drew w1) :
    w1.cell? ⟨w.heap.size, 0, none⟩ = some (.int .i64 0) ∧ w1.cell? ⟨w.heap.size, 1, none⟩ = some (.slice none 0 0) ∧ w1.cell? ⟨w.heap.size, 2, none⟩ = some (.slice none 0 0) ∧ w1.frozen? ⟨w.heap.size, 0, none⟩ = false ∧ w1.frozen? ⟨w.heap.size, 1, none⟩ = false ∧ w1.frozen? ⟨w.heap.size, 2, none⟩ = false := by
  obtain ⟨hc, hf⟩ := bcell hb
  refine ⟨?_, ?_, ?_, ?_, ?_, ?_⟩
  all_goals first | rw [hc _ _ (by simp <;> omega)] | rw [hf _ _ (by simp <;> omega)]
  all_goals simp [go_sem]
set_option maxHeartbeats 3200000 in
theorem sNewView_any (A : Option Addr) (c : Nat) (xs : List Int) (w : World) (h1 : Rd w w.heap.size .i64 A xs) (hl : xs.length ≤ maxLen) (hcap : xs.length ≤ c) :
    Calls Try.prog 48 #[.slice A xs.length c] w (RetView w 0 (nvS xs) (nvT xs)) := by
  have hl2 := hl
  unfold maxLen at hl2
  rcases hv : shapeB xs with _ | _
  · obtain ⟨e1, e2⟩ := nv_no hv
    rw [e1, e2]
    clear e1 e2
    go_enter Try.func48, Try.ntmps48
    go_wp2_with fail
    refine (validShape_same _ _ _ _ ((h1.alloc (Nat.le_refl _) _).more (by simp)) hl).mono ?_; rw [hv]; rintro e w1 ⟨rfl, rfl⟩
    go_wp2_with fail
    exact bodyPost_ret (v := .agg #[.int .i64 0, .slice none 0 0, .slice none 0 0]) (by simp [results, Try.results48, go_sem]) rfl ⟨none, 0, none, 0, rfl, Own.nil _ _, Own.nil _ _, (by (repeat' (first | (with_reducible exact Below.refl _ _) | (with_reducible assumption) | (with_reducible refine Below.setCell ?_ ?_ _) | (with_reducible refine Below.al ?_ _) | (with_reducible refine Below.drew ?_) | (with_reducible refine Below.drN ?_ _) | (with_reducible refine Below.step ?_ (by assumption)) | (with_reducible refine Below.alloc ?_ ?_ _))); all_goals (simp; try omega)), .inl rfl⟩
  have hx := ext_shape hv
  have h4 := hx.1
  have HX := Lib.hid hx
  have HRL := Lib.hid (rowS_length xs)
  clear hx
  by_cases h0 : prod xs = 0
  · obtain ⟨e1, e2⟩ := nv_zero hv h0
    have HN1 := Lib.hid e1
    have HN2 := Lib.hid e2
    have H0 := Lib.hid h0
    clear h0 e1 e2
    rw [HN1.out, HN2.out]
    have hmk : ∀ w, (Instr.makeSlice 22 (.int .i64 (xs.length : Int)) (.int .i64 (xs.length : Int))).run Try.prog w = .ok (.slice (some ⟨w.heap.size, 0, none⟩) xs.length xs.length) (w.alloc (.cells (madeCells #[Value.int .i64 0] xs.length) 3)) :=
      fun w => run_make_row' 22 3 (.int .i64 0) 8 Try.underlying22 Try.infoInt rfl .i64 .i64 xs.length (by omega) (by omega) w
    go_enter Try.func48, Try.ntmps48
    go_wp2_with fail
    refine (validShape_same _ _ _ _ ((h1.alloc (Nat.le_refl _) _).more (by simp)) hl).mono ?_; rw [hv]; rintro e w1 ⟨rfl, rfl⟩
    go_wp2_with fail
    refine (count_any _ _ _ _ _ (h1.alloc (Nat.le_refl _) _) HX.out).mono ?_; rw [H0.out]; rintro e w1 ⟨rfl, rfl⟩
    go_wp2_with fail
    go_region_held3 (fun _ => True) (trivial)
      (first
        | (go_at_call 80; refine (copyInts_any _ _ _ _ ((h1.alloc (Nat.le_refl _) _).drew.more (by simp)) (by omega)).mono ?_; rintro e w1 ⟨A1, c1, rfl, ho1, hb1⟩; have zz1 : w.heap.size < w1.heap.size := (by have := hb1.size; simp at this; omega); obtain ⟨hx0, hx1, hx2, hf0, hf1, hf2⟩ := resFacts1 zz1 hb1)
        | (go_at_call 80; refine (copyInts_any _ _ _ _ (((h1.alloc (Nat.le_refl _) _).alloc (by simp) _).drew.more (by simp <;> omega)) (by omega)).mono ?_; rintro e w1 ⟨A1, c1, rfl, ho1, hb1⟩; have zz1 : w.heap.size < w1.heap.size := (by have := hb1.size; simp at this; omega); obtain ⟨hx0, hx1, hx2, hf0, hf1, hf2⟩ := resFacts2 zz1 hb1)
        | fail)
    · go_wp2_with fail
      have o2 := (Own.row (w := w1) (B := w1.heap.size) (n := xs.length) rfl (Nat.le_refl _) (by omega))
      have hd := blk_ne ho1 o2 (Nat.le_refl _)
      exact bodyPost_ret (v := .agg #[.int .i64 0, .slice A1 xs.length c1, .slice (some ⟨w1.heap.size, 0, none⟩) xs.length xs.length]) (by simp [results, Try.results48, go_sem, hx0, hx1, hx2, zz1]) rfl ⟨A1, c1, some ⟨w1.heap.size, 0, none⟩, xs.length, by simp, by (refine Own.mono (B := w.heap.size + 1) ?_ (by omega)); refine Own.alloc ?_ _; (repeat (refine Own.setOff ?_ (by omega) _ _)); exact ho1.mono (B' := w.heap.size + 1) (by simp), by exact (Own.row (B := w.heap.size) (by simp) (by omega) (by omega)), (by (repeat' (first | (with_reducible exact Below.refl _ _) | (with_reducible assumption) | (with_reducible refine Below.setCell ?_ ?_ _) | (with_reducible refine Below.al ?_ _) | (with_reducible refine Below.drew ?_) | (with_reducible refine Below.drN ?_ _) | (with_reducible refine Below.step ?_ (by assumption)) | (with_reducible refine Below.alloc ?_ ?_ _))); all_goals (simp; try omega)), hd⟩
    · go_wp2_with fail
      have o2 : Own (((w.alloc (.cells #[.int .i64 0, .slice none 0 0, .slice none 0 0] 31)).alloc (.cells (madeCells #[Value.int .i64 0] xs.length) 3)).drew) (w.heap.size + 1) (some ⟨w.heap.size + 1, 0, none⟩) xs.length (List.replicate xs.length 0) := (Own.row (w := w.alloc (.cells #[.int .i64 0, .slice none 0 0, .slice none 0 0] 31)) (by simp) (Nat.le_refl _) (by omega)).drew
      have o3 := o2.below hb1 (Nat.le_refl _)
      have hd : blk (some (⟨w.heap.size + 1, 0, none⟩ : Addr)) = none ∨ blk (some (⟨w.heap.size + 1, 0, none⟩ : Addr)) ≠ blk A1 := by
        rcases h : blk A1 with _ | k
        · simp [blk]
        · have := (ho1.ge _ h).1
          simp at this
          simp [blk]
          omega
      exact bodyPost_ret (v := .agg #[.int .i64 0, .slice A1 xs.length c1, .slice (some ⟨w.heap.size + 1, 0, none⟩) xs.length xs.length]) (by simp [results, Try.results48, go_sem, hx0, hx1, hx2]) rfl ⟨A1, c1, some ⟨w.heap.size + 1, 0, none⟩, xs.length, by simp, by (refine Own.mono (B := w.heap.size + 1) ?_ (by omega)); (repeat (refine Own.setOff ?_ (by omega) _ _)); exact ho1.mono (by simp <;> omega), by (refine Own.mono (B := w.heap.size + 1) ?_ (by omega)); (repeat (refine Own.setOff ?_ (by omega) _ _)); exact o3, (by (repeat' (first | (with_reducible exact Below.refl _ _) | (with_reducible assumption) | (with_reducible refine Below.setCell ?_ ?_ _) | (with_reducible refine Below.al ?_ _) | (with_reducible refine Below.drew ?_) | (with_reducible refine Below.drN ?_ _) | (with_reducible refine Below.step ?_ (by assumption)) | (with_reducible refine Below.alloc ?_ ?_ _))); all_goals (simp; try omega)), hd⟩
  · obtain ⟨e1, e2⟩ := nv_some hv h0
    have HN1 := Lib.hid e1
    have HN2 := Lib.hid e2
    have H0 := Lib.hid h0
    have h0' : (prod xs == 0) = false := by simp; exact h0
    clear h0 e1 e2
    rw [HN1.out, HN2.out]
    go_enter Try.func48, Try.ntmps48
    go_wp2_with fail
    refine (validShape_same _ _ _ _ ((h1.alloc (Nat.le_refl _) _).more (by simp)) hl).mono ?_; rw [hv]; rintro e w1 ⟨rfl, rfl⟩
    go_wp2_with fail
    refine (count_any _ _ _ _ _ (h1.alloc (Nat.le_refl _) _) HX.out).mono ?_; rintro e w1 ⟨rfl, rfl⟩
    go_wp2_with fail
    refine (copyInts_any _ _ _ _ ((h1.alloc (Nat.le_refl _) _).more (by simp)) (by omega)).mono ?_; rintro e w1 ⟨A1, c1, rfl, ho1, hb1⟩
    have z1 := hb1.size
    simp at z1
    have zz1 : w.heap.size < w1.heap.size := by omega
    have hr1 : Rd w1 w1.heap.size .i64 A xs := (((h1.alloc (Nat.le_refl _) _).below (hb1.mono (by simp))).more (by omega))
    go_wp2_with fail
    refine (sRowStrides_in _ _ _ _ hr1 HX.out hcap).mono ?_; rintro e w2 ⟨A2, c2, rfl, ho2, hb2⟩
    have z2 := hb2.size
    have o2 := ho1.below hb2 (Nat.le_refl _)
    have G2 := hb1.step hb2
    obtain ⟨hc2, hf2⟩ := bcell G2
    have hd := blk_ne ho1 ho2 (Nat.le_refl _)
    have zz2 : w.heap.size < w2.heap.size := by omega
    rw [HRL.out]
    go_wp2_with fail
    exact bodyPost_ret (v := .agg #[.int .i64 0, .slice A1 xs.length c1, .slice A2 xs.length c2]) (by simp [results, Try.results48, go_sem, hc2]) rfl ⟨A1, c1, A2, c2, by rw [HRL.out], by (refine Own.mono (B := w.heap.size + 1) ?_ (by omega)); (repeat (refine Own.setOff ?_ (by omega) _ _)); exact o2.mono (by simp), by (refine Own.mono (B := w.heap.size + 1) ?_ (by omega)); (repeat (refine Own.setOff ?_ (by omega) _ _)); exact ho2.mono (by omega), (by (repeat' (first | (with_reducible exact Below.refl _ _) | (with_reducible assumption) | (with_reducible refine Below.setCell ?_ ?_ _) | (with_reducible refine Below.al ?_ _) | (with_reducible refine Below.drew ?_) | (with_reducible refine Below.drN ?_ _) | (with_reducible refine Below.step ?_ (by assumption)) | (with_reducible refine Below.alloc ?_ ?_ _))); all_goals (simp; try omega)), hd⟩
end Go.Proofs.Ytnfoofoeimaodaa
