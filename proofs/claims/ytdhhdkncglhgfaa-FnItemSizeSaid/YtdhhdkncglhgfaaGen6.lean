/- What the generators of formats give. -/
import Derived.Test.YtdhhdkncglhgfaaGen5
set_option linter.unusedSimpArgs false
set_option linter.unusedVariables false
namespace Go.Proofs.Ytdhhdkncglhgfaa
open Go.RowKit

theorem Rd.setOther {w : World} {A : Option Addr} {xs : List Int} {g : Nat} (h : Rd w w.heap.size .i64 A xs) (hne : ∀ b, blk A = some b → b ≠ g) (j : Nat) (u : Value) : Rd (w.setCell ⟨g, j, none⟩ u) (w.setCell ⟨g, j, none⟩ u).heap.size .i64 A xs := fun i hi => by
  obtain ⟨a, e, hb, hc⟩ := h i hi
  refine ⟨a, e, by simpa using hb, ?_⟩
  have : a.block ≠ g := hne _ (by rw [e]; rfl)
  rw [World.cell?_setCell_other _ _ _ _ (by intro e2; apply this; rw [← addBlock a i, ← e2])]
  exact hc
set_option maxHeartbeats 1600000 in
theorem DrawValidFormat_any (A : Option Addr) (n : Nat) (bs : List Int) (w : World) (hr : Rd w w.heap.size .u8 A bs) (hl : bs.length ≤ maxLen) (hc : bs.length ≤ n) (hb : ∀ x ∈ bs, 0 ≤ x ∧ x ≤ 255) :
    Calls Try.prog 25 #[.slice A bs.length n] w fun e w' => ∃ A' c xs, ∃ bg al : Bool, e = .returned (.agg #[.slice A' xs.length c, .bool bg, .bool al]) ∧ xs.length ≤ 5 ∧ xs.length ≤ c ∧ SizeL xs ∧ Rd w' w'.heap.size .i64 A' xs ∧ Below w.heap.size w w' := by
  go_enter Try.func25, Try.ntmps25
  go_wp2_with fail
  refine (newReader_any A n bs _ ((hr.alloc (Nat.le_refl _) _).more (by simp)) hl hc hb).mono ?_; rintro e w1 ⟨g, rfl, hR1, hb1⟩
  obtain ⟨hc1, hf1⟩ := bcell hb1
  have g1 := hR1.ge
  have z1 := hb1.size
  simp at g1 z1
  go_wp2_with fail
  refine (someFormat_any _ g _ _ hR1 (by omega)).mono ?_; rintro e w2 ⟨A2, c2, xs, bg, al, rfl, hx1, hx2, hx3, hr2, hbk, hR2, hg2⟩
  have hb2 := below_some hb1 hg2 (by simp; omega)
  clear hc1 hf1
  obtain ⟨hc2, hf2⟩ := bcell hb2
  have z2 := hb2.size
  simp at z2
  go_wp2_with fail
  have hne : ∀ b, blk A2 = some b → b ≠ w.heap.size := fun b hb => by have := hbk b hb; omega
  have r3 := ((hr2.setOther hne 0 (.slice A2 xs.length c2)).setOther hne 1 (.bool bg)).setOther hne 2 (.bool al)
  refine bodyPost_ret (v := .agg #[.slice A2 xs.length c2, .bool bg, .bool al]) (by simp [results, Try.results25, go_sem, hc2]) rfl ⟨_, _, _, _, _, rfl, hx1, hx2, hx3, r3, (by (repeat' (first | (with_reducible exact Below.refl _ _) | (with_reducible assumption) | (with_reducible refine Below.setCell ?_ ?_ _) | (with_reducible refine Below.al ?_ _) | (with_reducible refine Below.drew ?_) | (with_reducible refine Below.drN ?_ _) | (with_reducible refine Below.step ?_ (by assumption)) | (with_reducible refine Below.alloc ?_ ?_ _))); all_goals (simp; try omega))⟩
set_option maxHeartbeats 1600000 in
theorem DrawPlacesOf_any (A : Option Addr) (n : Nat) (bs : List Int) (w : World) (hr : Rd w w.heap.size .u8 A bs) (hl : bs.length ≤ maxLen) (hc : bs.length ≤ n) (hb : ∀ x ∈ bs, 0 ≤ x ∧ x ≤ 255) :
    Calls Try.prog 37 #[.slice A bs.length n] w fun e w' => ∃ A' c xs, ∃ bg al : Bool, e = .returned (.agg #[.slice A' xs.length c, .bool bg, .bool al]) ∧ xs.length ≤ 5 ∧ xs.length ≤ c ∧ SizeL xs ∧ Rd w' w'.heap.size .i64 A' xs ∧ Below w.heap.size w w' := by
  go_enter Try.func37, Try.ntmps37
  go_wp2_with fail
  refine (newReader_any A n bs _ ((hr.alloc (Nat.le_refl _) _).more (by simp)) hl hc hb).mono ?_; rintro e w1 ⟨g, rfl, hR1, hb1⟩
  obtain ⟨hc1, hf1⟩ := bcell hb1
  have g1 := hR1.ge
  have z1 := hb1.size
  simp at g1 z1
  go_wp2_with fail
  refine (someFormat_any _ g _ _ hR1 (by omega)).mono ?_; rintro e w2 ⟨A2, c2, xs, bg, al, rfl, hx1, hx2, hx3, hr2, hbk, hR2, hg2⟩
  have hb2 := below_some hb1 hg2 (by simp; omega)
  clear hc1 hf1
  obtain ⟨hc2, hf2⟩ := bcell hb2
  have z2 := hb2.size
  simp at z2
  go_wp2_with fail
  have hne : ∀ b, blk A2 = some b → b ≠ w.heap.size := fun b hb => by have := hbk b hb; omega
  have r3 := ((hr2.setOther hne 0 (.slice A2 xs.length c2)).setOther hne 1 (.bool bg)).setOther hne 2 (.bool al)
  refine bodyPost_ret (v := .agg #[.slice A2 xs.length c2, .bool bg, .bool al]) (by simp [results, Try.results37, go_sem, hc2]) rfl ⟨_, _, _, _, _, rfl, hx1, hx2, hx3, r3, (by (repeat' (first | (with_reducible exact Below.refl _ _) | (with_reducible assumption) | (with_reducible refine Below.setCell ?_ ?_ _) | (with_reducible refine Below.al ?_ _) | (with_reducible refine Below.drew ?_) | (with_reducible refine Below.drN ?_ _) | (with_reducible refine Below.step ?_ (by assumption)) | (with_reducible refine Below.alloc ?_ ?_ _))); all_goals (simp; try omega))⟩
set_option maxHeartbeats 1600000 in
theorem DrawItemSize_any (A : Option Addr) (n : Nat) (bs : List Int) (w : World) (hr : Rd w w.heap.size .u8 A bs) (hl : bs.length ≤ maxLen) (hc : bs.length ≤ n) (hb : ∀ x ∈ bs, 0 ≤ x ∧ x ≤ 255) :
    Calls Try.prog 55 #[.slice A bs.length n] w fun e w' => ∃ A' c xs, ∃ bg al : Bool, e = .returned (.agg #[.slice A' xs.length c, .bool bg, .bool al]) ∧ xs.length ≤ 5 ∧ xs.length ≤ c ∧ SizeL xs ∧ Rd w' w'.heap.size .i64 A' xs ∧ Below w.heap.size w w' := by
  go_enter Try.func55, Try.ntmps55
  go_wp2_with fail
  refine (newReader_any A n bs _ ((hr.alloc (Nat.le_refl _) _).more (by simp)) hl hc hb).mono ?_; rintro e w1 ⟨g, rfl, hR1, hb1⟩
  obtain ⟨hc1, hf1⟩ := bcell hb1
  have g1 := hR1.ge
  have z1 := hb1.size
  simp at g1 z1
  go_wp2_with fail
  refine (someFormat_any _ g _ _ hR1 (by omega)).mono ?_; rintro e w2 ⟨A2, c2, xs, bg, al, rfl, hx1, hx2, hx3, hr2, hbk, hR2, hg2⟩
  have hb2 := below_some hb1 hg2 (by simp; omega)
  clear hc1 hf1
  obtain ⟨hc2, hf2⟩ := bcell hb2
  have z2 := hb2.size
  simp at z2
  go_wp2_with fail
  have hne : ∀ b, blk A2 = some b → b ≠ w.heap.size := fun b hb => by have := hbk b hb; omega
  have r3 := ((hr2.setOther hne 0 (.slice A2 xs.length c2)).setOther hne 1 (.bool bg)).setOther hne 2 (.bool al)
  refine bodyPost_ret (v := .agg #[.slice A2 xs.length c2, .bool bg, .bool al]) (by simp [results, Try.results55, go_sem, hc2]) rfl ⟨_, _, _, _, _, rfl, hx1, hx2, hx3, r3, (by (repeat' (first | (with_reducible exact Below.refl _ _) | (with_reducible assumption) | (with_reducible refine Below.setCell ?_ ?_ _) | (with_reducible refine Below.al ?_ _) | (with_reducible refine Below.drew ?_) | (with_reducible refine Below.drN ?_ _) | (with_reducible refine Below.step ?_ (by assumption)) | (with_reducible refine Below.alloc ?_ ?_ _))); all_goals (simp; try omega))⟩
end Go.Proofs.Ytdhhdkncglhgfaa
