/- The walks over buffers: their comparison and marks (no exports), a new one. -/
import Derived.Test.YtnfoofoeimaodaaLists
import Derived.Test.YtnfoofoeimaodaaRange1
set_option linter.unusedVariables false
namespace Go.Proofs.Ytnfoofoeimaodaa
open Go.RowKit

set_option maxHeartbeats 400000 in
theorem eqExportS_nil (w : World) : Calls Try.prog 77 #[.slice none 0 0, .slice none 0 0] w (Ret w (.bool true)) := by
  go_enter Try.func77, Try.ntmps77
  go_wp2_with fail
  go_loop [5] (fun i => i = .int .i64 0) (fun _ => 0)
  case atStart => rfl
  case round =>
    subst hrel
    go_wp2
    go_ret
    exact ⟨rfl, (by (repeat' (first | (with_reducible exact Below.refl _ _) | (with_reducible assumption) | (with_reducible refine Below.setCell ?_ ?_ _) | (with_reducible refine Below.al ?_ _) | (with_reducible refine Below.drew ?_) | (with_reducible refine Below.drN ?_ _) | (with_reducible refine Below.step ?_ (by assumption)) | (with_reducible refine Below.alloc ?_ ?_ _))); all_goals (simp; try omega))⟩
set_option maxHeartbeats 400000 in
theorem markExportS_nil (m : Int) (w : World) : Calls Try.prog 78 #[.slice none 0 0, .int .i64 m] w (Ret w (.int .i64 m)) := by
  go_enter Try.func78, Try.ntmps78
  go_wp2_with fail
  go_loop [1, 5] (fun k i => k = .int .i64 m ∧ i = .int .i64 0) (fun _ _ => 0)
  case atStart => exact ⟨rfl, rfl⟩
  case round =>
    obtain ⟨rfl, rfl⟩ := hrel
    go_wp2
    go_ret
    exact ⟨rfl, (by (repeat' (first | (with_reducible exact Below.refl _ _) | (with_reducible assumption) | (with_reducible refine Below.setCell ?_ ?_ _) | (with_reducible refine Below.al ?_ _) | (with_reducible refine Below.drew ?_) | (with_reducible refine Below.drN ?_ _) | (with_reducible refine Below.step ?_ (by assumption)) | (with_reducible refine Below.alloc ?_ ?_ _))); all_goals (simp; try omega))⟩
set_option maxHeartbeats 400000 in
theorem heldExportS_nil (m : Int) (w : World) : Calls Try.prog 79 #[.slice none 0 0, .int .i64 m] w (Ret w (.int .i64 m)) := by
  go_enter Try.func79, Try.ntmps79
  go_wp2_with fail
  go_loop [1, 5] (fun k i => k = .int .i64 m ∧ i = .int .i64 0) (fun _ _ => 0)
  case atStart => exact ⟨rfl, rfl⟩
  case round =>
    obtain ⟨rfl, rfl⟩ := hrel
    go_wp2
    go_ret
    exact ⟨rfl, (by (repeat' (first | (with_reducible exact Below.refl _ _) | (with_reducible assumption) | (with_reducible refine Below.setCell ?_ ?_ _) | (with_reducible refine Below.al ?_ _) | (with_reducible refine Below.drew ?_) | (with_reducible refine Below.drN ?_ _) | (with_reducible refine Below.step ?_ (by assumption)) | (with_reducible refine Below.alloc ?_ ?_ _))); all_goals (simp; try omega))⟩

set_option maxHeartbeats 1600000 in
theorem eqBuffer_same (A A' : Option Addr) (c c' : Nat) (xs : List Int) (w : World) (hr : Rd w w.heap.size .i64 A xs) (hr' : Rd w w.heap.size .i64 A' xs) (hl : xs.length ≤ maxLen) :
    Calls Try.prog 45 #[.agg #[.slice A xs.length c, .slice none 0 0], .agg #[.slice A' xs.length c', .slice none 0 0]] w (Ret w (.bool true)) := by
  have HE := Lib.hid (show eqB xs xs = true by simp [eqB])
  have hB : w.heap.size ≤ w.heap.size + 1 := by omega
  go_enter Try.func45, Try.ntmps45
  go_wp2_with fail
  refine (eqIntS_any _ _ _ _ _ _ _ _ _ ((hr.alloc (Nat.le_refl _) _).alloc (by simp) _) ((hr'.alloc (Nat.le_refl _) _).alloc (by simp) _) hl hl).mono ?_; rintro e w1 ⟨rfl, hb1⟩
  rw [HE.out]
  have hc1 := bcel hb1
  go_wp2_with fail
  refine (eqExportS_nil _).mono ?_; rintro e w2 ⟨rfl, hb2⟩
  go_wp2_with fail
  go_ret
  exact ⟨rfl, (by (repeat' (first | (with_reducible exact Below.refl _ _) | (with_reducible assumption) | (with_reducible refine Below.setCell ?_ ?_ _) | (with_reducible refine Below.al ?_ _) | (with_reducible refine Below.drew ?_) | (with_reducible refine Below.drN ?_ _) | (with_reducible refine Below.step ?_ (by assumption)) | (with_reducible refine Below.alloc ?_ ?_ _))); all_goals (simp; try omega))⟩

set_option maxHeartbeats 1600000 in
theorem markBuffer_any (A : Option Addr) (c B : Nat) (xs : List Int) (m : Int) (w : World) (hown : Own w B A c xs) (hl : xs.length ≤ 2000000000) (hm : 0 ≤ m) (hm' : m ≤ 2000000000) :
    Calls Try.prog 46 #[.agg #[.slice A xs.length c, .slice none 0 0], .int .i64 m] w fun e w' => e = .returned (.int .i64 (m + (xs.length : Int))) ∧ Own w' B A c (upF m xs.length) ∧ w.grownBy w' (blk A) := by
  have hge := hown.ge
  go_enter Try.func46, Try.ntmps46
  go_wp2_with fail
  refine (markIntS_any _ _ _ _ _ _ (hown.alloc _) hl hm hm').mono ?_; rintro e w1 ⟨rfl, ho1, hg1⟩
  have z1 := hg1.size
  simp at z1
  have g1 : w.grownBy w1 (blk A) := by
    refine grown_trans ?_ hg1
    exact grown_alloc ⟨rfl, rfl, rfl, Nat.le_refl _, fun _ _ _ => rfl⟩ _
  have hne : some w.heap.size ≠ blk A := by
    intro h
    have := (hge _ h.symm).2
    omega
  have hc1 := fun o => hg1.cell_far ⟨w.heap.size, o, none⟩ (by simp) hne
  go_wp2_with fail
  refine (markExportS_nil _ _).mono ?_; rintro e w2 ⟨rfl, hb2⟩
  go_wp2_with fail
  go_ret
  exact ⟨rfl, ho1.below hb2 (Nat.le_refl _), grown_below g1 hb2⟩

set_option maxHeartbeats 1600000 in
theorem heldBuffer_any (A : Option Addr) (c n : Nat) (m : Int) (w : World) (hr : Rd w w.heap.size .i64 A (upF m n)) (hl : n ≤ 2000000000) (hm : 0 ≤ m) (hm' : m ≤ 2000000000) :
    Calls Try.prog 47 #[.agg #[.slice A n c, .slice none 0 0], .int .i64 m] w (Ret w (.int .i64 (m + (n : Int)))) := by
  have hp : ¬ (m + (n : Int) < 0) := by omega
  go_enter Try.func47, Try.ntmps47
  go_wp2_with fail
  refine (heldIntS_any _ _ _ _ _ _ (hr.alloc (Nat.le_refl _) _) hl hm hm').mono ?_; rintro e w1 ⟨rfl, rfl⟩
  go_wp2_with fail
  refine (heldExportS_nil _ _).mono ?_; rintro e w2 ⟨rfl, hb2⟩
  go_wp2_with fail
  go_ret
  exact ⟨rfl, (by (repeat' (first | (with_reducible exact Below.refl _ _) | (with_reducible assumption) | (with_reducible refine Below.setCell ?_ ?_ _) | (with_reducible refine Below.al ?_ _) | (with_reducible refine Below.drew ?_) | (with_reducible refine Below.drN ?_ _) | (with_reducible refine Below.step ?_ (by assumption)) | (with_reducible refine Below.alloc ?_ ?_ _))); all_goals (simp; try omega))⟩

set_option maxHeartbeats 400000 in
theorem areCellsB_any (n : Int) (w : World) : Calls Try.prog 63 #[.int .i64 n] w fun e w' => e = .returned (.bool (inB n 0 60)) ∧ w = w' := by
  go_enter Try.func63, Try.ntmps63
  go_wp2
  all_goals (go_ret; exact ⟨ret_bool (by go_light; rw [Bool.eq_iff_iff]; simp [inB]; first | omega | (intros; omega)), rfl⟩)

theorem Own.setOther {w : World} {B g c : Nat} {A : Option Addr} {xs : List Int} (h : Own w B A c xs) (hg : g < B) (j : Nat) (u : Value) : Own (w.setCell ⟨g, j, none⟩ u) B A c xs :=
  h.keep fun i hi _ => Below.heap_setCell w ⟨g, j, none⟩ u i (by simp; omega)
def newBuf (n : Int) : List Int := if inB n 0 60 = true then List.replicate n.toNat 0 else []
def RetBuf (w : World) (xs : List Int) (e : Ending) (w' : World) : Prop :=
  ∃ A c, e = .returned (.agg #[.slice A xs.length c, .slice none 0 0]) ∧ Own w' w.heap.size A c xs ∧ Below w.heap.size w w'
set_option maxHeartbeats 1600000 in
theorem sNewBuffer_any (n : Int) (w : World) : Calls Try.prog 43 #[.int .i64 n] w (RetBuf w (newBuf n)) := by
  rcases hv : inB n 0 60 with _ | _
  · have HR := Lib.hid (show newBuf n = [] by simp [newBuf, hv])
    rw [HR.out]
    go_enter Try.func43, Try.ntmps43
    go_wp2_with fail
    refine (inRange_any _ _ _ _).mono ?_; rintro e w1 ⟨rfl, rfl⟩
    rw [hv]
    go_wp2_with fail
    exact bodyPost_ret (v := .agg #[.slice none 0 0, .slice none 0 0]) (by simp [results, go_sem]) rfl ⟨none, 0, rfl, Own.nil _ _, (by (repeat' (first | (with_reducible exact Below.refl _ _) | (with_reducible assumption) | (with_reducible refine Below.setCell ?_ ?_ _) | (with_reducible refine Below.al ?_ _) | (with_reducible refine Below.drew ?_) | (with_reducible refine Below.drN ?_ _) | (with_reducible refine Below.step ?_ (by assumption)) | (with_reducible refine Below.alloc ?_ ?_ _))); all_goals (simp; try omega))⟩
  · have HR := Lib.hid (show newBuf n = List.replicate n.toNat 0 by simp [newBuf, hv])
    have h1 : n = (n.toNat : Int) := by simp [inB] at hv; omega
    have h2 : n.toNat ≤ 60 := by simp [inB] at hv; omega
    rw [HR.out]
    obtain ⟨k, hk⟩ : ∃ k, k = n.toNat := ⟨_, rfl⟩
    rw [← hk] at h1 h2 ⊢
    subst h1
    clear hk
    go_enter Try.func43, Try.ntmps43
    go_wp2_with fail
    refine (inRange_any _ _ _ _).mono ?_; rintro e w1 ⟨rfl, rfl⟩
    rw [hv]
    go_wp2_with (at_make; refine wpList_mk1 _ rfl _ (by rfl) k _ (by rfl) rfl (by omega) ?_; intro w2 ho2 hb2 hz2; obtain ⟨hc2, hf2⟩ := bcell hb2)
    have ho3 : Own w2 (w.heap.size + 1) (some ⟨w.heap.size + 1, 0, none⟩) k (List.replicate k 0) := by simpa using ho2
    have z2 := hb2.size
    simp at z2
    have HK := Lib.hid ho3
    obtain ⟨hc3, hf3⟩ := bcell hb2
    have HO := Lib.hid (((HK.out.setOther (g := w.heap.size) (by omega) 0 (Value.slice (some ⟨w.heap.size + 1, 0, none⟩) k k)).setOther (g := w.heap.size) (by omega) 1 (Value.slice none 0 0)).mono (B' := w.heap.size) (by omega))
    clear ho2 ho3
    exact bodyPost_ret (v := .agg #[.slice (some ⟨w.heap.size + 1, 0, none⟩) k k, .slice none 0 0]) (by simp [results, Try.results43, go_sem, hc3]) rfl ⟨_, _, by simp, HO.out, (by (repeat' (first | (with_reducible exact Below.refl _ _) | (with_reducible assumption) | (with_reducible refine Below.setCell ?_ ?_ _) | (with_reducible refine Below.al ?_ _) | (with_reducible refine Below.drew ?_) | (with_reducible refine Below.drN ?_ _) | (with_reducible refine Below.step ?_ (by assumption)) | (with_reducible refine Below.alloc ?_ ?_ _))); all_goals (simp; try omega))⟩
set_option maxHeartbeats 1600000 in
theorem iNewBuffer_any (n : Int) (w : World) : Calls Try.prog 44 #[.int .i64 n] w (RetBuf w (newBuf n)) := by
  rcases hv : inB n 0 60 with _ | _
  · have HR := Lib.hid (show newBuf n = [] by simp [newBuf, hv])
    rw [HR.out]
    go_enter Try.func44, Try.ntmps44
    go_wp2_with fail
    refine (areCellsB_any _ _).mono ?_; rintro e w1 ⟨rfl, rfl⟩
    rw [hv]
    go_wp2_with fail
    exact bodyPost_ret (v := .agg #[.slice none 0 0, .slice none 0 0]) (by simp [results, go_sem]) rfl ⟨none, 0, rfl, Own.nil _ _, (by (repeat' (first | (with_reducible exact Below.refl _ _) | (with_reducible assumption) | (with_reducible refine Below.setCell ?_ ?_ _) | (with_reducible refine Below.al ?_ _) | (with_reducible refine Below.drew ?_) | (with_reducible refine Below.drN ?_ _) | (with_reducible refine Below.step ?_ (by assumption)) | (with_reducible refine Below.alloc ?_ ?_ _))); all_goals (simp; try omega))⟩
  · have HR := Lib.hid (show newBuf n = List.replicate n.toNat 0 by simp [newBuf, hv])
    have h1 : n = (n.toNat : Int) := by simp [inB] at hv; omega
    have h2 : n.toNat ≤ 60 := by simp [inB] at hv; omega
    rw [HR.out]
    obtain ⟨k, hk⟩ : ∃ k, k = n.toNat := ⟨_, rfl⟩
    rw [← hk] at h1 h2 ⊢
    subst h1
    clear hk
    go_enter Try.func44, Try.ntmps44
    go_wp2_with fail
    refine (areCellsB_any _ _).mono ?_; rintro e w1 ⟨rfl, rfl⟩
    rw [hv]
    go_wp2_with (at_make; refine wpList_mk1 _ rfl _ (by rfl) k _ (by rfl) rfl (by omega) ?_; intro w2 ho2 hb2 hz2; obtain ⟨hc2, hf2⟩ := bcell hb2)
    have ho3 : Own w2 (w.heap.size + 1) (some ⟨w.heap.size + 1, 0, none⟩) k (List.replicate k 0) := by simpa using ho2
    have z2 := hb2.size
    simp at z2
    have HK := Lib.hid ho3
    obtain ⟨hc3, hf3⟩ := bcell hb2
    have HO := Lib.hid (((HK.out.setOther (g := w.heap.size) (by omega) 0 (Value.slice (some ⟨w.heap.size + 1, 0, none⟩) k k)).setOther (g := w.heap.size) (by omega) 1 (Value.slice none 0 0)).mono (B' := w.heap.size) (by omega))
    clear ho2 ho3
    exact bodyPost_ret (v := .agg #[.slice (some ⟨w.heap.size + 1, 0, none⟩) k k, .slice none 0 0]) (by simp [results, Try.results44, go_sem, hc3]) rfl ⟨_, _, by simp, HO.out, (by (repeat' (first | (with_reducible exact Below.refl _ _) | (with_reducible assumption) | (with_reducible refine Below.setCell ?_ ?_ _) | (with_reducible refine Below.al ?_ _) | (with_reducible refine Below.drew ?_) | (with_reducible refine Below.drN ?_ _) | (with_reducible refine Below.step ?_ (by assumption)) | (with_reducible refine Below.alloc ?_ ?_ _))); all_goals (simp; try omega))⟩
end Go.Proofs.Ytnfoofoeimaodaa
