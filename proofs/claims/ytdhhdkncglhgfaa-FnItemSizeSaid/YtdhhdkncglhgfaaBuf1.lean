/- The walks over buffers: their comparison and marks (no exports), a new one. -/
import Derived.Test.YtdhhdkncglhgfaaLists
import Derived.Test.YtdhhdkncglhgfaaRange1
set_option linter.unusedVariables false
namespace Go.Proofs.Ytdhhdkncglhgfaa
open Go.RowKit

set_option maxHeartbeats 400000 in
theorem areCellsB_any (n : Int) (w : World) : Calls Try.prog 65 #[.int .i64 n] w fun e w' => e = .returned (.bool (inB n 0 60)) ∧ w = w' := by
  go_enter Try.func65, Try.ntmps65
  go_wp2
  all_goals (go_ret; exact ⟨ret_bool (by go_light; rw [Bool.eq_iff_iff]; simp [inB]; first | omega | (intros; omega)), rfl⟩)

theorem Own.setOther {w : World} {B g c : Nat} {A : Option Addr} {xs : List Int} (h : Own w B A c xs) (hg : g < B) (j : Nat) (u : Value) : Own (w.setCell ⟨g, j, none⟩ u) B A c xs :=
  h.keep fun i hi _ => Below.heap_setCell w ⟨g, j, none⟩ u i (by simp; omega)
def newBuf (n : Int) : List Int := if inB n 0 60 = true then List.replicate n.toNat 0 else []
def RetBuf (w : World) (xs : List Int) (e : Ending) (w' : World) : Prop :=
  ∃ A c, e = .returned (.agg #[.slice A xs.length c, .slice none 0 0]) ∧ Own w' w.heap.size A c xs ∧ Below w.heap.size w w'
set_option maxHeartbeats 1600000 in
theorem sNewBuffer_any (n : Int) (w : World) : Calls Try.prog 18 #[.int .i64 n] w (RetBuf w (newBuf n)) := by
  rcases hv : inB n 0 60 with _ | _
  · have HR := Lib.hid (show newBuf n = [] by simp [newBuf, hv])
    rw [HR.out]
    go_enter Try.func18, Try.ntmps18
    go_wp2_with fail
    refine (inRange_any _ _ _ _).mono ?_; rintro e w1 ⟨rfl, rfl⟩
    rw [hv]
    go_wp2_with fail
    exact bodyPost_ret (v := .agg #[.slice none 0 0, .slice none 0 0]) (by simp [results, go_sem]) rfl ⟨none, 0, rfl, Own.nil _ _, (by (repeat' (first | (with_reducible exact Below.refl _ _) | (with_reducible assumption) | (with_reducible refine Below.setCell ?_ ?_ _) | (with_reducible refine Below.al ?_ _) | (with_reducible refine Below.drew ?_) | (with_reducible refine Below.drN ?_ _) | (with_reducible refine Below.step ?_ (by assumption)) | (with_reducible refine Below.alloc ?_ ?_ _))); all_goals (simp; try omega))⟩
  · have HR := Lib.hid (show newBuf n = List.replicate n.toNat 0 by simp [newBuf, hv])
    have h1 : n = (n.toNat : Int) := by simp [inB] at hv; omega
    have h2 : n.toNat ≤ 60 := by simp [inB] at hv; omega
    rw [HR.out]
    obtain ⟨k, hk⟩ : ∃ k, k = n.toNat := ⟨_, rfl⟩
    rw [← hk] at h1 h2 ⊢
    subst h1
    clear hk
    go_enter Try.func18, Try.ntmps18
    go_wp2_with fail
    refine (inRange_any _ _ _ _).mono ?_; rintro e w1 ⟨rfl, rfl⟩
    rw [hv]
    go_wp2_with (at_make; refine wpList_mk1 _ rfl _ (by rfl) k _ (by rfl) rfl (by omega) ?_; intro w2 ho2 hb2 hz2; obtain ⟨hc2, hf2⟩ := bcell hb2)
    have ho3 : Own w2 (w.heap.size + 1) (some ⟨w.heap.size + 1, 0, none⟩) k (List.replicate k 0) := by simpa using ho2
    have z2 := hb2.size
    simp at z2
    have HK := Lib.hid ho3
    obtain ⟨hc3, hf3⟩ := bcell hb2
    have HO := Lib.hid (((HK.out.setOther (g := w.heap.size) (by omega) 0 (Value.slice (some ⟨w.heap.size + 1, 0, none⟩) k k)).setOther (g := w.heap.size) (by omega) 1 (Value.slice none 0 0)).mono (B' := w.heap.size) (by omega))
    clear ho2 ho3
    exact bodyPost_ret (v := .agg #[.slice (some ⟨w.heap.size + 1, 0, none⟩) k k, .slice none 0 0]) (by simp [results, Try.results18, go_sem, hc3]) rfl ⟨_, _, by simp, HO.out, (by (repeat' (first | (with_reducible exact Below.refl _ _) | (with_reducible assumption) | (with_reducible refine Below.setCell ?_ ?_ _) | (with_reducible refine Below.al ?_ _) | (with_reducible refine Below.drew ?_) | (with_reducible refine Below.drN ?_ _) | (with_reducible refine Below.step ?_ (by assumption)) | (with_reducible refine Below.alloc ?_ ?_ _))); all_goals (simp; try omega))⟩
set_option maxHeartbeats 1600000 in
theorem iNewBuffer_any (n : Int) (w : World) : Calls Try.prog 16 #[.int .i64 n] w (RetBuf w (newBuf n)) := by
  rcases hv : inB n 0 60 with _ | _
  · have HR := Lib.hid (show newBuf n = [] by simp [newBuf, hv])
    rw [HR.out]
    go_enter Try.func16, Try.ntmps16
    go_wp2_with fail
    refine (areCellsB_any _ _).mono ?_; rintro e w1 ⟨rfl, rfl⟩
    rw [hv]
    go_wp2_with fail
    exact bodyPost_ret (v := .agg #[.slice none 0 0, .slice none 0 0]) (by simp [results, go_sem]) rfl ⟨none, 0, rfl, Own.nil _ _, (by (repeat' (first | (with_reducible exact Below.refl _ _) | (with_reducible assumption) | (with_reducible refine Below.setCell ?_ ?_ _) | (with_reducible refine Below.al ?_ _) | (with_reducible refine Below.drew ?_) | (with_reducible refine Below.drN ?_ _) | (with_reducible refine Below.step ?_ (by assumption)) | (with_reducible refine Below.alloc ?_ ?_ _))); all_goals (simp; try omega))⟩
  · have HR := Lib.hid (show newBuf n = List.replicate n.toNat 0 by simp [newBuf, hv])
    have h1 : n = (n.toNat : Int) := by simp [inB] at hv; omega
    have h2 : n.toNat ≤ 60 := by simp [inB] at hv; omega
    rw [HR.out]
    obtain ⟨k, hk⟩ : ∃ k, k = n.toNat := ⟨_, rfl⟩
    rw [← hk] at h1 h2 ⊢
    subst h1
    clear hk
    go_enter Try.func16, Try.ntmps16
    go_wp2_with fail
    refine (areCellsB_any _ _).mono ?_; rintro e w1 ⟨rfl, rfl⟩
    rw [hv]
    go_wp2_with (at_make; refine wpList_mk1 _ rfl _ (by rfl) k _ (by rfl) rfl (by omega) ?_; intro w2 ho2 hb2 hz2; obtain ⟨hc2, hf2⟩ := bcell hb2)
    have ho3 : Own w2 (w.heap.size + 1) (some ⟨w.heap.size + 1, 0, none⟩) k (List.replicate k 0) := by simpa using ho2
    have z2 := hb2.size
    simp at z2
    have HK := Lib.hid ho3
    obtain ⟨hc3, hf3⟩ := bcell hb2
    have HO := Lib.hid (((HK.out.setOther (g := w.heap.size) (by omega) 0 (Value.slice (some ⟨w.heap.size + 1, 0, none⟩) k k)).setOther (g := w.heap.size) (by omega) 1 (Value.slice none 0 0)).mono (B' := w.heap.size) (by omega))
    clear ho2 ho3
    exact bodyPost_ret (v := .agg #[.slice (some ⟨w.heap.size + 1, 0, none⟩) k k, .slice none 0 0]) (by simp [results, Try.results16, go_sem, hc3]) rfl ⟨_, _, by simp, HO.out, (by (repeat' (first | (with_reducible exact Below.refl _ _) | (with_reducible assumption) | (with_reducible refine Below.setCell ?_ ?_ _) | (with_reducible refine Below.al ?_ _) | (with_reducible refine Below.drew ?_) | (with_reducible refine Below.drN ?_ _) | (with_reducible refine Below.step ?_ (by assumption)) | (with_reducible refine Below.alloc ?_ ?_ _))); all_goals (simp; try omega))⟩
end Go.Proofs.Ytdhhdkncglhgfaa
