/- Slices of ranges: their comparison, their marks. -/
import Derived.Test.YtoejfpncpgoboaaDeal3
import Derived.Test.YtoejfpncpgoboaaLawD
import Derived.Laws.OwnMore
set_option linter.unusedSimpArgs false
set_option linter.unusedVariables false
namespace Go.Proofs.Ytoejfpncpgoboaa
open Go.RowKit

theorem RdR.kept {w w' : World} {B : Nat} {A : Option Addr} {rs : List Rg} {row : Option Nat} (h : RdR w B A rs) (hg : w.grownBy w' row) (hne : blk A = none ∨ blk A ≠ row) : RdR w' B A rs := fun j hj => by
  obtain ⟨g, e, hb, c1, c2, c3⟩ := h j hj
  subst e
  have hn : some g ≠ row := by
    rcases hne with h0 | h0
    · cases h0
    · exact h0
  exact ⟨g, rfl, hb, World.grownBy.cell hg c1 hn, World.grownBy.cell hg c2 hn, World.grownBy.cell hg c3 hn⟩
theorem OwnR.ge {w : World} {B c : Nat} {A : Option Addr} {rs : List Rg} (h : OwnR w B A c rs) : ∀ k, blk A = some k → B ≤ k ∧ k < w.heap.size := fun k hk => World.ownsRow.lt h k (by rw [ownBlock_slice]; exact hk)

/-- Block g holds n numbers, the first j of them m, m + 1, .. -/
def Mk (w : World) (g n : Nat) (m : Int) (j : Nat) : Prop :=
  (∀ q, q < n → ∃ x : Int, w.cell? ⟨g, q, none⟩ = some (.int .i64 x)) ∧ (∀ q, w.frozen? ⟨g, q, none⟩ = false) ∧ ∀ q, q < j → w.cell? ⟨g, q, none⟩ = some (.int .i64 (m + (q : Int)))
theorem Mk.set {w : World} {g n j : Nat} {m : Int} (h : Mk w g n m j) (hj : j < n) : Mk (w.setCell ⟨g, j, none⟩ (.int .i64 (m + (j : Int)))) g n m (j + 1) := by
  have hs : (w.setCell ⟨g, j, none⟩ (.int .i64 (m + (j : Int)))).cell? ⟨g, j, none⟩ = some (.int .i64 (m + (j : Int))) := by
    obtain ⟨x, hx⟩ := h.1 j hj
    exact World.cell?_setCell_same _ _ _ hx
  have ho : ∀ q, q ≠ j → (w.setCell ⟨g, j, none⟩ (.int .i64 (m + (j : Int)))).cell? ⟨g, q, none⟩ = w.cell? ⟨g, q, none⟩ := fun q hq =>
    World.cell?_setCell_other _ _ _ _ (by intro e; injection e with _ e2 _; exact hq e2.symm)
  refine ⟨fun q hq => ?_, fun q => ?_, fun q hq => ?_⟩
  · by_cases e : q = j
    · subst e; exact ⟨_, hs⟩
    · rw [ho q e]; exact h.1 q hq
  · rw [World.frozen?_setCell]; exact h.2.1 q
  · by_cases e : q = j
    · subst e; exact hs
    · rw [ho q e]; exact h.2.2 q (by omega)
theorem OwnR.mk {w : World} {B c : Nat} {A : Option Addr} {rs : List Rg} (h : OwnR w B A c rs) (h0 : 0 < rs.length) (m : Int) : ∃ g, A = some ⟨g, 0, none⟩ ∧ Mk w g (rs.length * 3) m 0 := by
  have hrd := h.rd
  obtain ⟨g, rfl, _⟩ := hrd 0 h0
  refine ⟨g, rfl, fun q hq => ?_, fun q => World.ownsRow.frozenAt h q, fun q hq => absurd hq (by omega)⟩
  have hk : q / 3 < rs.length := by omega
  obtain ⟨g', e, _, c1, c2, c3⟩ := hrd (q / 3) hk
  injection e with e; injection e with e _ _; subst e
  rcases (show q = q / 3 * 3 ∨ q = q / 3 * 3 + 1 ∨ q = q / 3 * 3 + 2 by omega) with e | e | e
  · rw [e]; exact ⟨_, c1⟩
  · rw [e]; exact ⟨_, c2⟩
  · rw [e]; exact ⟨_, c3⟩
theorem Mk.grown {w w' : World} {g n j : Nat} {m : Int} {row : Option Nat} (h : Mk w g n m j) (hg : w.grownBy w' row) (hne : some g ≠ row) (hlt : g < w.heap.size) : Mk w' g n m j := by
  have hb := hg.block g hlt hne
  have ec : ∀ q, w'.cell? ⟨g, q, none⟩ = w.cell? ⟨g, q, none⟩ := fun q => World.cell?_of_block hb
  have ef : ∀ q, w'.frozen? ⟨g, q, none⟩ = w.frozen? ⟨g, q, none⟩ := fun q => World.frozen?_of_block hb
  exact ⟨fun q hq => by rw [ec]; exact h.1 q hq, fun q => by rw [ef]; exact h.2.1 q, fun q hq => by rw [ec]; exact h.2.2 q hq⟩
theorem Mk.below {w w' : World} {B g n j : Nat} {m : Int} (h : Mk w g n m j) (hb : Below B w w') (hlt : g < B) : Mk w' g n m j := by
  have hb := hb.block g hlt
  have ec : ∀ q, w'.cell? ⟨g, q, none⟩ = w.cell? ⟨g, q, none⟩ := fun q => World.cell?_of_block hb
  have ef : ∀ q, w'.frozen? ⟨g, q, none⟩ = w.frozen? ⟨g, q, none⟩ := fun q => World.frozen?_of_block hb
  exact ⟨fun q hq => by rw [ec]; exact h.1 q hq, fun q => by rw [ef]; exact h.2.1 q, fun q hq => by rw [ec]; exact h.2.2 q hq⟩
set_option maxHeartbeats 1600000 in
theorem markRangeS_some (g c n : Nat) (m : Int) (w : World) (hk : Mk w g (n * 3) m 0) (hl : n ≤ 1000) (hm : 0 ≤ m) (hm' : m ≤ 1000) :
    Calls Try.prog 36 #[.slice (some ⟨g, 0, none⟩) n c, .int .i64 m] w fun e w' => e = .returned (.int .i64 (m + ((n * 3 : Nat) : Int))) ∧ Mk w' g (n * 3) m (n * 3) ∧ w.grownBy w' (some g) := by
  go_enter Try.func36, Try.ntmps36
  go_wp2
  go_loopw [1, 5] (fun k i wr => ∃ j : Nat, j ≤ n ∧ i = .int .i64 j ∧ k = .int .i64 (m + ((j * 3 : Nat) : Int)) ∧ Mk wr g (n * 3) m (j * 3) ∧ w.grownBy wr (some g)) (fun _ i _ => n - (intOf i).toNat)
  case atStart => exact ⟨0, Nat.zero_le _, rfl, by simp, by simpa using hk, World.grownBy.refl _ _⟩
  case round =>
    obtain ⟨j, hj, rfl, rfl, ho, hg⟩ := hrel
    by_cases hlt : j < n
    · obtain ⟨x0, c0⟩ := ho.1 (j * 3) (by omega)
      obtain ⟨x1, c1⟩ := ho.1 (j * 3 + 1) (by omega)
      obtain ⟨x2, c2⟩ := ho.1 (j * 3 + 2) (by omega)
      have f0 := ho.2.1 (j * 3)
      have f1 := ho.2.1 (j * 3 + 1)
      have f2 := ho.2.1 (j * 3 + 2)
      have i1 : (j : Int) < (n : Int) := by omega
      have i2 : (0 : Int) ≤ (j : Int) := by omega
      have HO := Lib.hid (((ho.set (by omega)).set (by omega)).set (by omega))
      have HG := Lib.hid (grown_setCell (g := g) (j := j * 3 + 2) (grown_setCell (g := g) (j := j * 3 + 1) (grown_setCell (g := g) (j := j * 3) hg rfl (.int .i64 (m + ((j * 3 : Nat) : Int)))) rfl (.int .i64 (m + ((j * 3 + 1 : Nat) : Int)))) rfl (.int .i64 (m + ((j * 3 + 2 : Nat) : Int))))
      obtain ⟨y0, h0⟩ : ∃ y : Int, y = m + ((j * 3 : Nat) : Int) := ⟨_, rfl⟩
      have h1 : m + ((j * 3 + 1 : Nat) : Int) = y0 + 1 := by omega
      have h2 : m + ((j * 3 + 2 : Nat) : Int) = y0 + 1 + 1 := by omega
      have h3 : Hid (m + (((j + 1) * 3 : Nat) : Int) = y0 + 1 + 1 + 1) := by show _ = _; omega
      have HO2 := HO.out
      have HG2 := HG.out
      rw [h1, h2] at HO2 HG2
      rw [← h0] at HO2 HG2 ⊢
      have hy : 0 ≤ y0 := by omega
      have hy' : y0 ≤ 5000 := by omega
      have HO3 := Lib.hid HO2
      have HG3 := Lib.hid HG2
      clear HO HG HO2 HG2 h0 h1 h2 ho
      go_wp2
      go_roundw
      case rel => exact ⟨j + 1, hlt, by go_num, by rw [h3.out], by rw [Nat.succ_mul]; exact HO3.out, HG3.out⟩
      case measure => simp [intOf]; omega
    · obtain rfl : j = n := by omega
      go_wp2
      go_ret
      exact ⟨rfl, ho, hg⟩
set_option maxHeartbeats 1600000 in
theorem heldRangeS_some (g c n : Nat) (m : Int) (w : World) (hk : Mk w g (n * 3) m (n * 3)) (hl : n ≤ 1000) (hm : 0 ≤ m) (hm' : m ≤ 1000) :
    Calls Try.prog 37 #[.slice (some ⟨g, 0, none⟩) n c, .int .i64 m] w fun e w' => e = .returned (.int .i64 (m + ((n * 3 : Nat) : Int))) ∧ w = w' := by
  go_enter Try.func37, Try.ntmps37
  go_wp2
  go_loop [1, 5] (fun k i => ∃ j : Nat, j ≤ n ∧ i = .int .i64 j ∧ k = .int .i64 (m + ((j * 3 : Nat) : Int))) (fun _ i => n - (intOf i).toNat)
  case atStart => exact ⟨0, Nat.zero_le _, rfl, by simp⟩
  case round =>
    obtain ⟨j, hj, rfl, rfl⟩ := hrel
    by_cases hlt : j < n
    · have c0 := hk.2.2 (j * 3) (by omega)
      have c1 := hk.2.2 (j * 3 + 1) (by omega)
      have c2 := hk.2.2 (j * 3 + 2) (by omega)
      have i1 : (j : Int) < (n : Int) := by omega
      have i2 : (0 : Int) ≤ (j : Int) := by omega
      obtain ⟨y0, h0⟩ : ∃ y : Int, y = m + ((j * 3 : Nat) : Int) := ⟨_, rfl⟩
      have h1 : m + ((j * 3 + 1 : Nat) : Int) = y0 + 1 := by omega
      have h2 : m + ((j * 3 + 2 : Nat) : Int) = y0 + 1 + 1 := by omega
      have h3 : Hid (m + (((j + 1) * 3 : Nat) : Int) = y0 + 1 + 1 + 1) := by show _ = _; omega
      rw [h1] at c1
      rw [h2] at c2
      rw [← h0] at c0 ⊢
      have hy : 0 ≤ y0 := by omega
      have hy' : y0 ≤ 5000 := by omega
      clear h0 h1 h2 hk
      go_wp2
      go_round
      case rel => exact ⟨j + 1, hlt, by go_num, by rw [h3.out]⟩
      case measure => simp [intOf]; omega
    · obtain rfl : j = n := by omega
      go_wp2
      go_ret
      exact ⟨rfl, rfl⟩
set_option maxHeartbeats 400000 in
theorem markRangeS_none (A : Option Addr) (c : Nat) (m : Int) (w : World) : Calls Try.prog 36 #[.slice A 0 c, .int .i64 m] w fun e w' => e = .returned (.int .i64 m) ∧ w = w' := by
  go_enter Try.func36, Try.ntmps36
  go_wp2_with fail
  go_loop [1, 5] (fun k i => k = .int .i64 m ∧ i = .int .i64 0) (fun _ _ => 0)
  case atStart => exact ⟨rfl, rfl⟩
  case round =>
    obtain ⟨rfl, rfl⟩ := hrel
    go_wp2
    go_ret
    exact ⟨rfl, rfl⟩
set_option maxHeartbeats 400000 in
theorem heldRangeS_none (A : Option Addr) (c : Nat) (m : Int) (w : World) : Calls Try.prog 37 #[.slice A 0 c, .int .i64 m] w fun e w' => e = .returned (.int .i64 m) ∧ w = w' := by
  go_enter Try.func37, Try.ntmps37
  go_wp2_with fail
  go_loop [1, 5] (fun k i => k = .int .i64 m ∧ i = .int .i64 0) (fun _ _ => 0)
  case atStart => exact ⟨rfl, rfl⟩
  case round =>
    obtain ⟨rfl, rfl⟩ := hrel
    go_wp2
    go_ret
    exact ⟨rfl, rfl⟩
set_option maxHeartbeats 1600000 in
theorem eqRangeS_same (A A' : Option Addr) (c c' : Nat) (rs : List Rg) (w : World) (hr : RdR w w.heap.size A rs) (hr' : RdR w w.heap.size A' rs) (hl : rs.length ≤ 1000) :
    Calls Try.prog 35 #[.slice A rs.length c, .slice A' rs.length c'] w (Ret w (.bool true)) := by
  go_enter Try.func35, Try.ntmps35
  go_wp2_with fail
  go_loopw [5] (fun i wr => ∃ k : Nat, k ≤ rs.length ∧ i = .int .i64 k ∧ Below w.heap.size w wr) (fun i _ => rs.length - (intOf i).toNat)
  case atStart => exact ⟨0, Nat.zero_le _, rfl, Below.refl _ _⟩
  case round =>
    obtain ⟨k, hk, rfl, hS⟩ := hrel
    by_cases hlt : k < rs.length
    · obtain ⟨g, rfl, hg, a0, a1, a2⟩ := (hr.to hS) k hlt
      obtain ⟨g', rfl, hg', b0, b1, b2⟩ := (hr'.to hS) k hlt
      have i1 : (0 : Int) ≤ (k : Int) := by omega
      have i2 : (k : Int) < (rs.length : Int) := by omega
      clear hr hr'
      generalize rs[k].1 = x at *
      generalize rs[k].2.1 = y at *
      generalize rs[k].2.2 = z at *
      obtain ⟨W, hW⟩ : ∃ W, W = wr := ⟨_, rfl⟩
      rw [← hW] at a0 a1 a2 b0 b1 b2 hS hg hg' ⊢
      clear hW
      go_wp2_with fail
      refine wp_region_noPanic ?_
      refine wp_region_held_drew (S := (fun w' => Below W.heap.size W w' ∧ ∀ bb oo, bb < W.heap.size → w'.cell? ⟨bb, oo, none⟩ = W.cell? ⟨bb, oo, none⟩)) (by kernel_rfl) ?_ (fun hHeld => ?_)
      · ((refine keepB ?_) <;> (repeat' (first | (with_reducible assumption) | (with_reducible exact And.left (by assumption)) | (with_reducible exact Below.refl _ _) | (with_reducible exact Below.size (And.left (by assumption))) | (with_reducible refine Below.drew ?_) | (with_reducible refine Below.drN ?_ _) | (with_reducible refine Below.al ?_ _) | (with_reducible refine Below.step ?_ (by assumption)) | (with_reducible refine Below.setCell ?_ ?_ _) | (with_reducible refine Below.alloc ?_ ?_ _) | (simp <;> omega))))
      refine wpAnyH_take (i := 0) (oi := ⟨some 17, _, _, _, _, _⟩) (v := ?_) rfl (by kernel_rfl) (by kernel_rfl) (by kernel_rfl) (fun _ _ _ h => h) (Or.inl ⟨by rfl, ?_⟩) (by assumption) ?_
      rotate_left
      · ((intro w hSw; (try dsimp only at hSw); go_simp) <;> (with_reducible rfl))
      (try simp only [Act.put, List.setIfInBounds_toArray, List.set_cons_zero, List.set_cons_succ])
      refine wpAnyH_take (i := 1) (oi := ⟨some 18, _, _, _, _, _⟩) (v := ?_) rfl (by kernel_rfl) (by kernel_rfl) (by kernel_rfl) (fun _ _ _ h => h) (Or.inl ⟨by rfl, ?_⟩) (by assumption) ?_
      rotate_left
      · ((intro w hSw; (try dsimp only at hSw); go_simp) <;> (with_reducible rfl))
      (try simp only [Act.put, List.setIfInBounds_toArray, List.set_cons_zero, List.set_cons_succ])
      refine wpAnyH_take (i := 2) (oi := ⟨some 19, _, _, _, _, _⟩) (v := ?_) rfl (by kernel_rfl) (by kernel_rfl) (by kernel_rfl) (fun _ _ _ h => h) (Or.inl ⟨by rfl, ?_⟩) (by assumption) ?_
      rotate_left
      · ((intro w hSw; (try dsimp only at hSw); go_simp) <;> (with_reducible rfl))
      (try simp only [Act.put, List.setIfInBounds_toArray, List.set_cons_zero, List.set_cons_succ])
      refine wpAnyH_take (i := 3) (oi := ⟨some 20, _, _, _, _, _⟩) (v := ?_) rfl (by kernel_rfl) (by kernel_rfl) (by kernel_rfl) (fun _ _ _ h => h) (Or.inl ⟨by rfl, ?_⟩) (by assumption) ?_
      rotate_left
      · ((intro w hSw; (try dsimp only at hSw); go_simp) <;> (with_reducible rfl))
      (try simp only [Act.put, List.setIfInBounds_toArray, List.set_cons_zero, List.set_cons_succ])
      refine wpAnyH_take (i := 4) (oi := ⟨some 21, _, _, _, _, _⟩) (v := ?_) rfl (by kernel_rfl) (by kernel_rfl) (by kernel_rfl) (fun _ _ _ h => h) (Or.inl ⟨by rfl, ?_⟩) (by assumption) ?_
      rotate_left
      · ((intro w hSw; (try dsimp only at hSw); go_simp) <;> (with_reducible rfl))
      (try simp only [Act.put, List.setIfInBounds_toArray, List.set_cons_zero, List.set_cons_succ])
      refine wpAnyH_take (i := 5) (oi := ⟨some 22, _, _, _, _, _⟩) (v := ?_) rfl (by kernel_rfl) (by kernel_rfl) (by kernel_rfl) (fun _ _ _ h => h) (Or.inl ⟨by rfl, ?_⟩) (by assumption) ?_
      rotate_left
      · ((intro w hSw; (try dsimp only at hSw); go_simp) <;> (with_reducible rfl))
      (try simp only [Act.put, List.setIfInBounds_toArray, List.set_cons_zero, List.set_cons_succ])
      refine wpAnyH_take (i := 6) (oi := ⟨some 23, _, _, _, _, _⟩) (v := ?_) rfl (by kernel_rfl) (by kernel_rfl) (by kernel_rfl) (fun _ _ _ h => h) (Or.inl ⟨by rfl, ?_⟩) (by assumption) ?_
      rotate_left
      · ((intro w hSw; (try dsimp only at hSw); go_simp) <;> (with_reducible rfl))
      (try simp only [Act.put, List.setIfInBounds_toArray, List.set_cons_zero, List.set_cons_succ])
      refine wpAnyH_take (i := 7) (oi := ⟨some 24, _, _, _, _, _⟩) (v := ?_) rfl (by kernel_rfl) (by kernel_rfl) (by kernel_rfl) (fun _ _ _ h => h) (Or.inl ⟨by rfl, ?_⟩) (by assumption) ?_
      rotate_left
      · ((intro w hSw; (try dsimp only at hSw); go_simp) <;> (with_reducible rfl))
      (try simp only [Act.put, List.setIfInBounds_toArray, List.set_cons_zero, List.set_cons_succ])
      refine wpAnyH_ready (rs := [8]) (by kernel_rfl) (by simp) ?_
      refine AllReadyH.cons (o := ⟨some 25, _, _, _, _, _⟩) rfl (fun K hK => ?_) AllReadyH.nil
      go_simp
      refine (eqRange_same _ _ _ _).mono ?_; rintro e w25 ⟨rfl, hb25⟩
      refine hK.out _ _ ?_ (fun hHeld => ?_)
      · ((refine keepB ?_) <;> (repeat' (first | (with_reducible assumption) | (with_reducible exact And.left (by assumption)) | (with_reducible exact Below.refl _ _) | (with_reducible exact Below.size (And.left (by assumption))) | (with_reducible refine Below.drew ?_) | (with_reducible refine Below.drN ?_ _) | (with_reducible refine Below.al ?_ _) | (with_reducible refine Below.step ?_ (by assumption)) | (with_reducible refine Below.setCell ?_ ?_ _) | (with_reducible refine Below.alloc ?_ ?_ _) | (simp <;> omega))))
      clear hK K
      (try simp only [Act.put, List.setIfInBounds_toArray, List.set_cons_zero, List.set_cons_succ])
      refine wpAnyH_take (i := 9) (oi := ⟨some 26, _, _, _, _, _⟩) (v := ?_) rfl (by kernel_rfl) (by kernel_rfl) (by kernel_rfl) (fun _ _ _ h => h) (Or.inl ⟨by rfl, ?_⟩) (by assumption) ?_
      rotate_left
      · ((intro w hSw; (try dsimp only at hSw); go_simp) <;> (with_reducible rfl))
      (try simp only [Act.put, List.setIfInBounds_toArray, List.set_cons_zero, List.set_cons_succ])
      refine wpAnyH_done (by kernel_rfl) ?_ _
      refine NoPanic.normal ?_
      go_wp2_with fail
      go_roundw
      case rel => exact ⟨k + 1, hlt, by go_num, hS.step (hHeld.1)⟩
      case measure => simp [intOf]; omega
    · obtain rfl : k = rs.length := by omega
      go_wp2_with fail
      go_ret
      exact ⟨rfl, hS⟩
/-- The slice at A of n ranges holds numbers, the first j of them m, m + 1, .. -/
def MkA (w : World) (A : Option Addr) (n : Nat) (m : Int) (j : Nat) : Prop := n = 0 ∨ ∃ g, A = some ⟨g, 0, none⟩ ∧ Mk w g (n * 3) m j
theorem OwnR.mka {w : World} {B c : Nat} {A : Option Addr} {rs : List Rg} (h : OwnR w B A c rs) (m : Int) : MkA w A rs.length m 0 := by
  rcases Nat.eq_zero_or_pos rs.length with h0 | h0
  · exact .inl h0
  · exact .inr (h.mk h0 m)
theorem MkA.below {w w' : World} {B n j : Nat} {A : Option Addr} {m : Int} (h : MkA w A n m j) (hb : Below B w w') (hlt : ∀ k, blk A = some k → k < B) : MkA w' A n m j := by
  rcases h with h0 | ⟨g, rfl, h⟩
  · exact .inl h0
  · exact .inr ⟨g, rfl, h.below hb (hlt g rfl)⟩
theorem markRangeS_any (A : Option Addr) (c n : Nat) (m : Int) (w : World) (hk : MkA w A n m 0) (hl : n ≤ 1000) (hm : 0 ≤ m) (hm' : m ≤ 1000) :
    Calls Try.prog 36 #[.slice A n c, .int .i64 m] w fun e w' => e = .returned (.int .i64 (m + ((n * 3 : Nat) : Int))) ∧ MkA w' A n m (n * 3) ∧ w.grownBy w' (blk A) := by
  rcases hk with rfl | ⟨g, rfl, hk⟩
  · refine (markRangeS_none A c m w).mono ?_
    rintro e w' ⟨rfl, rfl⟩
    exact ⟨by simp, .inl rfl, World.grownBy.refl _ _⟩
  · refine (markRangeS_some g c n m w hk hl hm hm').mono ?_
    rintro e w' ⟨rfl, h1, h2⟩
    exact ⟨rfl, .inr ⟨g, rfl, h1⟩, h2⟩
theorem heldRangeS_any (A : Option Addr) (c n : Nat) (m : Int) (w : World) (hk : MkA w A n m (n * 3)) (hl : n ≤ 1000) (hm : 0 ≤ m) (hm' : m ≤ 1000) :
    Calls Try.prog 37 #[.slice A n c, .int .i64 m] w fun e w' => e = .returned (.int .i64 (m + ((n * 3 : Nat) : Int))) ∧ w = w' := by
  rcases hk with rfl | ⟨g, rfl, hk⟩
  · refine (heldRangeS_none A c m w).mono ?_
    rintro e w' ⟨rfl, rfl⟩
    exact ⟨by simp, rfl⟩
  · exact heldRangeS_some g c n m w hk hl hm hm'
end Go.Proofs.Ytoejfpncpgoboaa
