/- The walk over the dealing of a range, of the program. -/
import Derived.Test.YtoejfpncpgoboaaDeal1
import Derived.Test.YtoejfpncpgoboaaCells
set_option linter.unusedSimpArgs false
set_option linter.unusedVariables false
namespace Go.Proofs.Ytoejfpncpgoboaa
open Go.RowKit

theorem Own.setO2 {w : World} {B g c : Nat} {A : Option Addr} {xs : List Int} (h : Own w B A c xs) (hg : g < B) (j : Nat) (u : Value) : Own (w.setCell ⟨g, j, none⟩ u) B A c xs :=
  h.keep fun i hi _ => Below.heap_setCell w ⟨g, j, none⟩ u i (by simp; omega)
theorem Rd.setFar {w : World} {B : Nat} {A : Option Addr} {xs : List Int} {g : Nat} (h : Rd w B .i64 A xs) (hne : ∀ b, blk A = some b → b ≠ g) (j : Nat) (u : Value) : Rd (w.setCell ⟨g, j, none⟩ u) B .i64 A xs := fun i hi => by
  obtain ⟨a, e, hb, hc⟩ := h i hi
  refine ⟨a, e, hb, ?_⟩
  have : a.block ≠ g := hne _ (by rw [e]; rfl)
  rw [World.cell?_setCell_other _ _ _ _ (by intro e2; apply this; rw [← addBlock a i, ← e2])]
  exact hc
/-- The hands of m, i numbers of L dealt: hand k begins at F k with room for C k; no two lie in one block. -/
def Hands (w : World) (H B m i : Nat) (L : List Int) (F : Nat → Option Addr) (C : Nat → Nat) : Prop :=
  Bx w H (rowOf m fun k => .slice (F k) (hd L m k i).length (C k)) ∧ (∀ k, k < m → Own w B (F k) (C k) (hd L m k i)) ∧ (∀ k l, k < m → l < m → k ≠ l → blk (F k) = none ∨ blk (F k) ≠ blk (F l))
theorem Hands.start {w : World} {H B m : Nat} {L : List Int} (h : Bx w H (List.replicate m (.slice none 0 0))) : Hands w H B m 0 L (fun _ => none) (fun _ => 0) := by
  refine ⟨?_, fun k _ => Own.nil _ _, fun k l _ _ _ => .inl rfl⟩
  have e : rowOf m (fun k => Value.slice none (hd L m k 0).length 0) = List.replicate m (.slice none 0 0) := by
    apply List.ext_getElem
    · simp [rowOf]
    · intro j h1 h2; simp [rowOf, hd]
  rw [e]; exact h
/-- One number more: onto hand k = i mod m. -/
theorem Hands.next {w w' : World} {H B m i k : Nat} {L : List Int} {F : Nat → Option Addr} {C : Nat → Nat} (h : Hands w H B m i L F C) (hHB : H < B) (hk : k < m) (hik : i % m = k) {A' : Option Addr} {c' : Nat}
    (ho : Own w' B A' c' (hd L m k i ++ [L.getD i 0])) (hg : w.grownBy w' (blk (F k))) (ha : blk A' = blk (F k) ∨ blk A' = some w.heap.size) :
    Hands (w'.setCell ⟨H, k, none⟩ (.slice A' ((hd L m k i).length + 1) c')) H B m (i + 1) L (fun j => if j = k then A' else F j) (fun j => if j = k then c' else C j) := by
  obtain ⟨hb, hO, hd'⟩ := h
  have hlt := hb.lt
  have hkH : blk (F k) ≠ some H := fun e => by have := ((hO k hk).ge H e).1; omega
  have hself : hd L m k (i + 1) = hd L m k i ++ [L.getD i 0] := by rw [hd, if_pos hik]
  have hoth : ∀ j, j ≠ k → hd L m j (i + 1) = hd L m j i := fun j hj => by rw [hd, if_neg (by omega)]
  refine ⟨?_, fun j hj => ?_, fun j l hj hl hjl => ?_⟩
  · have b1 : Bx w' H (rowOf m fun k => .slice (F k) (hd L m k i).length (C k)) := hb.grown hg (fun e => hkH e.symm)
    have b2 := b1.set k (.slice A' ((hd L m k i).length + 1) c')
    have e := rowOf_set m (fun k => Value.slice (F k) (hd L m k i).length (C k)) (fun j => Value.slice (if j = k then A' else F j) (hd L m j (i + 1)).length (if j = k then c' else C j)) k (fun j hj => by simp only [if_neg hj, hoth j hj])
    simp only [if_true, hself, List.length_append, List.length_singleton] at e
    rw [e] at b2
    exact b2
  · by_cases e : j = k
    · subst e
      simp only [if_true, hself]
      exact ho.setO2 (by omega) _ _
    · simp only [if_neg e, hoth j e]
      have hne := hd' j k hj hk e
      exact ((hO j hj).kept hg hne).setO2 (by omega) _ _
  · have hsz : ∀ q, q < m → ∀ b, blk (F q) = some b → b < w.heap.size := fun q hq b e => ((hO q hq).ge b e).2
    have hfr : ∀ q, q < m → q ≠ k → blk (F q) = none ∨ blk (F q) ≠ blk A' := fun q hq hqk => by
      rcases ha with e | e
      · rw [e]; exact hd' q k hq hk hqk
      · rw [e]
        rcases e2 : blk (F q) with _ | b
        · exact .inl rfl
        · refine .inr fun e3 => ?_
          injection e3 with e3
          have := hsz q hq b e2
          omega
    by_cases e1 : j = k
    · have e2 : l ≠ k := fun e2 => hjl (e1.trans e2.symm)
      simp only [if_pos e1, if_neg e2]
      rcases hfr l hl e2 with h | h
      · rw [h]
        rcases e3 : blk A' with _ | b
        · exact .inl rfl
        · exact .inr (by simp)
      · exact .inr (fun e3 => h e3.symm)
    · by_cases e2 : l = k
      · simp only [if_neg e1, if_pos e2]
        exact hfr j hj e1
      · simp only [if_neg e1, if_neg e2]
        exact hd' j l hj hl hjl
theorem Hands.below {w w' : World} {H B m i : Nat} {L : List Int} {F : Nat → Option Addr} {C : Nat → Nat} (h : Hands w H B m i L F C) (hb : Below w.heap.size w w') : Hands w' H B m i L F C :=
  ⟨h.1.step hb, fun k hk => (h.2.1 k hk).below hb (Nat.le_refl _), h.2.2⟩
theorem Hands.drew {w : World} {H B m i : Nat} {L : List Int} {F : Nat → Option Addr} {C : Nat → Nat} (h : Hands w H B m i L F C) : Hands w.drew H B m i L F C := h

def dealL (a b c : Int) (m : Nat) : List Rg := (List.range m).map fun k => nrm (hd (nums a b c) m k (cnt a b c))
def dealR (a b c x : Int) : List Rg := if rangeB a b c = true ∧ 1 ≤ x ∧ x ≤ 6 then dealL a b c x.toNat else []
theorem dealL_take (a b c : Int) (m k : Nat) (h : k < m) : (dealL a b c m).take (k + 1) = (dealL a b c m).take k ++ [nrm (hd (nums a b c) m k (cnt a b c))] := by
  rw [List.take_add_one]
  simp [dealL, h]
theorem dealL_length (a b c : Int) (m : Nat) : (dealL a b c m).length = m := by simp [dealL]

set_option maxRecDepth 100000 in
set_option maxHeartbeats 6400000 in
theorem iDealRange_yes (a b c : Int) (m : Nat) (hv : rangeB a b c = true) (hm : 1 ≤ m) (hm6 : m ≤ 6) (w : World) :
    Calls Try.prog 34 #[.agg #[.int .i64 a, .int .i64 b, .int .i64 c], .int .i64 m] w (RetR w (dealL a b c m)) := by
  have hs := small_of hv
  have HV := Lib.hid hv
  have hmk := fun (w : World) => run_make_row' (P := Try.prog) 63 30 (.slice none 0 0) 24 Try.underlying63 Try.infoInts rfl .i64 .i64 m (by omega) (by omega) w
  have p1 : ¬ ((m : Int) < 1) := by omega
  have p2 : ¬ ((6 : Int) < (m : Int)) := by omega
  clear hv
  go_enter Try.func34, Try.ntmps34
  go_wp2_with fail
  refine (isRange_any _ _ _ _).mono ?_; rw [HV.out]; rintro e w1 ⟨rfl, hb1⟩
  obtain ⟨hc1, hf1⟩ := bcell hb1
  have z1 : w.heap.size < w1.heap.size := by have := hb1.size; simp at this; omega
  have gW : Below w.heap.size w w1 := (by (repeat' (first | (with_reducible exact Below.refl _ _) | (with_reducible assumption) | (with_reducible refine Below.setCell ?_ ?_ _) | (with_reducible refine Below.al ?_ _) | (with_reducible refine Below.drew ?_) | (with_reducible refine Below.drN ?_ _) | (with_reducible refine Below.step ?_ (by assumption)) | (with_reducible refine Below.alloc ?_ ?_ _))); all_goals (simp; try omega))
  go_wp2_with fail
  refine (numbersOf_any _ _ _ hs _).mono ?_; rintro e w2 ⟨A2, c2, rfl, ho2, hb2⟩
  have hst : Hands (w1.alloc (.cells (madeCells #[Value.slice none 0 0] m) 30)) w1.heap.size w2.heap.size m 0 (nums a b c) (fun _ => none) (fun _ => 0) := by
    refine Hands.start ⟨30, ?_⟩
    rw [heap_alloc_new]
    congr 2
    apply Array.toList_inj.1
    rw [toList_madeCells_one]
  have h2 := hst.below hb2
  have z2 := hb2.size
  simp at z2
  have gW2 : Below w.heap.size w w2 := (gW.al _).step hb2
  obtain ⟨H, hH⟩ : ∃ H, H = w1.heap.size := ⟨_, rfl⟩
  have hL := nums_length a b c
  have hLs := nums_small hs
  have hle := cnt_le a b c hs
  obtain ⟨L, HL⟩ : ∃ L, Hid (nums a b c = L) := ⟨_, rfl⟩
  rw [HL.out] at ho2 h2 hL hLs
  rw [HL.out]
  have HLL := Lib.hid hL
  clear hL hst hc1 hf1 hb2 gW hb1
  go_wp2_with fail
  have ho2 : Own w2 (w1.heap.size + 1) A2 c2 L := by simpa using ho2
  rw [← hH] at h2 z1 z2 ho2 ⊢
  clear hH
  obtain ⟨B, hB⟩ : ∃ B, B = w2.heap.size := ⟨_, rfl⟩
  have r2 := ho2.rd
  rw [← hB] at h2 r2 z2
  have hBz : B ≤ w2.heap.size := by omega
  have hHB : H < B := by omega
  have gH : Below w.heap.size w w2 := gW2
  have hA2 : ∀ q, blk A2 = some q → q ≠ H := fun q e => by have := (ho2.ge q e).1; omega
  clear hB ho2 gW2
  have hn : L.length ≤ 3000 := by rw [HLL.out]; exact hle
  go_loopw [27] (fun i wr => ∃ (j : Nat) (F : Nat → Option Addr) (C : Nat → Nat), j ≤ L.length ∧ i = .int .i64 j ∧ Hands wr H B m j L F C ∧ Rd wr B .i64 A2 L ∧ Below w.heap.size w wr ∧ B ≤ wr.heap.size) (fun i _ => L.length - (intOf i).toNat)
  case atStart => exact ⟨0, _, _, Nat.zero_le _, rfl, h2, r2, gH, hBz⟩
  case round =>
    clear h2 r2 gH hBz
    obtain ⟨j, F, C, hj, rfl, hh, hr, hS, hzB⟩ := hrel
    by_cases hlt : j < L.length
    · obtain ⟨ad, x, rfl, _, hcell, HX⟩ := hr.get hlt
      obtain ⟨k, hk⟩ : ∃ k, k = j % m := ⟨_, rfl⟩
      have hkm : k < m := by rw [hk]; exact Nat.mod_lt _ (by omega)
      have ek : (j : Int).tmod (m : Int) = (k : Int) := by rw [hk]; rfl
      have ck := hh.1.cell k (rowOf_get m _ hkm)
      have fk := hh.1.frz k
      have hok := hh.2.1 k hkm
      obtain ⟨hsm, hll⟩ := hd_small hLs m k j hj
      have hl3 : (hd L m k j).length ≤ 3000 := by omega
      have i1 : (0 : Int) ≤ (k : Int) := by omega
      have i2 : (k : Int) < (m : Int) := by omega
      have HK := Lib.hid hk.symm
      have HH := Lib.hid hh
      have HO := Lib.hid hok
      have EK := Lib.hid ek
      have zHw : H < wr.heap.size := by omega
      have HNE : Hid (some H ≠ blk (F k)) := fun e => by have := (hok.ge H e.symm).1; omega
      clear hk hh hok hsm hll ek
      go_wp2_with fail
      have hm0 : ¬ (m = 0) := by omega
      have ek := EK.out
      have i1 : (0 : Int) ≤ (k : Int) := by omega
      have i2 : (k : Int) < (m : Int) := by omega
      refine wp_region_noPanic ?_
      refine wp_region_held_drew (S := (fun _ => True)) (by kernel_rfl) ?_ (fun hHeld => ?_)
      · exact trivial
      refine wpAnyH_take (i := 0) (oi := ⟨some 32, _, _, _, _, _⟩) (v := ?_) rfl (by kernel_rfl) (by kernel_rfl) (by kernel_rfl) (fun _ _ _ h => h) (Or.inl ⟨by rfl, ?_⟩) (by assumption) ?_
      rotate_left
      · ((intro w hSw; (try dsimp only at hSw); go_simp) <;> (with_reducible rfl))
      (try simp only [Act.put, List.setIfInBounds_toArray, List.set_cons_zero, List.set_cons_succ])
      refine wpAnyH_take (i := 1) (oi := ⟨some 33, _, _, _, _, _⟩) (v := ?_) rfl (by kernel_rfl) (by kernel_rfl) (by kernel_rfl) (fun _ _ _ h => h) (Or.inl ⟨by rfl, ?_⟩) (by assumption) ?_
      rotate_left
      · ((intro w hSw; (try dsimp only at hSw); go_simp) <;> (with_reducible rfl))
      (try simp only [Act.put, List.setIfInBounds_toArray, List.set_cons_zero, List.set_cons_succ])
      refine wpAnyH_take (i := 2) (oi := ⟨some 34, _, _, _, _, _⟩) (v := ?_) rfl (by kernel_rfl) (by kernel_rfl) (by kernel_rfl) (fun _ _ _ h => h) (Or.inl ⟨by rfl, ?_⟩) (by assumption) ?_
      rotate_left
      · ((intro w hSw; (try dsimp only at hSw); go_simp) <;> (with_reducible rfl))
      (try simp only [Act.put, List.setIfInBounds_toArray, List.set_cons_zero, List.set_cons_succ])
      refine wpAnyH_take (i := 3) (oi := ⟨some 35, _, _, _, _, _⟩) (v := ?_) rfl (by kernel_rfl) (by kernel_rfl) (by kernel_rfl) (fun _ _ _ h => h) (Or.inl ⟨by rfl, ?_⟩) (by assumption) ?_
      rotate_left
      · ((intro w hSw; (try dsimp only at hSw); go_simp) <;> (with_reducible rfl))
      (try simp only [Act.put, List.setIfInBounds_toArray, List.set_cons_zero, List.set_cons_succ])
      refine wpAnyH_take (i := 4) (oi := ⟨some 36, _, _, _, _, _⟩) (v := ?_) rfl (by kernel_rfl) (by kernel_rfl) (by kernel_rfl) (fun _ _ _ h => h) (Or.inl ⟨by rfl, ?_⟩) (by assumption) ?_
      rotate_left
      · ((intro w hSw; (try dsimp only at hSw); go_simp) <;> (with_reducible rfl))
      (try simp only [Act.put, List.setIfInBounds_toArray, List.set_cons_zero, List.set_cons_succ])
      refine wpAnyH_take (i := 5) (oi := ⟨some 37, _, _, _, _, _⟩) (v := ?_) rfl (by kernel_rfl) (by kernel_rfl) (by kernel_rfl) (fun _ _ _ h => h) (Or.inl ⟨by rfl, ?_⟩) (by assumption) ?_
      rotate_left
      · ((intro w hSw; (try dsimp only at hSw); go_simp) <;> (with_reducible rfl))
      (try simp only [Act.put, List.setIfInBounds_toArray, List.set_cons_zero, List.set_cons_succ])
      refine wpAnyH_take (i := 6) (oi := ⟨some 38, _, _, _, _, _⟩) (v := ?_) rfl (by kernel_rfl) (by kernel_rfl) (by kernel_rfl) (fun _ _ _ h => h) (Or.inl ⟨by rfl, ?_⟩) (by assumption) ?_
      rotate_left
      · ((intro w hSw; (try dsimp only at hSw); go_simp) <;> (with_reducible rfl))
      (try simp only [Act.put, List.setIfInBounds_toArray, List.set_cons_zero, List.set_cons_succ])
      refine wpAnyH_take (i := 7) (oi := ⟨some 39, _, _, _, _, _⟩) (v := ?_) rfl (by kernel_rfl) (by kernel_rfl) (by kernel_rfl) (fun _ _ _ h => h) (Or.inl ⟨by rfl, ?_⟩) (by assumption) ?_
      rotate_left
      · ((intro w hSw; (try dsimp only at hSw); go_simp) <;> (with_reducible rfl))
      (try simp only [Act.put, List.setIfInBounds_toArray, List.set_cons_zero, List.set_cons_succ])
      refine wpAnyH_take (i := 8) (oi := ⟨some 40, _, _, _, _, _⟩) (v := ?_) rfl (by kernel_rfl) (by kernel_rfl) (by kernel_rfl) (fun _ _ _ h => h) (Or.inl ⟨by rfl, ?_⟩) (by assumption) ?_
      rotate_left
      · ((intro w hSw; (try dsimp only at hSw); go_simp) <;> (with_reducible rfl))
      (try simp only [Act.put, List.setIfInBounds_toArray, List.set_cons_zero, List.set_cons_succ])
      refine wpAnyH_take (i := 10) (oi := ⟨some 42, _, _, _, _, _⟩) (v := ?_) rfl (by kernel_rfl) (by kernel_rfl) (by kernel_rfl) (fun _ _ _ h => h) (Or.inl ⟨by rfl, ?_⟩) (by assumption) ?_
      rotate_left
      · ((intro w hSw; (try dsimp only at hSw); go_simp) <;> (with_reducible rfl))
      (try simp only [Act.put, List.setIfInBounds_toArray, List.set_cons_zero, List.set_cons_succ])
      refine wpAnyH_ready (rs := [9, 11]) (by kernel_rfl) (by simp) ?_
      refine AllReadyH.cons (o := ⟨some 41, _, _, _, _, _⟩) rfl (fun K hK => ?_) (AllReadyH.cons (o := ⟨some 43, _, _, _, _, _⟩) rfl (fun K hK => ?_) AllReadyH.nil)
      · go_simp
        refine hK.out _ _ ?_ (fun hHeld => ?_)
        · exact trivial
        clear hK K
        (try simp only [Act.put, List.setIfInBounds_toArray, List.set_cons_zero, List.set_cons_succ])
        refine wpAnyH_ready (rs := [11]) (by kernel_rfl) (by simp) ?_
        refine AllReadyH.cons (o := ⟨some 43, _, _, _, _, _⟩) rfl (fun K hK => ?_) AllReadyH.nil
        go_simp
        refine hK.out _ _ ?_ (fun hHeld => ?_)
        · exact trivial
        clear hK K
        (try simp only [Act.put, List.setIfInBounds_toArray, List.set_cons_zero, List.set_cons_succ])
        refine wpAnyH_ready (rs := [12]) (by kernel_rfl) (by simp) ?_
        refine AllReadyH.cons (o := ⟨some 44, _, _, _, _, _⟩) rfl (fun K hK => ?_) AllReadyH.nil
        (refine stepAppAt rfl (.tmp 41) (.tmp 43) (by rfl) B (F k) (C k) (hd L m k j).length (hd L m k j) (by rfl) rfl ((HO.out.alloc _).drew) wr.heap.size 1 x (by rfl) (by simp) (by omega) (by simp; omega) ?_; intro A44 c44 w44 ho44 hg44 ha44; have b44 := ((HH.out.1.alloc (.cells #[.int .i64 x] 3)).drew).grown hg44 HNE.out; have cc44 := b44.cell k (rowOf_get m _ hkm); have ff44 := b44.frz k)
        refine hK.out _ _ ?_ (fun hHeld => ?_)
        · exact trivial
        clear hK K
        (try simp only [Act.put, List.setIfInBounds_toArray, List.set_cons_zero, List.set_cons_succ])
        refine wpAnyH_take (i := 13) (oi := ⟨some 45, _, _, _, _, _⟩) (v := ?_) rfl (by kernel_rfl) (by kernel_rfl) (by kernel_rfl) (fun _ _ _ h => h) (Or.inl ⟨by rfl, ?_⟩) (by assumption) ?_
        rotate_left
        · ((intro w hSw; (try dsimp only at hSw); go_simp) <;> (with_reducible rfl))
        (try simp only [Act.put, List.setIfInBounds_toArray, List.set_cons_zero, List.set_cons_succ])
        refine wpAnyH_ready (rs := [14]) (by kernel_rfl) (by simp) ?_
        refine AllReadyH.cons (o := ⟨none, _, _, _, _, _⟩) rfl (fun K hK => ?_) AllReadyH.nil
        go_simp
        refine hK.out _ _ ?_ (fun hHeld => ?_)
        · exact trivial
        clear hK K
        (try simp only [Act.put, List.setIfInBounds_toArray, List.set_cons_zero, List.set_cons_succ])
        refine wpAnyH_done (by kernel_rfl) ?_ _
        refine NoPanic.normal ?_
        have hx := HX.out
        have HN := Hands.next (((HH.out.below ((Below.refl _ _).alloc (Nat.le_refl _) (.cells #[.int .i64 x] 3))).drew)) hHB hkm HK.out (by rw [← hx]; exact ho44) hg44 ha44
        have hgB : Below B (wr.alloc (.cells #[.int .i64 x] 3)).drew w44 := (Below.refl _ _).grown hg44 (by simp; omega) (fun q hq => (HO.out.ge q hq).1)
        have hS44 : Below w.heap.size w w44 := ((hS.al (.cells #[.int .i64 x] 3)).drew).trans (hgB.mono (by omega))
        have hr44 : Rd w44 B .i64 (some ad) L := (((hr.alloc hzB (.cells #[.int .i64 x] 3)).drew).below hgB)
        have hz44 := hgB.size
        simp at hz44
        go_wp2_with fail
        go_roundw
        case rel =>
          exact ⟨j + 1, _, _, hlt, by go_num, HN, hr44.setFar hA2 _ _, hS44.setCell (by simp; omega) _, by simp; omega⟩
        case measure => simp [intOf]; omega
      · go_simp
        refine hK.out _ _ ?_ (fun hHeld => ?_)
        · exact trivial
        clear hK K
        (try simp only [Act.put, List.setIfInBounds_toArray, List.set_cons_zero, List.set_cons_succ])
        refine wpAnyH_ready (rs := [9]) (by kernel_rfl) (by simp) ?_
        refine AllReadyH.cons (o := ⟨some 41, _, _, _, _, _⟩) rfl (fun K hK => ?_) AllReadyH.nil
        go_simp
        refine hK.out _ _ ?_ (fun hHeld => ?_)
        · exact trivial
        clear hK K
        (try simp only [Act.put, List.setIfInBounds_toArray, List.set_cons_zero, List.set_cons_succ])
        refine wpAnyH_ready (rs := [12]) (by kernel_rfl) (by simp) ?_
        refine AllReadyH.cons (o := ⟨some 44, _, _, _, _, _⟩) rfl (fun K hK => ?_) AllReadyH.nil
        (refine stepAppAt rfl (.tmp 41) (.tmp 43) (by rfl) B (F k) (C k) (hd L m k j).length (hd L m k j) (by rfl) rfl ((HO.out.alloc _).drew) wr.heap.size 1 x (by rfl) (by simp) (by omega) (by simp; omega) ?_; intro A44 c44 w44 ho44 hg44 ha44; have b44 := ((HH.out.1.alloc (.cells #[.int .i64 x] 3)).drew).grown hg44 HNE.out; have cc44 := b44.cell k (rowOf_get m _ hkm); have ff44 := b44.frz k)
        refine hK.out _ _ ?_ (fun hHeld => ?_)
        · exact trivial
        clear hK K
        (try simp only [Act.put, List.setIfInBounds_toArray, List.set_cons_zero, List.set_cons_succ])
        refine wpAnyH_take (i := 13) (oi := ⟨some 45, _, _, _, _, _⟩) (v := ?_) rfl (by kernel_rfl) (by kernel_rfl) (by kernel_rfl) (fun _ _ _ h => h) (Or.inl ⟨by rfl, ?_⟩) (by assumption) ?_
        rotate_left
        · ((intro w hSw; (try dsimp only at hSw); go_simp) <;> (with_reducible rfl))
        (try simp only [Act.put, List.setIfInBounds_toArray, List.set_cons_zero, List.set_cons_succ])
        refine wpAnyH_ready (rs := [14]) (by kernel_rfl) (by simp) ?_
        refine AllReadyH.cons (o := ⟨none, _, _, _, _, _⟩) rfl (fun K hK => ?_) AllReadyH.nil
        go_simp
        refine hK.out _ _ ?_ (fun hHeld => ?_)
        · exact trivial
        clear hK K
        (try simp only [Act.put, List.setIfInBounds_toArray, List.set_cons_zero, List.set_cons_succ])
        refine wpAnyH_done (by kernel_rfl) ?_ _
        refine NoPanic.normal ?_
        have hx := HX.out
        have HN := Hands.next (((HH.out.below ((Below.refl _ _).alloc (Nat.le_refl _) (.cells #[.int .i64 x] 3))).drew)) hHB hkm HK.out (by rw [← hx]; exact ho44) hg44 ha44
        have hgB : Below B (wr.alloc (.cells #[.int .i64 x] 3)).drew w44 := (Below.refl _ _).grown hg44 (by simp; omega) (fun q hq => (HO.out.ge q hq).1)
        have hS44 : Below w.heap.size w w44 := ((hS.al (.cells #[.int .i64 x] 3)).drew).trans (hgB.mono (by omega))
        have hr44 : Rd w44 B .i64 (some ad) L := (((hr.alloc hzB (.cells #[.int .i64 x] 3)).drew).below hgB)
        have hz44 := hgB.size
        simp at hz44
        go_wp2_with fail
        go_roundw
        case rel =>
          exact ⟨j + 1, _, _, hlt, by go_num, HN, hr44.setFar hA2 _ _, hS44.setCell (by simp; omega) _, by simp; omega⟩
        case measure => simp [intOf]; omega
    · obtain rfl : j = L.length := by omega
      obtain ⟨DL, HDL⟩ : ∃ DL, Hid (dealL a b c m = DL) := ⟨_, rfl⟩
      have HDT : Hid (∀ k, k < m → DL.take (k + 1) = DL.take k ++ [nrm (hd L m k L.length)]) := fun k hk => by
        have := dealL_take a b c m k hk
        rw [HDL.out, HL.out, ← HLL.out] at this
        exact this
      have HDN : Hid (DL.length = m) := by show DL.length = m; rw [← HDL.out, dealL_length]
      have HSM : Hid (∀ k, SmallL (hd L m k L.length) ∧ (hd L m k L.length).length ≤ L.length) := fun k => hd_small hLs m k _ (Nat.le_refl _)
      clear hr hle hLs
      obtain ⟨W, hW⟩ : ∃ W, W = wr := ⟨_, rfl⟩
      rw [← hW] at hh hS hzB ⊢
      clear hW
      go_wp2_with fail
      go_loopw [8, 50] (fun v i wr => ∃ (k : Nat) (A' : Option Addr) (c' : Nat), k ≤ m ∧ i = .int .i64 k ∧ v = .slice A' k c' ∧ OwnR wr W.heap.size A' c' (DL.take k) ∧ Below W.heap.size W wr) (fun _ i _ => m - (intOf i).toNat)
      case atStart => exact ⟨0, _, _, Nat.zero_le _, rfl, rfl, OwnR.made rfl (Nat.le_refl _), (Below.refl _ _).al _⟩
      case round =>
        obtain ⟨k, A', c', hk, rfl, rfl, hown, hbl⟩ := hrel
        have hq := hbl.size
        by_cases hlt2 : k < m
        · have h3 := hh.below hbl
          have ck := h3.1.cell k (rowOf_get m _ hlt2)
          have hok := h3.2.1 k hlt2
          obtain ⟨hsm, hll⟩ := HSM.out k
          have hrk := hok.rd
          have hl3 : (hd L m k L.length).length ≤ 2000000000 := by omega
          have HTK := Lib.hid (HDT.out k hlt2)
          have i1 : (k : Int) < (m : Int) := by omega
          have htl : (DL.take k).length = k := by rw [List.length_take, HDN.out]; omega
          have HTL := Lib.hid htl
          have HSMk := Lib.hid hsm
          clear h3 hok htl hsm
          go_wp2_with fail
          refine (normalOf_any _ _ _ _ hrk hl3 HSMk.out).mono ?_; rintro e w5 ⟨rfl, hb5⟩
          have ho5 := hown.below hb5 (Nat.le_refl _)
          have hbl5 := hbl.step hb5
          have hq5 := hbl5.size
          obtain ⟨x, y, z, hN⟩ : ∃ x y z, Hid (nrm (hd L m k L.length) = (x, y, z)) := ⟨_, _, _, rfl⟩
          have e1 : nrmA (hd L m k L.length) = x := congrArg (·.1) hN.out
          have e2 : nrmB (hd L m k L.length) = y := congrArg (·.2.1) hN.out
          have e3 : nrmC (hd L m k L.length) = z := congrArg (·.2.2) hN.out
          rw [e1, e2, e3]
          clear e1 e2 e3
          go_wp2_with (at_builtin; refine wpList_appR _ rfl (.tmp 54) (.tmp 57) (by rfl) W.heap.size A' c' k (DL.take k) (by rfl) HTL.out (ho5.alloc _) w5.heap.size 1 (x, y, z) (by rfl) (by simp) (by simp) (by simp) (by omega) (by simp; omega) ?_; intro A6 c6 w6 ho6 hb6 _ _)
          go_roundw
          case rel => exact ⟨k + 1, A6, c6, hlt2, by go_num, by simp, by rw [HTK.out, hN.out]; exact ho6, (hbl5.al _).trans hb6⟩
          case measure => simp [intOf]; omega
        · obtain rfl : k = m := by omega
          have hDD : DL.take k = DL := List.take_of_length_le (by rw [HDN.out]; exact Nat.le_refl _)
          rw [hDD] at hown
          go_wp2_with fail
          go_ret
          exact ⟨A', c', by rw [HDL.out, HDN.out]; rfl, by rw [HDL.out]; exact hown.mono hS.size, hS.step hbl⟩
end Go.Proofs.Ytoejfpncpgoboaa
