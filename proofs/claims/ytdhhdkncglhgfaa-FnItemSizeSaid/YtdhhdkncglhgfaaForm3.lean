/- The walks over formats: the places of the fields and the size of an item, as the reference finds them; the greatest of a list. -/
import Derived.Test.YtdhhdkncglhgfaaForm2
set_option linter.unusedVariables false
namespace Go.Proofs.Ytdhhdkncglhgfaa
open Go.RowKit
def RetPl (w : World) (xs : List Int) (v : Int) (e : Ending) (w' : World) : Prop :=
  ∃ A c, e = .returned (.tuple #[.slice A xs.length c, .int .i64 v]) ∧ Own w' w.heap.size A c xs ∧ Below w.heap.size w w'
set_option maxHeartbeats 3200000 in
theorem sPlaces_t (A : Option Addr) (c : Nat) (bg : Bool) (xs : List Int) (w : World) (h0 : Rd w w.heap.size .i64 A xs) (hl : xs.length ≤ 5) (hs : SzL xs) :
    Calls Try.prog 81 #[.agg #[.slice A xs.length c, .bool bg, .bool true]] w (RetPl w (fPs true xs xs.length) (itS true xs)) := by
  have HS := Lib.hid hs
  have hr := h0.alloc (Nat.le_refl _) (.cells #[.slice A xs.length c, .bool bg, .bool true] 37)
  clear hs
  go_enter Try.func81, Try.ntmps81
  go_wp2_with fail
  go_loopw [4, 5, 6, 7] (fun v a mm i wr => ∃ (k : Nat) (A1 : Option Addr) (c1 : Nat), k ≤ xs.length ∧ i = .int .i64 k ∧ a = .int .i64 (fAt true xs k) ∧ mm = .int .i64 (fMx true xs k) ∧ v = .slice A1 k c1 ∧ Own wr (w.heap.size + 1) A1 c1 (fPs true xs k) ∧ Below (w.heap.size + 1) (w.alloc (.cells #[.slice A xs.length c, .bool bg, .bool true] 37)) wr) (fun _ _ _ i _ => xs.length - (intOf i).toNat)
  case atStart => exact ⟨0, _, _, Nat.zero_le _, rfl, rfl, rfl, rfl, Own.made (by simp) (by simp), (by (repeat' (first | (with_reducible exact Below.refl _ _) | (with_reducible assumption) | (with_reducible refine Below.setCell ?_ ?_ _) | (with_reducible refine Below.al ?_ _) | (with_reducible refine Below.drew ?_) | (with_reducible refine Below.drN ?_ _) | (with_reducible refine Below.step ?_ (by assumption)) | (with_reducible refine Below.alloc ?_ ?_ _))); all_goals (simp; try omega))⟩
  case round =>
    obtain ⟨k, A1, c1, hk, rfl, rfl, rfl, rfl, hown, hbl⟩ := hrel
    have q0 := hbl.cell (p := ⟨w.heap.size, 0, none⟩) (by simp)
    have q2 := hbl.cell (p := ⟨w.heap.size, 2, none⟩) (by simp)
    have q3 := hbl.size
    simp at q0 q2 q3
    have hb1 := fAt_bd (al := true) HS.out k hk
    have hm1 := fMx_sz (al := true) HS.out k hk
    by_cases hlt : k < xs.length
    · obtain ⟨ad, y, rfl, had, hcell, HY⟩ := (hr.below (hbl.mono (by omega))).get hlt
      have hy : Sz y := by rw [HY.out]; exact HS.out k hlt
      have hy2 : 1 ≤ y ∧ y ≤ 4 := by rcases hy with rfl | rfl | rfl <;> omega
      have hb2 := fPl_bd (al := true) HS.out k hlt
      have HYS := Lib.hid hy
      obtain ⟨p, hp⟩ : ∃ p, p = fAt true xs k := ⟨_, rfl⟩
      obtain ⟨r, hrr⟩ : ∃ r, r = fPl true xs k := ⟨_, rfl⟩
      obtain ⟨m, hm⟩ : ∃ m, m = fMx true xs k := ⟨_, rfl⟩
      have HRR : Hid (r = if true = true then rup p y else p) := by show _ = _; rw [hrr, hp, HY.out]; rfl
      have HM1 : Hid (fMx true xs (k + 1) = if true = true ∧ m < y then y else m) := by show _ = _; rw [hm, HY.out]; rfl
      have HF : Hid (fAt true xs (k + 1) = r + y) := by show _ = _; rw [fAt_succ, hrr, HY.out]
      have HPS : Hid (fPs true xs (k + 1) = fPs true xs k ++ [r]) := by show _ = _; rw [fPs_succ, hrr]
      have HLL := Lib.hid (fPs_length true xs k)
      rw [← hp, ← hrr] at hb2
      rw [← hm] at hm1
      rw [← hp] at hb1
      rw [← hp, ← hm]
      have hm2 : 1 ≤ m ∧ m ≤ 4 := by rcases hm1 with e | e | e <;> omega
      clear hp hrr hy hm hm1
      obtain ⟨b1, b2⟩ := hb1
      obtain ⟨b3, b4⟩ := hb2
      obtain ⟨y1, y2⟩ := hy2
      obtain ⟨m1, m2⟩ := hm2
      (have HR2 : Hid (r = rup p y) := HRR.out; have HM2 : Hid (fMx true xs (k + 1) = if m < y then y else m) := (by show _ = _; rw [HM1.out]; simp only [true_and]))
      by_cases hmy : m < y
      all_goals
        go_wp2_with (first
          | (go_at_call 104; refine (sRoundUp_any _ _ _ b1 (by omega) HYS.out).mono ?_; rw [← HR2.out]; rintro e w1 ⟨rfl, rfl⟩)
          | (at_builtin; refine wpList_app1 _ rfl (.tmp 32) (.tmp 34) (by rfl) (w.heap.size + 1) A1 c1 k (fPs true xs k) (by rfl) HLL.out (hown.alloc _) wr.heap.size 1 r (by rfl) (by simp) (by omega) (by simp; omega) ?_; intro A2 c2 w1 hown1 hb1 _; have hbl1 := (hbl.alloc q3 _).trans hb1; have q5 := hbl1.cell (p := ⟨w.heap.size, 0, none⟩) (by simp); simp at q5; have hcell5 := (hbl1.cell (p := ad.add k) (by rw [addBlock]; omega)).trans ((hbl.cell (p := ad.add k) (by rw [addBlock]; omega)).symm.trans hcell)))
        ((go_roundw); (case rel => exact ⟨k + 1, A2, c2, hlt, by go_num, by rw [HF.out], by first | (rw [HM2.out, if_pos hmy]) | (rw [HM2.out, if_neg (by omega)]), rfl, by rw [HPS.out]; exact hown1, hbl1⟩); (case measure => simp [intOf]; omega))
    · obtain rfl : k = xs.length := by omega
      have HLL := Lib.hid (fPs_length true xs xs.length)
      have HMS := Lib.hid hm1
      have HIT : Hid (itS true xs = rup (fAt true xs xs.length) (fMx true xs xs.length)) := rfl
      obtain ⟨b1, b2⟩ := hb1
      clear hm1
      go_wp2_with (go_at_call 104; refine (sRoundUp_any _ _ _ b1 (by omega) HMS.out).mono ?_; rw [← HIT.out]; rintro e w1 ⟨rfl, rfl⟩)
      go_ret2
      exact ⟨A1, c1, by rw [HLL.out]; rfl, hown.mono (by omega), ((Below.refl _ _).alloc (Nat.le_refl _) _).trans (hbl.mono (by omega))⟩
set_option maxHeartbeats 3200000 in
theorem sPlaces_f (A : Option Addr) (c : Nat) (bg : Bool) (xs : List Int) (w : World) (h0 : Rd w w.heap.size .i64 A xs) (hl : xs.length ≤ 5) (hs : SzL xs) :
    Calls Try.prog 81 #[.agg #[.slice A xs.length c, .bool bg, .bool false]] w (RetPl w (fPs false xs xs.length) (itS false xs)) := by
  have HS := Lib.hid hs
  have hr := h0.alloc (Nat.le_refl _) (.cells #[.slice A xs.length c, .bool bg, .bool false] 37)
  clear hs
  go_enter Try.func81, Try.ntmps81
  go_wp2_with fail
  go_loopw [4, 5, 6, 7] (fun v a mm i wr => ∃ (k : Nat) (A1 : Option Addr) (c1 : Nat), k ≤ xs.length ∧ i = .int .i64 k ∧ a = .int .i64 (fAt false xs k) ∧ mm = .int .i64 (fMx false xs k) ∧ v = .slice A1 k c1 ∧ Own wr (w.heap.size + 1) A1 c1 (fPs false xs k) ∧ Below (w.heap.size + 1) (w.alloc (.cells #[.slice A xs.length c, .bool bg, .bool false] 37)) wr) (fun _ _ _ i _ => xs.length - (intOf i).toNat)
  case atStart => exact ⟨0, _, _, Nat.zero_le _, rfl, rfl, rfl, rfl, Own.made (by simp) (by simp), (by (repeat' (first | (with_reducible exact Below.refl _ _) | (with_reducible assumption) | (with_reducible refine Below.setCell ?_ ?_ _) | (with_reducible refine Below.al ?_ _) | (with_reducible refine Below.drew ?_) | (with_reducible refine Below.drN ?_ _) | (with_reducible refine Below.step ?_ (by assumption)) | (with_reducible refine Below.alloc ?_ ?_ _))); all_goals (simp; try omega))⟩
  case round =>
    obtain ⟨k, A1, c1, hk, rfl, rfl, rfl, rfl, hown, hbl⟩ := hrel
    have q0 := hbl.cell (p := ⟨w.heap.size, 0, none⟩) (by simp)
    have q2 := hbl.cell (p := ⟨w.heap.size, 2, none⟩) (by simp)
    have q3 := hbl.size
    simp at q0 q2 q3
    have hb1 := fAt_bd (al := false) HS.out k hk
    have hm1 := fMx_sz (al := false) HS.out k hk
    by_cases hlt : k < xs.length
    · obtain ⟨ad, y, rfl, had, hcell, HY⟩ := (hr.below (hbl.mono (by omega))).get hlt
      have hy : Sz y := by rw [HY.out]; exact HS.out k hlt
      have hy2 : 1 ≤ y ∧ y ≤ 4 := by rcases hy with rfl | rfl | rfl <;> omega
      have hb2 := fPl_bd (al := false) HS.out k hlt
      have HYS := Lib.hid hy
      obtain ⟨p, hp⟩ : ∃ p, p = fAt false xs k := ⟨_, rfl⟩
      obtain ⟨r, hrr⟩ : ∃ r, r = fPl false xs k := ⟨_, rfl⟩
      obtain ⟨m, hm⟩ : ∃ m, m = fMx false xs k := ⟨_, rfl⟩
      have HRR : Hid (r = if false = true then rup p y else p) := by show _ = _; rw [hrr, hp, HY.out]; rfl
      have HM1 : Hid (fMx false xs (k + 1) = if false = true ∧ m < y then y else m) := by show _ = _; rw [hm, HY.out]; rfl
      have HF : Hid (fAt false xs (k + 1) = r + y) := by show _ = _; rw [fAt_succ, hrr, HY.out]
      have HPS : Hid (fPs false xs (k + 1) = fPs false xs k ++ [r]) := by show _ = _; rw [fPs_succ, hrr]
      have HLL := Lib.hid (fPs_length false xs k)
      rw [← hp, ← hrr] at hb2
      rw [← hm] at hm1
      rw [← hp] at hb1
      rw [← hp, ← hm]
      have hm2 : 1 ≤ m ∧ m ≤ 4 := by rcases hm1 with e | e | e <;> omega
      clear hp hrr hy hm hm1
      obtain ⟨b1, b2⟩ := hb1
      obtain ⟨b3, b4⟩ := hb2
      obtain ⟨y1, y2⟩ := hy2
      obtain ⟨m1, m2⟩ := hm2
      (obtain rfl : r = p := HRR.out; have HM2 : Hid (fMx false xs (k + 1) = m) := (by show _ = _; rw [HM1.out, if_neg (by simp)]))
      by_cases hmy : m < y
      all_goals
        go_wp2_with (first
          | (go_at_call 104; refine (sRoundUp_any _ _ _ b1 (by omega) HYS.out).mono ?_; rw [← HR2.out]; rintro e w1 ⟨rfl, rfl⟩)
          | (at_builtin; refine wpList_app1 _ rfl (.tmp 32) (.tmp 34) (by rfl) (w.heap.size + 1) A1 c1 k (fPs false xs k) (by rfl) HLL.out (hown.alloc _) wr.heap.size 1 r (by rfl) (by simp) (by omega) (by simp; omega) ?_; intro A2 c2 w1 hown1 hb1 _; have hbl1 := (hbl.alloc q3 _).trans hb1; have q5 := hbl1.cell (p := ⟨w.heap.size, 0, none⟩) (by simp); simp at q5; have hcell5 := (hbl1.cell (p := ad.add k) (by rw [addBlock]; omega)).trans ((hbl.cell (p := ad.add k) (by rw [addBlock]; omega)).symm.trans hcell)))
        ((go_roundw); (case rel => exact ⟨k + 1, A2, c2, hlt, by go_num, by rw [HF.out], by rw [HM2.out], rfl, by rw [HPS.out]; exact hown1, hbl1⟩); (case measure => simp [intOf]; omega))
    · obtain rfl : k = xs.length := by omega
      have HLL := Lib.hid (fPs_length false xs xs.length)
      have HMS := Lib.hid hm1
      have HIT : Hid (itS false xs = rup (fAt false xs xs.length) (fMx false xs xs.length)) := rfl
      obtain ⟨b1, b2⟩ := hb1
      clear hm1
      go_wp2_with (go_at_call 104; refine (sRoundUp_any _ _ _ b1 (by omega) HMS.out).mono ?_; rw [← HIT.out]; rintro e w1 ⟨rfl, rfl⟩)
      go_ret2
      exact ⟨A1, c1, by rw [HLL.out]; rfl, hown.mono (by omega), ((Below.refl _ _).alloc (Nat.le_refl _) _).trans (hbl.mono (by omega))⟩

set_option maxHeartbeats 1600000 in
theorem max_any (A : Option Addr) (c B : Nat) (xs : List Int) (w : World) (hr : Rd w B .i64 A xs) (h1 : 1 ≤ xs.length) (hl : xs.length ≤ 1000) :
    Calls Try.prog 107 #[.slice A xs.length c] w fun e w' => e = .returned (.int .i64 (mxL xs (xs.length - 1))) ∧ w = w' := by
  obtain ⟨ad, y0, rfl, _, hcell0, HY0⟩ := hr.get (j := 0) h1
  rw [addZero] at hcell0
  have HZ : Hid (mxL xs 0 = y0) := by show _ = _; rw [mxL, HY0.out]
  have i1 : (0 : Int) < (xs.length : Int) := by omega
  go_enter Try.func107, Try.ntmps107
  go_wp2_with fail
  go_loop [3, 4] (fun m i => ∃ k : Nat, k + 1 ≤ xs.length ∧ i = .int .i64 ((k : Int) + 1) ∧ m = .int .i64 (mxL xs k)) (fun _ i => xs.length - (intOf i).toNat)
  case atStart => exact ⟨0, h1, by simp, by rw [HZ.out]⟩
  case round =>
    obtain ⟨k, hk, rfl, rfl⟩ := hrel
    by_cases hlt : k + 1 < xs.length
    · obtain ⟨_, y, e1, _, hcell, HY⟩ := hr.get hlt
      obtain rfl := Option.some.inj e1
      clear e1
      have j1 : (k : Int) + 1 < (xs.length : Int) := by omega
      have j2 : ((k : Int) + 1).toNat = k + 1 := by omega
      obtain ⟨m, hm⟩ : ∃ m, m = mxL xs k := ⟨_, rfl⟩
      have HM : Hid (mxL xs (k + 1) = if m < y then y else m) := by show _ = _; rw [mxL, HY.out, hm]
      rw [← hm]
      clear hm
      rw [addLit] at hcell
      by_cases hmy : m < y
      · go_wp2_with fail
        go_round
        case rel => exact ⟨k + 1, hlt, by go_num, by rw [HM.out, if_pos hmy]⟩
        case measure => simp [intOf]; omega
      · go_wp2_with fail
        go_round
        case rel => exact ⟨k + 1, hlt, by go_num, by rw [HM.out, if_neg hmy]⟩
        case measure => simp [intOf]; omega
    · have HK : Hid (xs.length - 1 = k) := by show _ = _; omega
      go_wp2_with fail
      go_ret
      exact ⟨ret_int (by rw [HK.out]), rfl⟩
end Go.Proofs.Ytdhhdkncglhgfaa
