/- The walk over the dealing of a range, of the reference; both, for all arguments. -/
import Derived.Test.YtoejfpncpgoboaaDeal2
set_option linter.unusedSimpArgs false
set_option linter.unusedVariables false
namespace Go.Proofs.Ytoejfpncpgoboaa
open Go.RowKit

theorem hn_lt {m k n t : Nat} (hm : 1 ≤ m) (hm6 : m ≤ 6) (hk : k < m) : t < hn m k n ↔ k + t * m < n := by
  unfold hn
  rcases (show m = 1 ∨ m = 2 ∨ m = 3 ∨ m = 4 ∨ m = 5 ∨ m = 6 by omega) with rfl | rfl | rfl | rfl | rfl | rfl <;> omega

theorem normal_len (A : Option Addr) (c m : Nat) (xs : List Int) (hm : xs.length = m) (w : World) (hr : Rd w w.heap.size .i64 A xs) (hl : xs.length ≤ 2000000000) (hs : SmallL xs) :
    Calls Try.prog 54 #[.slice A m c] w (Ret w (.agg #[.int .i64 (nrmA xs), .int .i64 (nrmB xs), .int .i64 (nrmC xs)])) := by
  subst hm; exact normal_any A c xs w hr hl hs
set_option maxRecDepth 100000 in
set_option maxHeartbeats 6400000 in
theorem sDealRange_yes (a b c : Int) (m : Nat) (hv : rangeB a b c = true) (hm : 1 ≤ m) (hm6 : m ≤ 6) (w : World) :
    Calls Try.prog 33 #[.agg #[.int .i64 a, .int .i64 b, .int .i64 c], .int .i64 m] w (RetR w (dealL a b c m)) := by
  have hs := small_of hv
  have HV := Lib.hid hv
  have HI : Hid (inB (m : Int) 1 6 = true) := by
    show inB (m : Int) 1 6 = true
    simp [inB]; omega
  clear hv
  go_enter Try.func33, Try.ntmps33
  go_wp2_with fail
  refine (validRange_any _ _ _ _).mono ?_; rw [HV.out]; rintro e w1 ⟨rfl, hb1⟩
  obtain ⟨hc1, hf1⟩ := bcell hb1
  go_wp2_with fail
  refine (inRange_any _ _ _ _).mono ?_; rw [HI.out]; rintro e w2 ⟨rfl, rfl⟩
  have z1 : w.heap.size < w1.heap.size := by have := hb1.size; simp at this; omega
  have gW : Below w.heap.size w w1 := (by (repeat' (first | (with_reducible exact Below.refl _ _) | (with_reducible assumption) | (with_reducible refine Below.setCell ?_ ?_ _) | (with_reducible refine Below.al ?_ _) | (with_reducible refine Below.drew ?_) | (with_reducible refine Below.drN ?_ _) | (with_reducible refine Below.step ?_ (by assumption)) | (with_reducible refine Below.alloc ?_ ?_ _))); all_goals (simp; try omega))
  go_wp2_with fail
  refine (numbers_any _ _ _ hs _).mono ?_; rintro e w2 ⟨A2, c2, rfl, ho2, hb2⟩
  have z2 := hb2.size
  simp at z2
  have gW2 : Below w.heap.size w w2 := (gW.al _).step hb2
  have oR := (OwnR.made (w := w1) (B := w1.heap.size) rfl (Nat.le_refl _)).below hb2 (Nat.le_refl _)
  have hLs := nums_small hs
  have hle := cnt_le a b c hs
  have hLn := nums_length a b c
  obtain ⟨L, HL⟩ : ∃ L, Hid (nums a b c = L) := ⟨_, rfl⟩
  have HLL : Hid (L.length = cnt a b c) := by rw [← HL.out]; exact hLn
  rw [HL.out] at ho2 hLs
  rw [HL.out]
  have hn3 : L.length ≤ 3000 := by rw [HLL.out]; exact hle
  have r2 := ho2.rd
  obtain ⟨DL, HDL⟩ : ∃ DL, Hid (dealL a b c m = DL) := ⟨_, rfl⟩
  have HDT : Hid (∀ k, k < m → DL.take (k + 1) = DL.take k ++ [nrm (hd L m k L.length)]) := fun k hk => by
    have := dealL_take a b c m k hk
    rw [HDL.out, HL.out, ← HLL.out] at this
    exact this
  have HDN : Hid (DL.length = m) := by show DL.length = m; rw [← HDL.out, dealL_length]
  have HSM : Hid (∀ k, SmallL (hd L m k L.length) ∧ (hd L m k L.length).length ≤ L.length) := fun k => hd_small hLs m k _ (Nat.le_refl _)
  have HSP : Hid (∀ k, k < m → hd L m k L.length = sp L m k (hn m k L.length)) := fun k hk => hd_sp L m k _ hm hm6 hk
  obtain ⟨B, hB⟩ : ∃ B, B = w1.heap.size := ⟨_, rfl⟩
  rw [← hB] at z1 z2 oR
  have hBw : w.heap.size ≤ B := by omega
  have hAB : ∀ q, blk A2 = some q → B + 1 ≤ q := fun q e => by have := (ho2.ge q e).1; simp at this; omega
  have hAlt : ∀ q, blk A2 = some q → q < w2.heap.size := fun q e => (ho2.ge q e).2
  have hB2 : B ≤ w2.heap.size := by omega
  clear hLn hle hLs hc1 hf1 hb1 hb2 gW ho2
  go_wp2_with fail
  rw [← hB]
  clear hB
  go_loopw [5, 7] (fun v i wr => ∃ (k : Nat) (A' : Option Addr) (c' : Nat), k ≤ m ∧ i = .int .i64 k ∧ v = .slice A' k c' ∧ OwnR wr B A' c' (DL.take k) ∧ Below w.heap.size w wr ∧ Rd wr wr.heap.size .i64 A2 L ∧ (blk A2 = none ∨ blk A2 ≠ blk A') ∧ w2.heap.size ≤ wr.heap.size) (fun _ i _ => m - (intOf i).toNat)
  case atStart =>
    refine ⟨0, _, _, Nat.zero_le _, rfl, rfl, oR, gW2, r2, ?_, by omega⟩
    rcases e : blk A2 with _ | q
    · exact .inl rfl
    · refine .inr fun e2 => ?_
      have := hAB q e
      simp [blk] at e2
      omega
  case round =>
    clear oR gW2 r2 z2 hAB
    obtain ⟨k, A', c', hk, rfl, rfl, hown, hS, rr, hne, hz2⟩ := hrel
    have hBz : B ≤ wr.heap.size := by omega
    by_cases hlt : k < m
    · have i1 : (k : Int) < (m : Int) := by omega
      have HLT := Lib.hid (fun t => hn_lt (t := t) (n := L.length) hm hm6 hlt)
      have HSPk := Lib.hid (HSP.out k hlt)
      have HTK := Lib.hid (HDT.out k hlt)
      have htl : (DL.take k).length = k := by rw [List.length_take, HDN.out]; omega
      have HTL := Lib.hid htl
      obtain ⟨hsm, hll⟩ := HSM.out k
      have hl3 : (hd L m k L.length).length ≤ 2000000000 := by omega
      have HSMk := Lib.hid hsm
      obtain ⟨W, hW⟩ : ∃ W, W = wr := ⟨_, rfl⟩
      rw [← hW] at hown hS rr hBz hz2 ⊢
      clear hW htl hsm
      go_wp2_with fail
      go_loopw [8, 9] (fun v i wr => ∃ (t p : Nat) (A4 : Option Addr) (c4 : Nat), Hid (p = k + t * m) ∧ t ≤ hn m k L.length ∧ t ≤ 3000 ∧ i = .int .i64 p ∧ v = .slice A4 t c4 ∧ Own wr W.heap.size A4 c4 (sp L m k t) ∧ Below W.heap.size W wr) (fun _ i _ => L.length - (intOf i).toNat)
      case atStart => exact ⟨0, k, _, _, (by show k = k + 0 * m; omega), Nat.zero_le _, Nat.zero_le _, rfl, rfl, Own.made rfl (Nat.le_refl _), (Below.refl _ _).al _⟩
      case round =>
        obtain ⟨t, p, A4, c4, HP, htn, ht3, rfl, rfl, ho, hbl⟩ := hrel
        have hq := hbl.size
        have hiff := HLT.out t
        rw [← HP.out] at hiff
        by_cases hlt2 : p < L.length
        · obtain ⟨ad, y, rfl, _, hcell, HY⟩ := (rr.to hbl).get hlt2
          have HT1 : Hid (t + 1 ≤ hn m k L.length) := hiff.2 hlt2
          have HP1 : Hid (p + m = k + (t + 1) * m) := by
            show p + m = k + (t + 1) * m
            rw [HP.out, Nat.succ_mul]; omega
          have ht1 : t + 1 ≤ 3000 := by
            have h1 : t ≤ t * m := Nat.le_mul_of_pos_right t (by omega)
            have h2 := HP.out
            omega
          have HS1 : Hid (sp L m k (t + 1) = sp L m k t ++ [y]) := by
            show sp L m k (t + 1) = _
            rw [sp, ← HP.out, HY.out]
          have i2 : (p : Int) < (L.length : Int) := by omega
          have HSL := Lib.hid (sp_length L m k t)
          clear hiff htn
          go_wp2_with (at_builtin; refine wpList_app1 _ rfl (.tmp 35) (.tmp 40) (by rfl) W.heap.size A4 c4 t (sp L m k t) (by rfl) HSL.out (ho.alloc _) wr.heap.size 1 y (by rfl) (by simp) (by omega) (by simp; omega) ?_; intro A5 c5 w5 ho5 hb5 hg5)
          go_roundw
          case rel => exact ⟨t + 1, p + m, A5, c5, HP1.out, HT1.out, ht1, by go_num, by simp, by rw [HS1.out]; exact ho5, (hbl.al _).trans hb5⟩
          case measure => simp [intOf]; omega
        · have hte : t = hn m k L.length := by
            have : ¬ t < hn m k L.length := fun h => hlt2 (hiff.1 h)
            omega
          have hsp : sp L m k t = hd L m k L.length := by rw [hte]; exact HSPk.out.symm
          rw [hsp] at ho
          have hdl : (hd L m k L.length).length = t := by rw [← hsp, sp_length]
          have HDL2 := Lib.hid hdl
          have hge : ¬ ((p : Int) < (L.length : Int)) := by omega
          clear hiff hte hsp hdl htn
          go_wp2_with fail
          refine (normal_len _ _ _ _ HDL2.out _ ho.rd hl3 HSMk.out).mono ?_; rintro e w5 ⟨rfl, hb5⟩
          have g5 := hbl.step hb5
          have ho5 := hown.below g5 (Nat.le_refl _)
          have rr5 := rr.to g5
          have hq5 := g5.size
          obtain ⟨x, y, z, hN⟩ : ∃ x y z, Hid (nrm (hd L m k L.length) = (x, y, z)) := ⟨_, _, _, rfl⟩
          have e1 : nrmA (hd L m k L.length) = x := congrArg (·.1) hN.out
          have e2 : nrmB (hd L m k L.length) = y := congrArg (·.2.1) hN.out
          have e3 : nrmC (hd L m k L.length) = z := congrArg (·.2.2) hN.out
          rw [e1, e2, e3]
          clear e1 e2 e3
          go_wp2_with (at_builtin; refine wpList_appR _ rfl (.tmp 42) (.tmp 45) (by rfl) B A' c' k (DL.take k) (by rfl) HTL.out (ho5.alloc _) w5.heap.size 1 (x, y, z) (by rfl) (by simp) (by simp) (by simp) (by omega) (by simp; omega) ?_; intro A6 c6 w6 ho6 hb6 hg6 ha6)
          go_roundw
          case rel =>
            have hz6 := hg6.size
            simp at hz6
            refine ⟨k + 1, A6, c6, hlt, by go_num, by simp, by rw [HTK.out, hN.out]; exact ho6, ((hS.step g5).al _).trans (hb6.mono (by omega)), ?_, ?_, by omega⟩
            · exact ((rr5.to ((Below.refl _ _).al (.cells #[.int .i64 x, .int .i64 y, .int .i64 z] 26))).kept hg6 hne).more hg6.size
            · rcases ha6 with e | e
              · rw [e]; exact hne
              · rcases e2 : blk A2 with _ | q
                · exact .inl rfl
                · refine .inr fun e3 => ?_
                  rw [e] at e3
                  injection e3 with e3
                  simp at e3
                  have := hAlt q e2
                  omega
          case measure => simp [intOf]; omega
    · obtain rfl : k = m := by omega
      have hDD : DL.take k = DL := List.take_of_length_le (by rw [HDN.out]; exact Nat.le_refl _)
      rw [hDD] at hown
      go_wp2_with fail
      go_ret
      exact ⟨A', c', by rw [HDL.out, HDN.out]; rfl, by rw [HDL.out]; exact hown.mono hBw, hS⟩
theorem dealR_yes {a b c : Int} {m : Nat} (h : rangeB a b c = true) (h1 : 1 ≤ m) (h2 : m ≤ 6) : dealR a b c (m : Int) = dealL a b c m := by
  rw [dealR, if_pos ⟨h, by omega, by omega⟩]; simp
theorem dealR_no {a b c x : Int} (h : ¬ (rangeB a b c = true ∧ 1 ≤ x ∧ x ≤ 6)) : dealR a b c x = [] := if_neg h
set_option maxHeartbeats 1600000 in
theorem iDealRange_any (a b c x : Int) (w : World) : Calls Try.prog 34 #[.agg #[.int .i64 a, .int .i64 b, .int .i64 c], .int .i64 x] w (RetR w (dealR a b c x)) := by
  rcases hv : rangeB a b c with _ | _
  · rw [dealR_no (by rw [hv]; simp)]
    go_enter Try.func34, Try.ntmps34
    go_wp2_with fail
    refine (isRange_any _ _ _ _).mono ?_; rw [hv]; rintro e w1 ⟨rfl, hb1⟩
    go_wp2_with fail
    (go_ret; exact ⟨none, 0, rfl, OwnR.nil _ _, (by (repeat' (first | (with_reducible exact Below.refl _ _) | (with_reducible assumption) | (with_reducible refine Below.setCell ?_ ?_ _) | (with_reducible refine Below.al ?_ _) | (with_reducible refine Below.drew ?_) | (with_reducible refine Below.drN ?_ _) | (with_reducible refine Below.step ?_ (by assumption)) | (with_reducible refine Below.alloc ?_ ?_ _))); all_goals (simp; try omega))⟩)
  · by_cases h1 : x < 1
    · rw [dealR_no (by omega)]
      go_enter Try.func34, Try.ntmps34
      go_wp2_with fail
      refine (isRange_any _ _ _ _).mono ?_; rw [hv]; rintro e w1 ⟨rfl, hb1⟩
      go_wp2_with fail
      (go_ret; exact ⟨none, 0, rfl, OwnR.nil _ _, (by (repeat' (first | (with_reducible exact Below.refl _ _) | (with_reducible assumption) | (with_reducible refine Below.setCell ?_ ?_ _) | (with_reducible refine Below.al ?_ _) | (with_reducible refine Below.drew ?_) | (with_reducible refine Below.drN ?_ _) | (with_reducible refine Below.step ?_ (by assumption)) | (with_reducible refine Below.alloc ?_ ?_ _))); all_goals (simp; try omega))⟩)
    · by_cases h2 : 6 < x
      · rw [dealR_no (by omega)]
        go_enter Try.func34, Try.ntmps34
        go_wp2_with fail
        refine (isRange_any _ _ _ _).mono ?_; rw [hv]; rintro e w1 ⟨rfl, hb1⟩
        go_wp2_with fail
        (go_ret; exact ⟨none, 0, rfl, OwnR.nil _ _, (by (repeat' (first | (with_reducible exact Below.refl _ _) | (with_reducible assumption) | (with_reducible refine Below.setCell ?_ ?_ _) | (with_reducible refine Below.al ?_ _) | (with_reducible refine Below.drew ?_) | (with_reducible refine Below.drN ?_ _) | (with_reducible refine Below.step ?_ (by assumption)) | (with_reducible refine Below.alloc ?_ ?_ _))); all_goals (simp; try omega))⟩)
      · obtain ⟨m, rfl⟩ := Int.eq_ofNat_of_zero_le (show 0 ≤ x by omega)
        rw [dealR_yes hv (by omega) (by omega)]
        exact iDealRange_yes a b c m hv (by omega) (by omega) w
set_option maxHeartbeats 1600000 in
theorem sDealRange_any (a b c x : Int) (w : World) : Calls Try.prog 33 #[.agg #[.int .i64 a, .int .i64 b, .int .i64 c], .int .i64 x] w (RetR w (dealR a b c x)) := by
  rcases hv : rangeB a b c with _ | _
  · rw [dealR_no (by rw [hv]; simp)]
    go_enter Try.func33, Try.ntmps33
    go_wp2_with fail
    refine (validRange_any _ _ _ _).mono ?_; rw [hv]; rintro e w1 ⟨rfl, hb1⟩
    go_wp2_with fail
    (go_ret; exact ⟨none, 0, rfl, OwnR.nil _ _, (by (repeat' (first | (with_reducible exact Below.refl _ _) | (with_reducible assumption) | (with_reducible refine Below.setCell ?_ ?_ _) | (with_reducible refine Below.al ?_ _) | (with_reducible refine Below.drew ?_) | (with_reducible refine Below.drN ?_ _) | (with_reducible refine Below.step ?_ (by assumption)) | (with_reducible refine Below.alloc ?_ ?_ _))); all_goals (simp; try omega))⟩)
  · by_cases h1 : 1 ≤ x ∧ x ≤ 6
    · obtain ⟨m, rfl⟩ := Int.eq_ofNat_of_zero_le (show 0 ≤ x by omega)
      rw [dealR_yes hv (by omega) (by omega)]
      exact sDealRange_yes a b c m hv (by omega) (by omega) w
    · have HI : Hid (inB x 1 6 = false) := by
        show inB x 1 6 = false
        simp only [inB, decide_eq_false_iff_not]; exact h1
      rw [dealR_no (by omega)]
      go_enter Try.func33, Try.ntmps33
      go_wp2_with fail
      refine (validRange_any _ _ _ _).mono ?_; rw [hv]; rintro e w1 ⟨rfl, hb1⟩
      go_wp2_with fail
      refine (inRange_any _ _ _ _).mono ?_; rw [HI.out]; rintro e w2 ⟨rfl, rfl⟩
      go_wp2_with fail
      (go_ret; exact ⟨none, 0, rfl, OwnR.nil _ _, (by (repeat' (first | (with_reducible exact Below.refl _ _) | (with_reducible assumption) | (with_reducible refine Below.setCell ?_ ?_ _) | (with_reducible refine Below.al ?_ _) | (with_reducible refine Below.drew ?_) | (with_reducible refine Below.drN ?_ _) | (with_reducible refine Below.step ?_ (by assumption)) | (with_reducible refine Below.alloc ?_ ?_ _))); all_goals (simp; try omega))⟩)
end Go.Proofs.Ytoejfpncpgoboaa
