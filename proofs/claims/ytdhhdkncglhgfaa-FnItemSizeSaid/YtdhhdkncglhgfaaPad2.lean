/- The walk over the bytes that no field of a format takes, further. -/
import Derived.Test.YtdhhdkncglhgfaaPad
set_option linter.unusedSimpArgs false
set_option linter.unusedVariables false
namespace Go.Proofs.Ytdhhdkncglhgfaa
open Go.RowKit

set_option maxRecDepth 100000 in
set_option maxHeartbeats 6400000 in
theorem PaddingOf_any (A : Option Addr) (c : Nat) (bg al : Bool) (xs : List Int) (w : World) (h0 : Rd w w.heap.size .i64 A xs) (hf : formB xs = true) :
    Calls Try.prog 58 #[.agg #[.slice A xs.length c, .bool bg, .bool al]] w fun e w' => ∃ A' c', ∃ m : Nat, e = .returned (.slice A' m c') ∧ total xs + (m : Int) = itS al xs ∧ Below w.heap.size w w' := by
  obtain ⟨f1, f5, fs⟩ := form_szl hf
  have hxm : xs.length ≤ maxLen := by simp only [maxLen]; omega
  obtain ⟨b1, b2, b3⟩ := itS_bd (al := al) hf
  have HF := Lib.hid hf
  obtain ⟨n, hn⟩ := Int.eq_ofNat_of_zero_le b3
  have HN := Lib.hid hn
  have hn40 : n ≤ 40 := by omega
  have hmk := fun (w : World) => run_make_row' (P := Try.prog) 70 4 (.bool false) 1 Try.underlying70 Try.infoBool rfl .i64 .i64 n (by omega) (by omega) w
  clear hn b1 b2
  have r0 := (h0.alloc (Nat.le_refl _) (.cells #[.slice A xs.length c, .bool bg, .bool al] 37)).more (B' := (w.alloc (.cells #[.slice A xs.length c, .bool bg, .bool al] 37)).heap.size) (by simp)
  go_enter Try.func58, Try.ntmps58
  go_wp2_with fail
  refine (isFormat_any _ _ _ _ _ _ r0 hxm).mono ?_; rw [HF.out]; rintro e w1 ⟨rfl, g1⟩
  have hc1 := bcel g1
  have r1 := r0.to g1
  go_wp2_with fail
  refine (itemSize_any _ _ _ _ _ _ r1 HF.out).mono ?_; rw [HN.out]; rintro e w2 ⟨rfl, hb2⟩; have g2 := g1.step hb2; clear hc1; have hc2 := bcel g2
  have r2 := r1.to hb2
  have q0 : w2.cell? ⟨w.heap.size, 0, none⟩ = some (.slice A xs.length c) := (hc2 _ _ (by simp)).trans (by simp)
  have q1 : w2.cell? ⟨w.heap.size, 1, none⟩ = some (.bool bg) := (hc2 _ _ (by simp)).trans (by simp)
  have q2 : w2.cell? ⟨w.heap.size, 2, none⟩ = some (.bool al) := (hc2 _ _ (by simp)).trans (by simp)
  have zV : w.heap.size < w2.heap.size := by have := g2.size; simp at this; omega
  have gW : Below w.heap.size w w2 := (by (repeat' (first | (with_reducible exact Below.refl _ _) | (with_reducible assumption) | (with_reducible refine Below.setCell ?_ ?_ _) | (with_reducible refine Below.al ?_ _) | (with_reducible refine Below.drew ?_) | (with_reducible refine Below.drN ?_ _) | (with_reducible refine Below.step ?_ (by assumption)) | (with_reducible refine Below.alloc ?_ ?_ _))); all_goals (simp; try omega))
  have m2 := Bb.made w2 n
  have k2 : Below w2.heap.size w2 (w2.alloc (.cells (madeCells #[Value.bool false] n) 4)) := (Below.refl _ _).al _
  obtain ⟨G, hG⟩ : ∃ G, G = w2.heap.size := ⟨_, rfl⟩
  clear hc2 g1 g2 hb2 r0 r1 h0
  go_wp2_with fail
  rw [← hG] at zV m2 k2 r2 ⊢
  clear hG
  go_loopw [19] (fun i wr => ∃ k : Nat, k ≤ n ∧ i = .int .i64 k ∧ Bb wr G (List.replicate k true ++ List.replicate (n - k) false) ∧ Below G w2 wr) (fun i _ => n - (intOf i).toNat)
  case atStart => exact ⟨0, Nat.zero_le _, rfl, by simpa using m2, k2⟩
  case round =>
    clear m2 k2
    obtain ⟨k, hk, rfl, hb, hS⟩ := hrel
    have hlen : (List.replicate k true ++ List.replicate (n - k) false).length = n := by simp; omega
    by_cases hlt : k < n
    · obtain ⟨y, hcell⟩ : ∃ y, wr.cell? ⟨G, k, none⟩ = some (.bool y) := ⟨_, hb.cell (j := k) (by rw [hlen]; exact hlt)⟩
      have hfz := Bx.frz hb k
      have HS := Lib.hid (rep_set n k hlt)
      have HB := Lib.hid (hb.set k true)
      clear hb hlen
      go_wp2_with fail
      go_roundw
      case rel => exact ⟨k + 1, hlt, by go_num, by rw [← HS.out]; exact HB.out, hS.setCell (Nat.le_refl _) _⟩
      case measure => simp [intOf]; omega
    · obtain rfl : k = n := by omega
      have hb' : Bb wr G (List.replicate k true) := by simpa using hb
      have p0 : wr.cell? ⟨w.heap.size, 0, none⟩ = some (.slice A xs.length c) := (hS.cell (p := ⟨w.heap.size, 0, none⟩) zV).trans q0
      have p1 : wr.cell? ⟨w.heap.size, 1, none⟩ = some (.bool bg) := (hS.cell (p := ⟨w.heap.size, 1, none⟩) zV).trans q1
      have p2 : wr.cell? ⟨w.heap.size, 2, none⟩ = some (.bool al) := (hS.cell (p := ⟨w.heap.size, 2, none⟩) zV).trans q2
      have rr := r2.below hS
      have zG := Bx.lt hb
      clear hb hlen
      go_wp2_with fail
      refine (iPlaces_any _ _ _ _ _ _ (rr.more (by omega)) HF.out).mono ?_; rintro e w3 ⟨A3, c3, rfl, ho3, hb3⟩
      have m3 := Bx.step hb' hb3
      have s3 := hS.trans (hb3.mono (by omega))
      have hps := fPs_length al xs xs.length
      have HPS := Lib.hid hps
      obtain ⟨B3, hB3⟩ : ∃ B3, B3 = wr.heap.size := ⟨_, rfl⟩
      rw [← hB3] at zG ho3
      rw [hps]
      clear hb3 hS hb' p0 p1 p2 rr hps hB3
      go_wp2_with fail
      go_loopw [29] (fun i wr => ∃ (j : Nat) (bs : List Bool), j ≤ xs.length ∧ i = .int .i64 j ∧ bs.length = k ∧ (cT bs : Int) + total (xs.take j) = (k : Int) ∧ (∀ p : Nat, p < k → fAt al xs j ≤ (p : Int) → bs.getD p false = true) ∧ Bb wr G bs ∧ Own wr B3 A3 c3 (fPs al xs xs.length) ∧ Below G w2 wr) (fun i _ => xs.length - (intOf i).toNat)
      case atStart =>
        refine ⟨0, _, Nat.zero_le _, rfl, by simp, by rw [cT_rep]; simp [total], fun p hp _ => ?_, m3, ho3, s3⟩
        simp [List.getD_eq_getElem?_getD, hp]
      case round =>
        clear m3 ho3 s3
        obtain ⟨j, bs, hj, rfl, hlb, hcT, htr, hb, ho, hS⟩ := hrel
        have zG2 := Bx.lt hb
        have hcl : ∀ o, wr.cell? ⟨w.heap.size, o, none⟩ = w2.cell? ⟨w.heap.size, o, none⟩ := fun o => hS.cell (p := ⟨w.heap.size, o, none⟩) zV
        have p0 := (hcl 0).trans q0
        by_cases hlt : j < xs.length
        · obtain ⟨gp, y, rfl, hgp, _, hcy, _, HY⟩ := ho.at_ (j := j) (by rw [HPS.out]; exact hlt)
          obtain ⟨ad, s, rfl, _, hcs, HSz⟩ := (r2.below hS).get hlt
          have hyv : y = fPl al xs j := by rw [HY.out, fPs_get _ _ _ _ hlt]
          obtain ⟨e1, e2⟩ := fPl_end (al := al) HF.out j hlt
          have hs14 : 1 ≤ s ∧ s ≤ 4 := by rw [HSz.out]; rcases fs j hlt with e | e | e <;> omega
          rw [← hyv] at e1 e2
          rw [← HSz.out, HN.out] at e2
          obtain ⟨yn, rfl⟩ := Int.eq_ofNat_of_zero_le e1
          obtain ⟨sn, rfl⟩ := Int.eq_ofNat_of_zero_le (show 0 ≤ s by omega)
          have HT1 : Hid (total (xs.take (j + 1)) = total (xs.take j) + (sn : Int)) := by rw [(take_snoc' hlt HSz).out, total_snoc]; rfl
          have HA1 : Hid (fAt al xs (j + 1) = (yn : Int) + (sn : Int)) := by show fAt al xs (j + 1) = _; rw [fAt_succ, ← hyv, ← HSz.out]
          have htr2 : ∀ p : Nat, p < k → yn ≤ p → bs.getD p false = true := fun p hp hy => htr p hp (by have := (fPl_bd (al := al) fs j hlt).1; omega)
          have HTR := Lib.hid htr2
          have l1 : (j : Int) < (xs.length : Int) := by omega
          have l2 : (0 : Int) ≤ (j : Int) := by omega
          have HCT := Lib.hid hcT
          have HYV := Lib.hid hyv
          clear htr htr2 hcT hyv
          go_wp2_with fail
          go_loopw [39] (fun i wr' => ∃ (t : Nat) (bs' : List Bool), t ≤ sn ∧ i = .int .i64 t ∧ bs'.length = k ∧ (cT bs' : Int) + total (xs.take j) + (t : Int) = (k : Int) ∧ (∀ p : Nat, p < k → yn + t ≤ p → bs'.getD p false = true) ∧ Bb wr' G bs' ∧ Own wr' B3 (some ⟨gp, 0, none⟩) c3 (fPs al xs xs.length) ∧ Below G w2 wr') (fun i _ => sn - (intOf i).toNat)
          case atStart => exact ⟨0, bs, Nat.zero_le _, rfl, hlb, by have := HCT.out; omega, HTR.out, hb, ho, hS⟩
          case round =>
            clear hb ho hS hcl p0 hcy hcs
            obtain ⟨t, bs', ht, rfl, hlb', hcT', htr', hb', ho', hS'⟩ := hrel
            by_cases hlt' : t < sn
            · obtain ⟨b, hcb⟩ : ∃ b, wr.cell? ⟨G, yn + t, none⟩ = some (.bool b) := ⟨_, hb'.cell (j := yn + t) (by omega)⟩
              have hfz := Bx.frz hb' (yn + t)
              have HB := Lib.hid (hb'.set (yn + t) false)
              have HC := Lib.hid (cT_set (htr' (yn + t) (by omega) (Nat.le_refl _)))
              have HC' := Lib.hid hcT'
              have HTR' := Lib.hid htr'
              have u1 := IntWalk.i64_in ((yn : Int) + (t : Int)) (by omega)
              have i1 : (0 : Int) ≤ (yn : Int) + (t : Int) := by omega
              have i2 : (yn : Int) + (t : Int) < (k : Int) := by omega
              have i3 : ((yn : Int) + (t : Int)).toNat = yn + t := by omega
              clear hb' hcT' htr'
              go_wp2_with fail
              go_roundw
              case rel =>
                refine ⟨t + 1, bs'.set (yn + t) false, hlt', by go_num, by rw [List.length_set]; exact hlb', ?_, fun p hp hy => ?_, HB.out, ho'.setO zG _ _, hS'.setCell (Nat.le_refl _) _⟩
                · have h1 := HC.out; have h2 := HC'.out; omega
                · rw [getD_set_ne (by omega)]; exact HTR'.out p hp (by omega)
              case measure => simp [intOf]; omega
            · obtain rfl : t = sn := by omega
              have HC' := Lib.hid hcT'
              have HTR' := Lib.hid htr'
              clear hcT' htr'
              go_wp2_with fail
              go_roundw
              case rel =>
                refine ⟨j + 1, bs', hlt, by go_num, hlb', ?_, fun p hp hy => ?_, hb', ho', hS'⟩
                · rw [HT1.out]; have h2 := HC'.out; omega
                · rw [HA1.out] at hy; exact HTR'.out p hp (by omega)
              case measure => simp [intOf]; omega
        · obtain rfl : j = xs.length := by omega
          have HCT := Lib.hid hcT
          clear hcT htr ho
          have hzz : Below w.heap.size w wr := gW.trans (hS.mono (by omega))
          have HS := Lib.hid hS
          have HB := Lib.hid hb
          clear hS hb hcl
          go_wp2_with fail
          obtain ⟨W, hW⟩ : ∃ W, W = wr := ⟨_, rfl⟩
          have hWz : W.heap.size = wr.heap.size := by rw [hW]
          rw [← hW] at HB HS hzz zG2 ⊢
          clear hW hWz
          go_loopw [8, 52] (fun v i wr => ∃ (j m : Nat) (A4 : Option Addr) (c4 : Nat) (zs : List Int), j ≤ k ∧ i = .int .i64 j ∧ v = .slice A4 m c4 ∧ zs.length = m ∧ m = cT (bs.take j) ∧ Own wr W.heap.size A4 c4 zs ∧ Below W.heap.size W wr) (fun _ i _ => k - (intOf i).toNat)
          case atStart => exact ⟨0, 0, _, _, [], Nat.zero_le _, rfl, rfl, rfl, by simp [cT], Own.made rfl (Nat.le_refl _), (Below.refl _ _).al _⟩
          case round =>
            obtain ⟨j, m, A4, c4, zs, hj, rfl, rfl, hm, hmc, hown, hbl⟩ := hrel
            have hq := hbl.size
            by_cases hlt2 : j < k
            · have hbw : Bb wr G bs := Bx.below HB.out hbl zG2
              obtain ⟨b, hcb, hbv⟩ : ∃ b, wr.cell? ⟨G, j, none⟩ = some (.bool b) ∧ Hid (b = bs.getD j false) := ⟨_, hbw.cell (by omega), rfl⟩
              have HC := Lib.hid (cT_take (bs := bs) (k := j) (by omega))
              have HM := Lib.hid hmc
              have hm9 : m ≤ 40 := by
                have h1 : cT (bs.take j) ≤ (bs.take j).length := List.count_le_length
                rw [List.length_take] at h1
                omega
              have i1 : (j : Int) < (k : Int) := by omega
              clear hmc hbw
              rcases b with _ | _
              · go_wp2_with fail
                go_roundw
                case rel => exact ⟨j + 1, m, A4, c4, zs, hlt2, by go_num, rfl, hm, by rw [HC.out, ← hbv.out, HM.out]; simp, hown, hbl⟩
                case measure => simp [intOf]; omega
              · go_wp2_with (at_builtin; refine wpList_app1 _ rfl (.tmp 58) (.tmp 60) (by rfl) W.heap.size A4 c4 m zs (by rfl) hm (hown.alloc _) wr.heap.size 1 j (by rfl) (by simp) (by omega) (by simp; omega) ?_; intro A5 c5 w5 ho5 hb5 hg5)
                go_roundw
                case rel => exact ⟨j + 1, m + 1, A5, c5, zs ++ [(j : Int)], hlt2, by go_num, by simp, by simp [hm], by rw [HC.out, ← hbv.out, HM.out]; simp, ho5, (hbl.al _).trans hb5⟩
                case measure => simp [intOf]; omega
            · obtain rfl : j = k := by omega
              have HM := Lib.hid hmc
              clear hmc
              go_wp2_with fail
              go_ret
              refine ⟨A4, c4, m, rfl, ?_, hzz.step hbl⟩
              have h1 := HCT.out
              have h2 := HM.out
              rw [List.take_of_length_le (by omega)] at h2
              rw [List.take_of_length_le (Nat.le_refl _)] at h1
              rw [HN.out]
              omega
end Go.Proofs.Ytdhhdkncglhgfaa
