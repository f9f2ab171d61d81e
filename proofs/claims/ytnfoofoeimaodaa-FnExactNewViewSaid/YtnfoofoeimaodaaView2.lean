/- The walks over views: the cells of a view in order. -/
import Derived.Test.YtnfoofoeimaodaaView1
import Derived.Test.YtnfoofoeimaodaaStep
set_option linter.unusedVariables false
namespace Go.Proofs.Ytnfoofoeimaodaa
open Go.RowKit

theorem extP_prod {xs : List Int} {n : Nat} (hx : Ext xs) (hp : prod xs = (n : Int)) {k : Nat} (hk : k < n) : ExtP xs := extP_of hx (by omega)

set_option maxHeartbeats 3200000 in
theorem iOffsetsOf_any (b : Int) (A A' : Option Addr) (c c' : Nat) (xs ss : List Int) (n : Nat) (w : World) (h1 : Rd w w.heap.size .i64 A xs) (h2 : Rd w w.heap.size .i64 A' ss)
    (hb : 0 ≤ b) (hb' : b ≤ 60) (hx : Ext xs) (hs : StrL ss) (hl : ss.length = xs.length) (hp : prod xs = (n : Int)) (hn : n ≤ 1000) :
    Calls Try.prog 85 #[.agg #[.int .i64 b, .slice A xs.length c, .slice A' ss.length c']] w (RetInts w (offs b xs ss n)) := by
  have h4 := hx.1
  have HX := Lib.hid hx
  have HS := Lib.hid hs
  have HL := Lib.hid hl
  have HP := Lib.hid hp
  clear hx hs hl hp
  go_enter Try.func85, Try.ntmps85
  go_wp2_with fail
  refine (countOf_any _ _ _ _ _ ((h1.alloc (Nat.le_refl _) _).alloc (by simp) _) HX.out).mono ?_; rw [HP.out]; rintro e w0 ⟨rfl, rfl⟩
  go_wp2_with fail
  go_loopw [3, 4, 9] (fun v k4 i wr => ∃ (k : Nat) (A1 : Option Addr) (c1 : Nat), k ≤ n ∧ i = .int .i64 k ∧ v = .slice A1 k c1 ∧ Own wr (w.heap.size + 1) A1 c1 (offs b xs ss k) ∧ Below (w.heap.size + 1) (w.alloc (.cells #[.int .i64 b, .slice A xs.length c, .slice A' ss.length c'] 31)) wr) (fun _ _ i _ => n - (intOf i).toNat)
  case atStart => exact ⟨0, _, _, Nat.zero_le _, rfl, rfl, Own.made (by simp) (by simp), (by (repeat' (first | (with_reducible exact Below.refl _ _) | (with_reducible assumption) | (with_reducible refine Below.setCell ?_ ?_ _) | (with_reducible refine Below.al ?_ _) | (with_reducible refine Below.drew ?_) | (with_reducible refine Below.drN ?_ _) | (with_reducible refine Below.step ?_ (by assumption)) | (with_reducible refine Below.alloc ?_ ?_ _))); all_goals (simp; try omega))⟩
  case round =>
    obtain ⟨k, A1, c1, hk, rfl, rfl, hown, hbl⟩ := hrel
    have q0 := hbl.cell (p := ⟨w.heap.size, 0, none⟩) (by simp)
    have q1 := hbl.cell (p := ⟨w.heap.size, 1, none⟩) (by simp)
    have q2 := hbl.cell (p := ⟨w.heap.size, 2, none⟩) (by simp)
    have q3 := hbl.size
    simp at q0 q1 q2 q3
    have rx := ((h1.alloc (Nat.le_refl _) (.cells #[.int .i64 b, .slice A xs.length c, .slice A' ss.length c'] 31)).below (hbl.mono (by omega))).more (B' := wr.heap.size) (by omega)
    have rs := ((h2.alloc (Nat.le_refl _) (.cells #[.int .i64 b, .slice A xs.length c, .slice A' ss.length c'] 31)).below (hbl.mono (by omega))).more (B' := wr.heap.size) (by omega)
    obtain ⟨B, hB⟩ : ∃ B, B = w.heap.size + 1 := ⟨_, rfl⟩
    have HB := Lib.hid hB
    have gB : w.heap.size < B := by omega
    rw [← hB] at hown hbl q3 ⊢
    clear hB
    by_cases hlt : k < n
    · have HXP := Lib.hid (extP_prod HX.out HP.out hlt)
      have hk1 : (k : Int) ≤ 1000000 := by omega
      obtain ⟨y, hy⟩ : ∃ y, y = offK b xs ss k := ⟨_, rfl⟩
      have HY := Lib.hid hy
      have HO : Hid (off b (unL xs (k : Int) xs.length) ss (unL xs (k : Int) xs.length).length = y) := by show _ = _; rw [hy, offK, unL_length]
      have HLO := Lib.hid (offs_length b xs ss k)
      have HSU : Hid (offs b xs ss (k + 1) = offs b xs ss k ++ [y]) := by show _ = _; rw [offs_succ, hy]
      have HUL := Lib.hid (unL_length xs (k : Int) xs.length)
      clear hy
      go_wp2_with fail
      go_region_held3 (fun w' => Below B wr w' ∧ ∀ bb oo, bb < B → w'.cell? ⟨bb, oo, none⟩ = wr.cell? ⟨bb, oo, none⟩) ((refine keepBB ?_) <;> (repeat' (first | (with_reducible assumption) | (with_reducible exact Below.refl _ _) | (with_reducible refine Below.drew ?_) | (with_reducible refine Below.stepB ?_ (by assumption) (by assumption)) | (with_reducible refine Below.alB ?_ (by assumption) _) | (with_reducible refine Below.trans ?_ (by assumption)))))
        (first
          | (go_at_call 68; refine (indexAt_any _ _ _ _ _ rx.drew HXP.out (by omega) hk1).mono ?_; rintro e w1 ⟨A2, c2, rfl, ho2, hb2⟩; have o1 := hown.drew.below hb2 (Nat.le_refl _); have z1 := Nat.le_trans q3 hb2.size)
          | (go_at_call 92; refine (iOffsetAt_any _ _ _ _ _ _ _ _ _ _ _ (rs.drew.to hb2) ho2.rd hb hb' (unL_num xs _ HXP.out (by omega) _ (Nat.le_refl _)) HS.out (by rw [HUL.out, HL.out]) (by rw [HUL.out]; exact h4)).mono ?_; rw [HO.out]; rintro e w2 ⟨rfl, hb3⟩; have o2 := o1.below hb3 (Nat.le_refl _); have z2 := Nat.le_trans z1 hb3.size)
          | (refine stepApp1 (by rfl) (.tmp 12) (.tmp 19) (by rfl) B A1 c1 k (offs b xs ss k) (by rfl) HLO.out (o2.alloc _) w2.heap.size 1 y (by rfl) (by simp) (by omega) (by simp; omega) ?_; intro A3 c3 w3 o3 hb4)
          | fail)
      go_wp2_with fail
      go_roundw
      case rel => exact ⟨k + 1, A3, c3, hlt, by go_num, rfl, by rw [HSU.out]; exact o3, by refine hbl.trans ?_; (repeat' (first | (with_reducible assumption) | (with_reducible exact Below.refl _ _) | (with_reducible refine Below.drew ?_) | (with_reducible refine Below.stepB ?_ (by assumption) (by assumption)) | (with_reducible refine Below.alB ?_ (by assumption) _) | (with_reducible refine Below.trans ?_ (by assumption))))⟩
      case measure => simp [intOf]; omega
    · obtain rfl : k = n := by omega
      have HLN := Lib.hid (offs_length b xs ss k)
      go_wp2_with fail
      go_ret
      exact ⟨A1, c1, by rw [HLN.out]; rfl, hown.mono (by omega), ((Below.refl _ _).alloc (Nat.le_refl _) _).trans (hbl.mono (by omega))⟩
set_option maxHeartbeats 3200000 in
theorem sOffsets_any (b : Int) (A A' : Option Addr) (c c' : Nat) (xs ss : List Int) (n : Nat) (w : World) (h1 : Rd w w.heap.size .i64 A xs) (h2 : Rd w w.heap.size .i64 A' ss)
    (hb : 0 ≤ b) (hb' : b ≤ 60) (hx : Ext xs) (hs : StrL ss) (hl : ss.length = xs.length) (hp : prod xs = (n : Int)) (hn : n ≤ 1000) :
    Calls Try.prog 83 #[.agg #[.int .i64 b, .slice A xs.length c, .slice A' ss.length c']] w (RetInts w (offs b xs ss n)) := by
  have h4 := hx.1
  have HX := Lib.hid hx
  have HS := Lib.hid hs
  have HL := Lib.hid hl
  have HP := Lib.hid hp
  clear hx hs hl hp
  go_enter Try.func83, Try.ntmps83
  go_wp2_with fail
  go_loopw [3, 4] (fun v i wr => ∃ (k : Nat) (A1 : Option Addr) (c1 : Nat), k ≤ n ∧ i = .int .i64 k ∧ v = .slice A1 k c1 ∧ Own wr (w.heap.size + 1) A1 c1 (offs b xs ss k) ∧ Below (w.heap.size + 1) (w.alloc (.cells #[.int .i64 b, .slice A xs.length c, .slice A' ss.length c'] 31)) wr) (fun _ i _ => n - (intOf i).toNat)
  case atStart => exact ⟨0, _, _, Nat.zero_le _, rfl, rfl, Own.made (by simp) (by simp), (by (repeat' (first | (with_reducible exact Below.refl _ _) | (with_reducible assumption) | (with_reducible refine Below.setCell ?_ ?_ _) | (with_reducible refine Below.al ?_ _) | (with_reducible refine Below.drew ?_) | (with_reducible refine Below.drN ?_ _) | (with_reducible refine Below.step ?_ (by assumption)) | (with_reducible refine Below.alloc ?_ ?_ _))); all_goals (simp; try omega))⟩
  case round =>
    obtain ⟨k, A1, c1, hk, rfl, rfl, hown, hbl⟩ := hrel
    have q0 := hbl.cell (p := ⟨w.heap.size, 0, none⟩) (by simp)
    have q1 := hbl.cell (p := ⟨w.heap.size, 1, none⟩) (by simp)
    have q2 := hbl.cell (p := ⟨w.heap.size, 2, none⟩) (by simp)
    have q3 := hbl.size
    simp at q0 q1 q2 q3
    have rx := ((h1.alloc (Nat.le_refl _) (.cells #[.int .i64 b, .slice A xs.length c, .slice A' ss.length c'] 31)).below (hbl.mono (by omega))).more (B' := wr.heap.size) (by omega)
    have rs := ((h2.alloc (Nat.le_refl _) (.cells #[.int .i64 b, .slice A xs.length c, .slice A' ss.length c'] 31)).below (hbl.mono (by omega))).more (B' := wr.heap.size) (by omega)
    obtain ⟨B, hB⟩ : ∃ B, B = w.heap.size + 1 := ⟨_, rfl⟩
    have HB := Lib.hid hB
    have gB : w.heap.size < B := by omega
    rw [← hB] at hown hbl q3 ⊢
    clear hB
    by_cases hlt : k < n
    · have HXP := Lib.hid (extP_prod HX.out HP.out hlt)
      have hk1 : (k : Int) ≤ 1000000 := by omega
      obtain ⟨y, hy⟩ : ∃ y, y = offK b xs ss k := ⟨_, rfl⟩
      have HY := Lib.hid hy
      have HO : Hid (off b (unL xs (k : Int) xs.length) ss (unL xs (k : Int) xs.length).length = y) := by show _ = _; rw [hy, offK, unL_length]
      have HLO := Lib.hid (offs_length b xs ss k)
      have HSU : Hid (offs b xs ss (k + 1) = offs b xs ss k ++ [y]) := by show _ = _; rw [offs_succ, hy]
      have HUL := Lib.hid (unL_length xs (k : Int) xs.length)
      clear hy
      go_wp2_with fail
      refine (count_any _ _ _ _ _ rx HX.out).mono ?_; rw [HP.out]; rintro e w0 ⟨rfl, rfl⟩
      go_wp2_with fail
      go_region_held3 (fun w' => Below B wr w' ∧ ∀ bb oo, bb < B → w'.cell? ⟨bb, oo, none⟩ = wr.cell? ⟨bb, oo, none⟩) ((refine keepBB ?_) <;> (repeat' (first | (with_reducible assumption) | (with_reducible exact Below.refl _ _) | (with_reducible refine Below.drew ?_) | (with_reducible refine Below.stepB ?_ (by assumption) (by assumption)) | (with_reducible refine Below.alB ?_ (by assumption) _) | (with_reducible refine Below.trans ?_ (by assumption)))))
        (first
          | (go_at_call 67; refine (unrank_any _ _ _ _ _ rx.drew HXP.out (by omega) hk1).mono ?_; rintro e w1 ⟨A2, c2, rfl, ho2, hb2⟩; have o1 := hown.drew.below hb2 (Nat.le_refl _); have z1 := Nat.le_trans q3 hb2.size)
          | (go_at_call 90; refine (sOffset_any _ _ _ _ _ _ _ _ _ _ _ (rs.drew.to hb2) ho2.rd hb hb' (unL_num xs _ HXP.out (by omega) _ (Nat.le_refl _)) HS.out (by rw [HUL.out, HL.out]) (by rw [HUL.out]; exact h4)).mono ?_; rw [HO.out]; rintro e w2 ⟨rfl, hb3⟩; have o2 := o1.below hb3 (Nat.le_refl _); have z2 := Nat.le_trans z1 hb3.size)
          | (refine stepApp1 (by rfl) (.tmp 13) (.tmp 20) (by rfl) B A1 c1 k (offs b xs ss k) (by rfl) HLO.out (o2.alloc _) w2.heap.size 1 y (by rfl) (by simp) (by omega) (by simp; omega) ?_; intro A3 c3 w3 o3 hb4)
          | fail)
      go_wp2_with fail
      go_roundw
      case rel => exact ⟨k + 1, A3, c3, hlt, by go_num, rfl, by rw [HSU.out]; exact o3, by refine hbl.trans ?_; (repeat' (first | (with_reducible assumption) | (with_reducible exact Below.refl _ _) | (with_reducible refine Below.drew ?_) | (with_reducible refine Below.stepB ?_ (by assumption) (by assumption)) | (with_reducible refine Below.alB ?_ (by assumption) _) | (with_reducible refine Below.trans ?_ (by assumption))))⟩
      case measure => simp [intOf]; omega
    · obtain rfl : k = n := by omega
      have HLN := Lib.hid (offs_length b xs ss k)
      go_wp2_with fail
      refine (count_any _ _ _ _ _ rx HX.out).mono ?_; rw [HP.out]; rintro e w0 ⟨rfl, rfl⟩
      go_wp2_with fail
      go_ret
      exact ⟨A1, c1, by rw [HLN.out]; rfl, hown.mono (by omega), ((Below.refl _ _).alloc (Nat.le_refl _) _).trans (hbl.mono (by omega))⟩
end Go.Proofs.Ytnfoofoeimaodaa
