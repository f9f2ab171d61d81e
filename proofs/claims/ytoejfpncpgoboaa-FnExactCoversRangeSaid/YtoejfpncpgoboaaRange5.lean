/- The walks over ranges, further: what a range covers. -/
import Derived.Test.YtoejfpncpgoboaaRange3
import Derived.Test.YtoejfpncpgoboaaAllIn
import Derived.Deep.RegionHeld3
import Derived.Deep.RegionWith
set_option linter.unusedVariables false
namespace Go.Proofs.Ytoejfpncpgoboaa
open Go.RowKit

def hasB (ys : List Int) (x : Int) : Bool := ys.any (isX x)
def lacksB (ys : List Int) (x : Int) : Bool := !ys.any (isX x)
def cvB (a b c d e f : Int) : Bool := rangeB a b c && (rangeB d e f && !(nums d e f).any (lacksB (nums a b c)))
theorem common_len (xs ys : List Int) : decide ((xs.filter (hasB ys)).length = xs.length) = !xs.any (lacksB ys) := by
  rw [Bool.eq_iff_iff]
  simp only [decide_eq_true_eq, List.length_filter_eq_length_iff, Bool.not_eq_true', List.any_eq_false, lacksB, hasB]
  constructor
  · intro h x hx; simpa using h x hx
  · intro h x hx; have := h x hx; simpa using this
theorem filter_snoc (p : Int → Bool) (xs : List Int) (k : Nat) (y : Int) (hk : k < xs.length) (hy : Hid (y = xs.getD k 0)) : Hid ((xs.take (k + 1)).filter p = (xs.take k).filter p ++ (if p y = true then [y] else [])) := by
  show _ = _
  rw [(take_snoc' hk hy).out, List.filter_append]
  congr 1
  by_cases h : p y = true <;> simp [h]
theorem filter_le (p : Int → Bool) (xs : List Int) (k : Nat) : ((xs.take k).filter p).length ≤ k := Nat.le_trans (List.length_filter_le _ _) (List.length_take_le _ _)

set_option maxHeartbeats 1600000 in
theorem common_any (A A' : Option Addr) (c c' : Nat) (xs ys : List Int) (w : World) (hr : Rd w w.heap.size .i64 A xs) (hr' : Rd w w.heap.size .i64 A' ys) (hl : xs.length ≤ 2000000000) (hl' : ys.length ≤ maxLen) :
    Calls Try.prog 50 #[.slice A xs.length c, .slice A' ys.length c'] w (RetInts w (xs.filter (hasB ys))) := by
  go_enter Try.func50, Try.ntmps50
  go_wp2
  go_loopw [5, 6] (fun v i wr => ∃ (k m : Nat) (A1 : Option Addr) (c1 : Nat), k ≤ xs.length ∧ m ≤ k ∧ i = .int .i64 k ∧ v = .slice A1 m c1 ∧ ((xs.take k).filter (hasB ys)).length = m ∧ Own wr w.heap.size A1 c1 ((xs.take k).filter (hasB ys)) ∧ Below w.heap.size w wr) (fun _ i _ => xs.length - (intOf i).toNat)
  case atStart => exact ⟨0, 0, _, _, Nat.zero_le _, Nat.le_refl _, rfl, rfl, rfl, Own.made (by simp) (Nat.le_refl _), (by (repeat' (first | (with_reducible exact Below.refl _ _) | (with_reducible assumption) | (with_reducible refine Below.setCell ?_ ?_ _) | (with_reducible refine Below.al ?_ _) | (with_reducible refine Below.drew ?_) | (with_reducible refine Below.drN ?_ _) | (with_reducible refine Below.step ?_ (by assumption)) | (with_reducible refine Below.alloc ?_ ?_ _))); all_goals (simp; try omega))⟩
  case round =>
    obtain ⟨k, m, A1, c1, hk, hm, rfl, rfl, hfl, hown, hbl⟩ := hrel
    have hq := hbl.size
    have HFL := Lib.hid hfl
    clear hfl
    by_cases hlt : k < xs.length
    · obtain ⟨ad, y, rfl, _, hcell, HY⟩ := (hr.below hbl).get hlt
      have HS := filter_snoc (hasB ys) xs k y hlt HY
      have HA := Lib.hid (findI_any (isX y) ys)
      rcases hp : hasB ys y with _ | _
      · have hd : decide (0 ≤ findI (isX y) ys) = false := by rw [HA.out]; exact hp
        have HS2 : Hid ((xs.take (k + 1)).filter (hasB ys) = (xs.take k).filter (hasB ys)) := by show _ = _; rw [HS.out, hp]; simp
        have hlt2 : findI (isX y) ys < 0 := by simpa using hd
        clear hd hp
        go_wp2_with (go_at_call 48; refine (placeIn_any _ _ _ _ _ _ (hr'.below hbl) hl').mono ?_; rintro e w1 ⟨rfl, rfl⟩)
        go_roundw
        case rel => exact ⟨k + 1, m, A1, c1, hlt, by omega, by go_num, rfl, by rw [HS2.out]; exact HFL.out, by rw [HS2.out]; exact hown, hbl⟩
        case measure => simp [intOf]; omega
      · have hd : decide (0 ≤ findI (isX y) ys) = true := by rw [HA.out]; exact hp
        have HS2 : Hid ((xs.take (k + 1)).filter (hasB ys) = (xs.take k).filter (hasB ys) ++ [y]) := by show _ = _; rw [HS.out, hp]; simp
        have hlt2 : 0 ≤ findI (isX y) ys := by simpa using hd
        clear hd hp
        go_wp2_with (first
          | (go_at_call 48; refine (placeIn_any _ _ _ _ _ _ (hr'.below hbl) hl').mono ?_; rintro e w1 ⟨rfl, rfl⟩)
          | (at_builtin; refine wpList_app1 _ rfl (.tmp 21) (.tmp 26) (by rfl) w.heap.size A1 c1 m ((xs.take k).filter (hasB ys)) (by rfl) HFL.out (hown.alloc _) wr.heap.size 1 y (by rfl) (by simp) (by omega) (by simp; omega) ?_; intro A2 c2 w1 hown1 hb1 _))
        go_roundw
        case rel => exact ⟨k + 1, m + 1, A2, c2, hlt, by omega, by go_num, rfl, by rw [HS2.out, List.length_append, HFL.out]; rfl, by rw [HS2.out]; exact hown1, (hbl.al _).trans hb1⟩
        case measure => simp [intOf]; omega
    · obtain rfl : k = xs.length := by omega
      have HT := Lib.hid (List.take_of_length_le (Nat.le_refl xs.length))
      rw [HT.out] at hown HFL
      go_wp2
      go_ret
      exact ⟨A1, c1, by rw [HFL.out]; rfl, hown, hbl⟩

set_option maxHeartbeats 400000 in
theorem contains_any (A : Option Addr) (c B : Nat) (xs : List Int) (x : Int) (w : World) (hr : Rd w B .i64 A xs) (hl : xs.length ≤ maxLen) :
    Calls Try.prog 53 #[.slice A xs.length c, .int .i64 x] w fun e w' => e = .returned (.bool (hasB xs x)) ∧ w = w' := by
  have HA := Lib.hid (findI_any (isX x) xs)
  go_enter Try.func53, Try.ntmps53
  go_wp2_with (go_at_call 49; refine (index_any _ _ _ _ _ _ hr hl).mono ?_; rintro e w1 ⟨rfl, rfl⟩)
  go_ret
  exact ⟨ret_bool (by rw [HA.out]; rfl), rfl⟩

set_option maxHeartbeats 400000 in
theorem covers_fn (x : Int) (g : Nat) (A : Option Addr) (c : Nat) (ys : List Int) (w : World) (hg : w.cell? ⟨g, 0, none⟩ = some (.slice A ys.length c)) (hr : Rd w w.heap.size .i64 A ys) (hl : ys.length ≤ maxLen) :
    Calls Try.prog 52 #[.int .i64 x, .pointer (some ⟨g, 0, none⟩)] w fun e w' => e = .returned (.bool (lacksB ys x)) ∧ w = w' := by
  go_enter Try.func52, Try.ntmps52
  go_wp2_with (go_at_call 53; refine (contains_any _ _ _ _ _ _ hr hl).mono ?_; rintro e w1 ⟨rfl, rfl⟩)
  go_ret
  exact ⟨rfl, rfl⟩

set_option maxHeartbeats 800000 in
theorem covers_idx (A A' : Option Addr) (c c' g : Nat) (xs ys : List Int) (w : World) (hr : Rd w w.heap.size .i64 A xs) (hl : xs.length ≤ maxLen)
    (hg : w.cell? ⟨g, 0, none⟩ = some (.slice A' ys.length c')) (hr' : Rd w w.heap.size .i64 A' ys) (hl' : ys.length ≤ maxLen) :
    Calls Try.prog 65 #[.slice A xs.length c, .func (.func 52) #[] #[.pointer (some ⟨g, 0, none⟩)]] w fun e w' => e = .returned (.int .i64 (findI (lacksB ys) xs)) ∧ w = w' := by
  unfold maxLen at hl
  go_enter Try.func65, Try.ntmps65
  go_wp2
  go_loop [8] (fun i => ∃ k : Nat, k ≤ xs.length ∧ i = .int .i64 k ∧ Before (lacksB ys) xs k) (fun i => xs.length - (intOf i).toNat)
  case atStart => exact ⟨0, Nat.zero_le _, rfl, fun j hj => absurd hj (by omega)⟩
  case round =>
    obtain ⟨k, hk, rfl, hbf⟩ := hrel
    by_cases hlt : k < xs.length
    · obtain ⟨ad, y, rfl, _, hcell, HY⟩ := hr.get hlt
      have HB := Lib.hid hbf
      clear hbf
      rcases hp : lacksB ys y with _ | _
      · go_wp2_with (go_at_call 52; refine (covers_fn _ _ _ _ _ _ hg hr' hl').mono ?_; rintro e w1 ⟨rfl, rfl⟩)
        have HP := Lib.hid hp
        go_round
        case rel => exact ⟨k + 1, hlt, by go_num, HB.out.succ HY HP.out⟩
        case measure => simp [intOf]; omega
      · have HR := Lib.hid (findI_hit hlt HY HB.out hp)
        go_wp2_with (go_at_call 52; refine (covers_fn _ _ _ _ _ _ hg hr' hl').mono ?_; rintro e w1 ⟨rfl, rfl⟩)
        go_ret
        exact ⟨ret_int (by rw [HR.out]), rfl⟩
    · obtain rfl : k = xs.length := by omega
      have HR := Lib.hid (findI_miss hbf)
      clear hbf
      go_wp2
      go_ret
      exact ⟨ret_int (by rw [HR.out]), rfl⟩

set_option maxHeartbeats 400000 in
theorem covers_has (A A' : Option Addr) (c c' g : Nat) (xs ys : List Int) (w : World) (hr : Rd w w.heap.size .i64 A xs) (hl : xs.length ≤ maxLen)
    (hg : w.cell? ⟨g, 0, none⟩ = some (.slice A' ys.length c')) (hr' : Rd w w.heap.size .i64 A' ys) (hl' : ys.length ≤ maxLen) :
    Calls Try.prog 51 #[.slice A xs.length c, .func (.func 52) #[] #[.pointer (some ⟨g, 0, none⟩)]] w fun e w' => e = .returned (.bool (xs.any (lacksB ys))) ∧ w = w' := by
  have HA := Lib.hid (findI_any (lacksB ys) xs)
  go_enter Try.func51, Try.ntmps51
  go_wp2_with (go_at_call 65; refine (covers_idx _ _ _ _ _ _ _ _ hr hl hg hr' hl').mono ?_; rintro e w1 ⟨rfl, rfl⟩)
  go_ret
  exact ⟨ret_bool (by rw [HA.out]), rfl⟩

set_option maxHeartbeats 800000 in
theorem iCoversRange_any (a b c d e f : Int) (w : World) : Calls Try.prog 24 #[.agg #[.int .i64 a, .int .i64 b, .int .i64 c], .agg #[.int .i64 d, .int .i64 e, .int .i64 f]] w (Ret w (.bool (cvB a b c d e f))) := by
  have hmf : ∀ (fn : Fn) (first cap : Array Value) (w : World), (Instr.makeFunc fn first cap).run Try.prog w = .ok (.func fn first cap) w := fun _ _ _ _ => rfl
  rcases h1 : rangeB a b c with _ | _
  · have HR := Lib.hid (show cvB a b c d e f = false by simp [cvB, h1])
    go_enter Try.func24, Try.ntmps24
    go_wp2_with fail
    refine (isRange_any _ _ _ _).mono ?_; rintro e w1 ⟨rfl, hb1⟩
    rw [h1]
    go_wp2_with fail
    go_ret
    exact ⟨ret_bool (by rw [HR.out]), (by (repeat' (first | (with_reducible exact Below.refl _ _) | (with_reducible assumption) | (with_reducible refine Below.setCell ?_ ?_ _) | (with_reducible refine Below.al ?_ _) | (with_reducible refine Below.drew ?_) | (with_reducible refine Below.drN ?_ _) | (with_reducible refine Below.step ?_ (by assumption)) | (with_reducible refine Below.alloc ?_ ?_ _))); all_goals (simp; try omega))⟩
  · rcases h2 : rangeB d e f with _ | _
    · have HR := Lib.hid (show cvB a b c d e f = false by simp [cvB, h2])
      go_enter Try.func24, Try.ntmps24
      go_wp2_with fail
      refine (isRange_any _ _ _ _).mono ?_; rintro e w1 ⟨rfl, hb1⟩; have hc1 := bcel hb1
      rw [h1]
      go_wp2_with fail
      refine (isRange_any _ _ _ _).mono ?_; rintro e w2 ⟨rfl, hb2⟩
      rw [h2]
      go_wp2_with fail
      go_ret
      exact ⟨ret_bool (by rw [HR.out]), (by (repeat' (first | (with_reducible exact Below.refl _ _) | (with_reducible assumption) | (with_reducible refine Below.setCell ?_ ?_ _) | (with_reducible refine Below.al ?_ _) | (with_reducible refine Below.drew ?_) | (with_reducible refine Below.drN ?_ _) | (with_reducible refine Below.step ?_ (by assumption)) | (with_reducible refine Below.alloc ?_ ?_ _))); all_goals (simp; try omega))⟩
    · have HR := Lib.hid (show cvB a b c d e f = !(nums d e f).any (lacksB (nums a b c)) by simp [cvB, h1, h2])
      have hs1 := small_of h1
      have hs2 := small_of h2
      have hl1 : (nums a b c).length ≤ maxLen := by rw [nums_length]; have := cnt_le a b c hs1; simp only [maxLen]; omega
      have hl2 : (nums d e f).length ≤ maxLen := by rw [nums_length]; have := cnt_le d e f hs2; simp only [maxLen]; omega
      go_enter Try.func24, Try.ntmps24
      go_wp2_with fail
      refine (isRange_any _ _ _ _).mono ?_; rintro e w1 ⟨rfl, hb1⟩; have hc1 := bcel hb1
      rw [h1]
      go_wp2_with fail
      refine (isRange_any _ _ _ _).mono ?_; rintro e w2 ⟨rfl, hb2⟩; have g2 := hb1.step hb2
      rw [h2]
      clear hc1
      have hc2 := bcel g2
      go_wp2_with fail
      refine (numbersOf_any _ _ _ hs1 _).mono ?_; rintro e w3 ⟨A3, c3, rfl, ho3, hb3⟩; have g3 := g2.step hb3
      clear hc2
      have hc3 := bcel g3
      have hz3 : w.heap.size + 1 < w3.heap.size := by have := g3.size; simp at this; omega
      have hz3' : w.heap.size < w3.heap.size := by omega
      go_wp2_with fail
      refine (numbersOf_any _ _ _ hs2 _).mono ?_; rintro e w4 ⟨A4, c4, rfl, ho4, hb4⟩
      have g4 := g3.step ((Below.refl w3.heap.size w3).al (.cells #[.slice A3 (nums a b c).length c3] 30) |>.step hb4)
      have hg : w4.cell? ⟨w3.heap.size, 0, none⟩ = some (.slice A3 (nums a b c).length c3) := by
        rw [hb4.cell (p := ⟨w3.heap.size, 0, none⟩) (by simp), World.cell?_alloc_at _ _ _ _ rfl]; rfl
      have r3 := (ho3.rd.to ((Below.refl w3.heap.size w3).al (.cells #[.slice A3 (nums a b c).length c3] 30) |>.step hb4))
      go_wp2_with fail
      refine (covers_has _ _ _ _ _ _ _ _ ho4.rd hl2 hg r3 hl1).mono ?_; rintro e w5 ⟨rfl, rfl⟩
      go_wp2_with fail
      go_ret
      exact ⟨ret_bool (by rw [HR.out]), (by (repeat' (first | (with_reducible exact Below.refl _ _) | (with_reducible assumption) | (with_reducible refine Below.setCell ?_ ?_ _) | (with_reducible refine Below.al ?_ _) | (with_reducible refine Below.drew ?_) | (with_reducible refine Below.drN ?_ _) | (with_reducible refine Below.step ?_ (by assumption)) | (with_reducible refine Below.alloc ?_ ?_ _))); all_goals (simp; try omega))⟩


end Go.Proofs.Ytoejfpncpgoboaa
