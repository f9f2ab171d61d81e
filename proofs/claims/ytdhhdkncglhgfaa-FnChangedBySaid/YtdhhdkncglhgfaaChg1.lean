/- The walks over memories, further: the cells with different values. -/
import Derived.Test.YtdhhdkncglhgfaaMem
import Derived.Test.YtdhhdkncglhgfaaLists
set_option linter.unusedVariables false
namespace Go.Proofs.Ytdhhdkncglhgfaa
open Go.RowKit
/-- The first k places at which two lists differ. -/
def chL (xs ys : List Int) : Nat → List Int
  | 0 => []
  | k + 1 => if xs.getD k 0 = ys.getD k 0 then chL xs ys k else chL xs ys k ++ [(k : Int)]
theorem chL_le (xs ys : List Int) (k : Nat) : (chL xs ys k).length ≤ k := by
  induction k with
  | zero => simp [chL]
  | succ k ih => rw [chL]; split <;> (try simp) <;> omega
def chOk (xs ys : List Int) : Bool := memB xs && (memB ys && decide (xs.length = ys.length))
def chg (xs ys : List Int) : List Int := if chOk xs ys = true then chL xs ys xs.length else []
theorem memB_len {xs : List Int} (h : memB xs = true) : xs.length ≤ 60 := by simp [memB] at h; exact h.1
theorem chg_le (xs ys : List Int) : (chg xs ys).length ≤ 60 := by
  unfold chg
  split
  · rename_i h
    simp only [chOk, Bool.and_eq_true] at h
    have := memB_len h.1
    have := chL_le xs ys xs.length
    omega
  · simp
theorem cellNew (w : World) (n : Nat) (y : Int) (T : TypeId) : ((w.drewN n).alloc (.cells #[.int .i64 y] T)).cell? ⟨w.heap.size, 0, none⟩ = some (.int .i64 y) := by
  exact World.cell?_alloc_at (w := w.drewN n) #[Value.int .i64 y] T w.heap.size 0 rfl
set_option maxHeartbeats 3200000 in
theorem iChangedBy_any (A A' : Option Addr) (c c' : Nat) (xs ys : List Int) (w : World) (hr : Rd w w.heap.size .i64 A xs) (hr' : Rd w w.heap.size .i64 A' ys) (hl : xs.length ≤ maxLen) (hl' : ys.length ≤ maxLen) :
    Calls Try.prog 42 #[.slice A xs.length c, .slice A' ys.length c'] w (RetInts w (chg xs ys)) := by
  rcases h1 : memB xs with _ | _
  · have HR := Lib.hid (show chg xs ys = [] by simp [chg, chOk, h1])
    rw [HR.out]
    go_enter Try.func42, Try.ntmps42
    go_wp2_with fail
    refine (isMem_any _ _ _ _ hr hl).mono ?_; rw [h1]; rintro e w1 ⟨rfl, hb1⟩
    go_wp2_with fail
    (go_ret; exact ⟨none, 0, rfl, Own.nil _ _, (by (repeat' (first | (with_reducible exact Below.refl _ _) | (with_reducible assumption) | (with_reducible refine Below.setCell ?_ ?_ _) | (with_reducible refine Below.al ?_ _) | (with_reducible refine Below.drew ?_) | (with_reducible refine Below.drN ?_ _) | (with_reducible refine Below.step ?_ (by assumption)) | (with_reducible refine Below.alloc ?_ ?_ _))); all_goals (simp; try omega))⟩)
  have x60 := memB_len h1
  rcases h2 : memB ys with _ | _
  · have HR := Lib.hid (show chg xs ys = [] by simp [chg, chOk, h2])
    rw [HR.out]
    go_enter Try.func42, Try.ntmps42
    go_wp2_with fail
    refine (isMem_any _ _ _ _ hr hl).mono ?_; rw [h1]; rintro e w1 ⟨rfl, hb1⟩
    go_wp2_with fail
    refine (isMem_any _ _ _ _ (hr'.to hb1) hl').mono ?_; rw [h2]; rintro e w2 ⟨rfl, hb2⟩
    go_wp2_with fail
    (go_ret; exact ⟨none, 0, rfl, Own.nil _ _, (by (repeat' (first | (with_reducible exact Below.refl _ _) | (with_reducible assumption) | (with_reducible refine Below.setCell ?_ ?_ _) | (with_reducible refine Below.al ?_ _) | (with_reducible refine Below.drew ?_) | (with_reducible refine Below.drN ?_ _) | (with_reducible refine Below.step ?_ (by assumption)) | (with_reducible refine Below.alloc ?_ ?_ _))); all_goals (simp; try omega))⟩)
  have y60 := memB_len h2
  by_cases hle : xs.length = ys.length
  case neg =>
    have HR := Lib.hid (show chg xs ys = [] by simp [chg, chOk, hle])
    have hne : ((xs.length : Int) != (ys.length : Int)) = true := by simp; omega
    rw [HR.out]
    go_enter Try.func42, Try.ntmps42
    go_wp2_with fail
    refine (isMem_any _ _ _ _ hr hl).mono ?_; rw [h1]; rintro e w1 ⟨rfl, hb1⟩
    go_wp2_with fail
    refine (isMem_any _ _ _ _ (hr'.to hb1) hl').mono ?_; rw [h2]; rintro e w2 ⟨rfl, hb2⟩
    go_wp2_with fail
    (go_ret; exact ⟨none, 0, rfl, Own.nil _ _, (by (repeat' (first | (with_reducible exact Below.refl _ _) | (with_reducible assumption) | (with_reducible refine Below.setCell ?_ ?_ _) | (with_reducible refine Below.al ?_ _) | (with_reducible refine Below.drew ?_) | (with_reducible refine Below.drN ?_ _) | (with_reducible refine Below.step ?_ (by assumption)) | (with_reducible refine Below.alloc ?_ ?_ _))); all_goals (simp; try omega))⟩)
  have HL := Lib.hid hle
  have HR := Lib.hid (show chg xs ys = chL xs ys xs.length by simp [chg, chOk, h1, h2, hle])
  rw [HR.out]
  have hl2 := hl'
  rw [← hle]
  clear hle
  go_enter Try.func42, Try.ntmps42
  go_wp2_with fail
  refine (isMem_any _ _ _ _ hr hl).mono ?_; rw [h1]; rintro e w1 ⟨rfl, hb1⟩
  go_wp2_with fail
  have e1 : Value.slice A' xs.length c' = Value.slice A' ys.length c' := by rw [HL.out]
  rw [e1]
  refine (isMem_any _ _ _ _ (hr'.to hb1) hl').mono ?_; rw [h2, ← e1]; rintro e w2 ⟨rfl, hb2⟩
  clear e1 h1 h2
  have g2 := hb1.step hb2
  have z2 := g2.size
  go_wp2_with fail
  go_loopw [5,25] (fun v i wr => ∃ (k m : Nat) (A1 : Option Addr) (c1 : Nat), k ≤ xs.length ∧ m ≤ k ∧ i = .int .i64 k ∧ v = .slice A1 m c1 ∧ (chL xs ys k).length = m ∧ Own wr w.heap.size A1 c1 (chL xs ys k) ∧ Below w.heap.size w wr) (fun _ i _ => xs.length - (intOf i).toNat)
  case atStart => exact ⟨0, 0, _, _, Nat.zero_le _, Nat.le_refl _, rfl, rfl, rfl, Own.made rfl z2, g2.al _⟩
  case round =>
    obtain ⟨k, m, A1, c1, hk, hm, rfl, rfl, hlen, hown, hbl⟩ := hrel
    have HLN := Lib.hid hlen
    have q3 := hbl.size
    clear hlen
    by_cases hlt : k < xs.length
    · obtain ⟨ad, y, rfl, _, hcell, HY⟩ := (hr.below hbl).get hlt
      obtain ⟨ad', z, rfl, _, hcell', HZ⟩ := (hr'.below hbl).get (j := k) (by rw [← HL.out]; exact hlt)
      have i0 : (0 : Int) ≤ (k : Int) := by omega
      have i1 : (k : Int) < (xs.length : Int) := by omega
      by_cases hyz : y = z
      · have HC : Hid (chL xs ys (k + 1) = chL xs ys k) := by show _ = _; rw [chL, if_pos (by rw [← HY.out, ← HZ.out]; exact hyz)]
        subst hyz
        go_wp2_with fail
        go_quiet (fail)
        go_wp2_with fail
        go_roundw
        case rel => exact ⟨k + 1, m, A1, c1, hlt, by omega, by go_num, rfl, by rw [HC.out]; exact HLN.out, by rw [HC.out]; exact hown.drewN _, hbl.drN _⟩
        case measure => simp [intOf]; omega
      · have HC : Hid (chL xs ys (k + 1) = chL xs ys k ++ [(k : Int)]) := by show _ = _; rw [chL, if_neg (by rw [← HY.out, ← HZ.out]; exact hyz)]
        have hne : (y != z) = true := by simp; exact hyz
        clear hyz
        go_wp2_with fail
        go_quiet (fail)
        go_wp2_with (at_builtin; refine wpList_app1 _ rfl (.tmp 37) (.tmp 39) (by rfl) w.heap.size A1 c1 m (chL xs ys k) (by rfl) HLN.out ((hown.drewN _).alloc _) wr.heap.size 1 (k : Int) (by rfl) (cellNew _ _ _ _) (by omega) (by simp; omega) ?_; intro A2 c2 w3 hown3 hb3 _)
        go_roundw
        case rel => exact ⟨k + 1, m + 1, A2, c2, hlt, by omega, by go_num, rfl, by rw [HC.out, List.length_append, HLN.out]; rfl, by rw [HC.out]; exact hown3, ((hbl.drN _).al _).trans hb3⟩
        case measure => simp [intOf]; omega
    · obtain rfl : k = xs.length := by omega
      go_wp2_with fail
      go_ret
      exact ⟨A1, c1, by rw [HLN.out]; rfl, hown, hbl⟩
set_option maxHeartbeats 3200000 in
theorem sChangedBy_any (A A' : Option Addr) (c c' : Nat) (xs ys : List Int) (w : World) (hr : Rd w w.heap.size .i64 A xs) (hr' : Rd w w.heap.size .i64 A' ys) (hl : xs.length ≤ maxLen) (hl' : ys.length ≤ maxLen) :
    Calls Try.prog 43 #[.slice A xs.length c, .slice A' ys.length c'] w (RetInts w (chg xs ys)) := by
  rcases h1 : memB xs with _ | _
  · have HR := Lib.hid (show chg xs ys = [] by simp [chg, chOk, h1])
    rw [HR.out]
    go_enter Try.func43, Try.ntmps43
    go_wp2_with fail
    refine (validMem_any _ _ _ _ hr hl).mono ?_; rw [h1]; rintro e w1 ⟨rfl, hb1⟩
    go_wp2_with fail
    (go_ret; exact ⟨none, 0, rfl, Own.nil _ _, (by (repeat' (first | (with_reducible exact Below.refl _ _) | (with_reducible assumption) | (with_reducible refine Below.setCell ?_ ?_ _) | (with_reducible refine Below.al ?_ _) | (with_reducible refine Below.drew ?_) | (with_reducible refine Below.drN ?_ _) | (with_reducible refine Below.step ?_ (by assumption)) | (with_reducible refine Below.alloc ?_ ?_ _))); all_goals (simp; try omega))⟩)
  have x60 := memB_len h1
  rcases h2 : memB ys with _ | _
  · have HR := Lib.hid (show chg xs ys = [] by simp [chg, chOk, h2])
    rw [HR.out]
    go_enter Try.func43, Try.ntmps43
    go_wp2_with fail
    refine (validMem_any _ _ _ _ hr hl).mono ?_; rw [h1]; rintro e w1 ⟨rfl, hb1⟩
    go_wp2_with fail
    refine (validMem_any _ _ _ _ (hr'.to hb1) hl').mono ?_; rw [h2]; rintro e w2 ⟨rfl, hb2⟩
    go_wp2_with fail
    (go_ret; exact ⟨none, 0, rfl, Own.nil _ _, (by (repeat' (first | (with_reducible exact Below.refl _ _) | (with_reducible assumption) | (with_reducible refine Below.setCell ?_ ?_ _) | (with_reducible refine Below.al ?_ _) | (with_reducible refine Below.drew ?_) | (with_reducible refine Below.drN ?_ _) | (with_reducible refine Below.step ?_ (by assumption)) | (with_reducible refine Below.alloc ?_ ?_ _))); all_goals (simp; try omega))⟩)
  have y60 := memB_len h2
  by_cases hle : xs.length = ys.length
  case neg =>
    have HR := Lib.hid (show chg xs ys = [] by simp [chg, chOk, hle])
    have hne : ((xs.length : Int) != (ys.length : Int)) = true := by simp; omega
    rw [HR.out]
    go_enter Try.func43, Try.ntmps43
    go_wp2_with fail
    refine (validMem_any _ _ _ _ hr hl).mono ?_; rw [h1]; rintro e w1 ⟨rfl, hb1⟩
    go_wp2_with fail
    refine (validMem_any _ _ _ _ (hr'.to hb1) hl').mono ?_; rw [h2]; rintro e w2 ⟨rfl, hb2⟩
    go_wp2_with fail
    (go_ret; exact ⟨none, 0, rfl, Own.nil _ _, (by (repeat' (first | (with_reducible exact Below.refl _ _) | (with_reducible assumption) | (with_reducible refine Below.setCell ?_ ?_ _) | (with_reducible refine Below.al ?_ _) | (with_reducible refine Below.drew ?_) | (with_reducible refine Below.drN ?_ _) | (with_reducible refine Below.step ?_ (by assumption)) | (with_reducible refine Below.alloc ?_ ?_ _))); all_goals (simp; try omega))⟩)
  have HL := Lib.hid hle
  have HR := Lib.hid (show chg xs ys = chL xs ys xs.length by simp [chg, chOk, h1, h2, hle])
  rw [HR.out]
  have hl2 := hl'
  rw [← hle]
  clear hle
  go_enter Try.func43, Try.ntmps43
  go_wp2_with fail
  refine (validMem_any _ _ _ _ hr hl).mono ?_; rw [h1]; rintro e w1 ⟨rfl, hb1⟩
  go_wp2_with fail
  have e1 : Value.slice A' xs.length c' = Value.slice A' ys.length c' := by rw [HL.out]
  rw [e1]
  refine (validMem_any _ _ _ _ (hr'.to hb1) hl').mono ?_; rw [h2, ← e1]; rintro e w2 ⟨rfl, hb2⟩
  clear e1 h1 h2
  have g2 := hb1.step hb2
  have z2 := g2.size
  go_wp2_with fail
  go_loopw [5,6] (fun v i wr => ∃ (k m : Nat) (A1 : Option Addr) (c1 : Nat), k ≤ xs.length ∧ m ≤ k ∧ i = .int .i64 k ∧ v = .slice A1 m c1 ∧ (chL xs ys k).length = m ∧ Own wr w.heap.size A1 c1 (chL xs ys k) ∧ Below w.heap.size w wr) (fun _ i _ => xs.length - (intOf i).toNat)
  case atStart => exact ⟨0, 0, _, _, Nat.zero_le _, Nat.le_refl _, rfl, rfl, rfl, Own.made rfl z2, g2.al _⟩
  case round =>
    obtain ⟨k, m, A1, c1, hk, hm, rfl, rfl, hlen, hown, hbl⟩ := hrel
    have HLN := Lib.hid hlen
    have q3 := hbl.size
    clear hlen
    by_cases hlt : k < xs.length
    · obtain ⟨ad, y, rfl, _, hcell, HY⟩ := (hr.below hbl).get hlt
      obtain ⟨ad', z, rfl, _, hcell', HZ⟩ := (hr'.below hbl).get (j := k) (by rw [← HL.out]; exact hlt)
      have i0 : (0 : Int) ≤ (k : Int) := by omega
      have i1 : (k : Int) < (xs.length : Int) := by omega
      by_cases hyz : y = z
      · have HC : Hid (chL xs ys (k + 1) = chL xs ys k) := by show _ = _; rw [chL, if_pos (by rw [← HY.out, ← HZ.out]; exact hyz)]
        subst hyz
        go_wp2_with fail
        go_quiet (fail)
        go_wp2_with fail
        go_roundw
        case rel => exact ⟨k + 1, m, A1, c1, hlt, by omega, by go_num, rfl, by rw [HC.out]; exact HLN.out, by rw [HC.out]; exact hown.drewN _, hbl.drN _⟩
        case measure => simp [intOf]; omega
      · have HC : Hid (chL xs ys (k + 1) = chL xs ys k ++ [(k : Int)]) := by show _ = _; rw [chL, if_neg (by rw [← HY.out, ← HZ.out]; exact hyz)]
        have hne : (y != z) = true := by simp; exact hyz
        clear hyz
        go_wp2_with fail
        go_quiet (fail)
        go_wp2_with (at_builtin; refine wpList_app1 _ rfl (.tmp 38) (.tmp 40) (by rfl) w.heap.size A1 c1 m (chL xs ys k) (by rfl) HLN.out ((hown.drewN _).alloc _) wr.heap.size 1 (k : Int) (by rfl) (cellNew _ _ _ _) (by omega) (by simp; omega) ?_; intro A2 c2 w3 hown3 hb3 _)
        go_roundw
        case rel => exact ⟨k + 1, m + 1, A2, c2, hlt, by omega, by go_num, rfl, by rw [HC.out, List.length_append, HLN.out]; rfl, by rw [HC.out]; exact hown3, ((hbl.drN _).al _).trans hb3⟩
        case measure => simp [intOf]; omega
    · obtain rfl : k = xs.length := by omega
      go_wp2_with fail
      go_ret
      exact ⟨A1, c1, by rw [HLN.out]; rfl, hown, hbl⟩
end Go.Proofs.Ytdhhdkncglhgfaa
