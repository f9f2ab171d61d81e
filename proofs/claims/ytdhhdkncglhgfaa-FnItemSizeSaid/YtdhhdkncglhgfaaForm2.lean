/- The walks over formats: the places of the fields, the size of an item. -/
import Derived.Test.YtdhhdkncglhgfaaForm1
import Derived.Test.YtdhhdkncglhgfaaStep
import Derived.IntWalk
set_option linter.unusedVariables false
namespace Go.Proofs.Ytdhhdkncglhgfaa
open Go.RowKit
/-- The first multiple of a number from another one on. -/
def rup (n b : Int) : Int := (n + b - 1) / b * b
def Sz (x : Int) : Prop := x = 1 ∨ x = 2 ∨ x = 4
theorem rup_bd {n b : Int} (h : 0 ≤ n) (hb : Sz b) : n ≤ rup n b ∧ rup n b ≤ n + 3 := by
  unfold rup
  rcases hb with rfl | rfl | rfl <;> omega
theorem rup_one (n : Int) : rup n 1 = n := by unfold rup; omega
/-- Where field k may begin at the earliest; where it begins. -/
def fAt (al : Bool) (xs : List Int) : Nat → Int
  | 0 => 0
  | k + 1 => (if al = true then rup (fAt al xs k) (xs.getD k 0) else fAt al xs k) + xs.getD k 0
def fPl (al : Bool) (xs : List Int) (k : Nat) : Int := if al = true then rup (fAt al xs k) (xs.getD k 0) else fAt al xs k
def fPs (al : Bool) (xs : List Int) (n : Nat) : List Int := (List.range n).map (fPl al xs)
theorem fPs_length (al : Bool) (xs : List Int) (n : Nat) : (fPs al xs n).length = n := by simp [fPs]
theorem fPs_succ (al : Bool) (xs : List Int) (n : Nat) : fPs al xs (n + 1) = fPs al xs n ++ [fPl al xs n] := by simp [fPs, List.range_succ]
theorem fPs_get (al : Bool) (xs : List Int) (n j : Nat) (h : j < n) : (fPs al xs n).getD j 0 = fPl al xs j := by simp [fPs, List.getD_eq_getElem?_getD, h]
theorem fAt_succ (al : Bool) (xs : List Int) (k : Nat) : fAt al xs (k + 1) = fPl al xs k + xs.getD k 0 := rfl
def SzL (xs : List Int) : Prop := ∀ j, j < xs.length → Sz (xs.getD j 0)
theorem form_szl {xs : List Int} (h : formB xs = true) : 1 ≤ xs.length ∧ xs.length ≤ 5 ∧ SzL xs := form_get h
theorem fAt_bd {al : Bool} {xs : List Int} (h : SzL xs) (k : Nat) (hk : k ≤ xs.length) : 0 ≤ fAt al xs k ∧ fAt al xs k ≤ 7 * (k : Int) := by
  induction k with
  | zero => simp [fAt]
  | succ k ih =>
    obtain ⟨i1, i2⟩ := ih (by omega)
    have hs := h k (by omega)
    have hr := rup_bd i1 hs
    have h3 : 1 ≤ xs.getD k 0 ∧ xs.getD k 0 ≤ 4 := by rcases hs with e | e | e <;> omega
    rw [fAt]
    split <;> omega
theorem fPl_bd {al : Bool} {xs : List Int} (h : SzL xs) (k : Nat) (hk : k < xs.length) : fAt al xs k ≤ fPl al xs k ∧ fPl al xs k ≤ fAt al xs k + 3 := by
  have i := fAt_bd (al := al) h k (by omega)
  have hr := rup_bd i.1 (h k hk)
  unfold fPl
  split <;> omega
/-- The greatest size, 1 at least, among the first k ones of an aligned format. -/
def fMx (al : Bool) (xs : List Int) : Nat → Int
  | 0 => 1
  | k + 1 => if al = true ∧ fMx al xs k < xs.getD k 0 then xs.getD k 0 else fMx al xs k
theorem fMx_sz {al : Bool} {xs : List Int} (h : SzL xs) (k : Nat) (hk : k ≤ xs.length) : Sz (fMx al xs k) := by
  induction k with
  | zero => exact .inl rfl
  | succ k ih =>
    rw [fMx]
    split
    · exact h k (by omega)
    · exact ih (by omega)
theorem fMx_un (xs : List Int) (k : Nat) : fMx false xs k = 1 := by
  induction k with
  | zero => rfl
  | succ k ih => rw [fMx, if_neg (by simp), ih]
/-- The greatest of the first k + 1 numbers. -/
def mxL (xs : List Int) : Nat → Int
  | 0 => xs.getD 0 0
  | k + 1 => if mxL xs k < xs.getD (k + 1) 0 then xs.getD (k + 1) 0 else mxL xs k
theorem mxL_eq {xs : List Int} (h : SzL xs) (k : Nat) (hk : k < xs.length) : mxL xs k = fMx true xs (k + 1) := by
  induction k with
  | zero =>
    have := h 0 hk
    rw [mxL, fMx, fMx]
    rcases this with e | e | e <;> rw [e] <;> simp
  | succ k ih =>
    have e : fMx true xs (k + 1 + 1) = (if true = true ∧ fMx true xs (k + 1) < xs.getD (k + 1) 0 then xs.getD (k + 1) 0 else fMx true xs (k + 1)) := rfl
    rw [mxL, ih (by omega), e]
    simp only [true_and]
def itS (al : Bool) (xs : List Int) : Int := rup (fAt al xs xs.length) (fMx al xs xs.length)

set_option maxHeartbeats 400000 in
theorem iRoundUp_any (n b : Int) (w : World) (h0 : 0 ≤ n) (h1 : n ≤ 1000) (hb : Sz b) : Calls Try.prog 103 #[.int .i64 n, .int .i64 b] w fun e w' => e = .returned (.int .i64 (rup n b)) ∧ w = w' := by
  rcases hb with rfl | rfl | rfl
  all_goals
    go_enter Try.func103, Try.ntmps103
    go_wp2
    go_ret
    exact ⟨ret_int (by unfold rup; first | rfl | omega), rfl⟩
set_option maxHeartbeats 400000 in
theorem sRoundUp_any (n b : Int) (w : World) (h0 : 0 ≤ n) (h1 : n ≤ 1000) (hb : Sz b) : Calls Try.prog 104 #[.int .i64 n, .int .i64 b] w fun e w' => e = .returned (.int .i64 (rup n b)) ∧ w = w' := by
  rcases hb with rfl | rfl | rfl
  all_goals
    go_enter Try.func104, Try.ntmps104
    go_wp2
    go_ret
    exact ⟨ret_int (by unfold rup; first | rfl | omega), rfl⟩

set_option maxHeartbeats 3200000 in
theorem iPlacesOf_t (A : Option Addr) (c : Nat) (bg : Bool) (xs : List Int) (w : World) (h0 : Rd w w.heap.size .i64 A xs) (hl : xs.length ≤ 5) (hs : SzL xs) :
    Calls Try.prog 80 #[.agg #[.slice A xs.length c, .bool bg, .bool true]] w (RetInts w (fPs true xs xs.length)) := by
  have HS := Lib.hid hs
  have hr := h0.alloc (Nat.le_refl _) (.cells #[.slice A xs.length c, .bool bg, .bool true] 37)
  clear hs
  go_enter Try.func80, Try.ntmps80
  go_wp2_with fail
  go_loopw [3, 4, 11] (fun v a i wr => ∃ (k : Nat) (A1 : Option Addr) (c1 : Nat), k ≤ xs.length ∧ i = .int .i64 k ∧ a = .int .i64 (fAt true xs k) ∧ v = .slice A1 k c1 ∧ Own wr (w.heap.size + 1) A1 c1 (fPs true xs k) ∧ Below (w.heap.size + 1) (w.alloc (.cells #[.slice A xs.length c, .bool bg, .bool true] 37)) wr) (fun _ _ i _ => xs.length - (intOf i).toNat)
  case atStart => exact ⟨0, _, _, Nat.zero_le _, rfl, rfl, rfl, Own.made (by simp) (by simp), (by (repeat' (first | (with_reducible exact Below.refl _ _) | (with_reducible assumption) | (with_reducible refine Below.setCell ?_ ?_ _) | (with_reducible refine Below.al ?_ _) | (with_reducible refine Below.drew ?_) | (with_reducible refine Below.drN ?_ _) | (with_reducible refine Below.step ?_ (by assumption)) | (with_reducible refine Below.alloc ?_ ?_ _))); all_goals (simp; try omega))⟩
  case round =>
    obtain ⟨k, A1, c1, hk, rfl, rfl, rfl, hown, hbl⟩ := hrel
    have q0 := hbl.cell (p := ⟨w.heap.size, 0, none⟩) (by simp)
    have q2 := hbl.cell (p := ⟨w.heap.size, 2, none⟩) (by simp)
    have q3 := hbl.size
    simp at q0 q2 q3
    by_cases hlt : k < xs.length
    · obtain ⟨ad, y, rfl, _, hcell, HY⟩ := (hr.below (hbl.mono (by omega))).get hlt
      have hy : Sz y := by rw [HY.out]; exact HS.out k hlt
      have hy2 : 1 ≤ y ∧ y ≤ 4 := by rcases hy with rfl | rfl | rfl <;> omega
      have hb1 := fAt_bd (al := true) HS.out k hk
      have hb2 := fPl_bd (al := true) HS.out k hlt
      have HYS := Lib.hid hy
      obtain ⟨p, hp⟩ : ∃ p, p = fAt true xs k := ⟨_, rfl⟩
      obtain ⟨r, hrr⟩ : ∃ r, r = fPl true xs k := ⟨_, rfl⟩
      have HRR : Hid (r = if true = true then rup p y else p) := by show _ = _; rw [hrr, hp, HY.out]; rfl
      have HF : Hid (fAt true xs (k + 1) = r + y) := by show _ = _; rw [fAt_succ, hrr, HY.out]
      have HPS : Hid (fPs true xs (k + 1) = fPs true xs k ++ [r]) := by show _ = _; rw [fPs_succ, hrr]
      have HLL := Lib.hid (fPs_length true xs k)
      rw [← hp, ← hrr] at hb2
      rw [← hp] at hb1 ⊢
      clear hp hrr hy
      have e1 : ∀ h : (if true = true then rup p y else p) = r, True := fun _ => trivial
      obtain ⟨b1, b2⟩ := hb1
      obtain ⟨b3, b4⟩ := hb2
      obtain ⟨y1, y2⟩ := hy2
      clear e1
      (have HR2 : Hid (r = rup p y) := HRR.out)
      go_wp2_with (first
        | (go_at_call 103; refine (iRoundUp_any _ _ _ b1 (by omega) HYS.out).mono ?_; rw [← HR2.out]; rintro e w1 ⟨rfl, rfl⟩)
        | (at_builtin; refine wpList_app1 _ rfl (.tmp 20) (.tmp 22) (by rfl) (w.heap.size + 1) A1 c1 k (fPs true xs k) (by rfl) HLL.out (hown.alloc _) wr.heap.size 1 r (by rfl) (by simp) (by omega) (by simp; omega) ?_; intro A2 c2 w1 hown1 hb1 _; have hbl1 := (hbl.alloc q3 _).trans hb1))
      go_roundw
      case rel => exact ⟨k + 1, A2, c2, hlt, by go_num, by rw [HF.out], rfl, by rw [HPS.out]; exact hown1, hbl1⟩
      case measure => simp [intOf]; omega
    · obtain rfl : k = xs.length := by omega
      have HLL := Lib.hid (fPs_length true xs xs.length)
      go_wp2_with fail
      go_ret
      exact ⟨A1, c1, by rw [HLL.out]; rfl, hown.mono (by omega), ((Below.refl _ _).alloc (Nat.le_refl _) _).trans (hbl.mono (by omega))⟩
set_option maxHeartbeats 3200000 in
theorem iPlacesOf_f (A : Option Addr) (c : Nat) (bg : Bool) (xs : List Int) (w : World) (h0 : Rd w w.heap.size .i64 A xs) (hl : xs.length ≤ 5) (hs : SzL xs) :
    Calls Try.prog 80 #[.agg #[.slice A xs.length c, .bool bg, .bool false]] w (RetInts w (fPs false xs xs.length)) := by
  have HS := Lib.hid hs
  have hr := h0.alloc (Nat.le_refl _) (.cells #[.slice A xs.length c, .bool bg, .bool false] 37)
  clear hs
  go_enter Try.func80, Try.ntmps80
  go_wp2_with fail
  go_loopw [3, 4, 11] (fun v a i wr => ∃ (k : Nat) (A1 : Option Addr) (c1 : Nat), k ≤ xs.length ∧ i = .int .i64 k ∧ a = .int .i64 (fAt false xs k) ∧ v = .slice A1 k c1 ∧ Own wr (w.heap.size + 1) A1 c1 (fPs false xs k) ∧ Below (w.heap.size + 1) (w.alloc (.cells #[.slice A xs.length c, .bool bg, .bool false] 37)) wr) (fun _ _ i _ => xs.length - (intOf i).toNat)
  case atStart => exact ⟨0, _, _, Nat.zero_le _, rfl, rfl, rfl, Own.made (by simp) (by simp), (by (repeat' (first | (with_reducible exact Below.refl _ _) | (with_reducible assumption) | (with_reducible refine Below.setCell ?_ ?_ _) | (with_reducible refine Below.al ?_ _) | (with_reducible refine Below.drew ?_) | (with_reducible refine Below.drN ?_ _) | (with_reducible refine Below.step ?_ (by assumption)) | (with_reducible refine Below.alloc ?_ ?_ _))); all_goals (simp; try omega))⟩
  case round =>
    obtain ⟨k, A1, c1, hk, rfl, rfl, rfl, hown, hbl⟩ := hrel
    have q0 := hbl.cell (p := ⟨w.heap.size, 0, none⟩) (by simp)
    have q2 := hbl.cell (p := ⟨w.heap.size, 2, none⟩) (by simp)
    have q3 := hbl.size
    simp at q0 q2 q3
    by_cases hlt : k < xs.length
    · obtain ⟨ad, y, rfl, _, hcell, HY⟩ := (hr.below (hbl.mono (by omega))).get hlt
      have hy : Sz y := by rw [HY.out]; exact HS.out k hlt
      have hy2 : 1 ≤ y ∧ y ≤ 4 := by rcases hy with rfl | rfl | rfl <;> omega
      have hb1 := fAt_bd (al := false) HS.out k hk
      have hb2 := fPl_bd (al := false) HS.out k hlt
      have HYS := Lib.hid hy
      obtain ⟨p, hp⟩ : ∃ p, p = fAt false xs k := ⟨_, rfl⟩
      obtain ⟨r, hrr⟩ : ∃ r, r = fPl false xs k := ⟨_, rfl⟩
      have HRR : Hid (r = if false = true then rup p y else p) := by show _ = _; rw [hrr, hp, HY.out]; rfl
      have HF : Hid (fAt false xs (k + 1) = r + y) := by show _ = _; rw [fAt_succ, hrr, HY.out]
      have HPS : Hid (fPs false xs (k + 1) = fPs false xs k ++ [r]) := by show _ = _; rw [fPs_succ, hrr]
      have HLL := Lib.hid (fPs_length false xs k)
      rw [← hp, ← hrr] at hb2
      rw [← hp] at hb1 ⊢
      clear hp hrr hy
      have e1 : ∀ h : (if false = true then rup p y else p) = r, True := fun _ => trivial
      obtain ⟨b1, b2⟩ := hb1
      obtain ⟨b3, b4⟩ := hb2
      obtain ⟨y1, y2⟩ := hy2
      clear e1
      (obtain rfl : r = p := HRR.out)
      go_wp2_with (first
        | (go_at_call 103; refine (iRoundUp_any _ _ _ b1 (by omega) HYS.out).mono ?_; rw [← HR2.out]; rintro e w1 ⟨rfl, rfl⟩)
        | (at_builtin; refine wpList_app1 _ rfl (.tmp 20) (.tmp 22) (by rfl) (w.heap.size + 1) A1 c1 k (fPs false xs k) (by rfl) HLL.out (hown.alloc _) wr.heap.size 1 r (by rfl) (by simp) (by omega) (by simp; omega) ?_; intro A2 c2 w1 hown1 hb1 _; have hbl1 := (hbl.alloc q3 _).trans hb1))
      go_roundw
      case rel => exact ⟨k + 1, A2, c2, hlt, by go_num, by rw [HF.out], rfl, by rw [HPS.out]; exact hown1, hbl1⟩
      case measure => simp [intOf]; omega
    · obtain rfl : k = xs.length := by omega
      have HLL := Lib.hid (fPs_length false xs xs.length)
      go_wp2_with fail
      go_ret
      exact ⟨A1, c1, by rw [HLL.out]; rfl, hown.mono (by omega), ((Below.refl _ _).alloc (Nat.le_refl _) _).trans (hbl.mono (by omega))⟩
end Go.Proofs.Ytdhhdkncglhgfaa
