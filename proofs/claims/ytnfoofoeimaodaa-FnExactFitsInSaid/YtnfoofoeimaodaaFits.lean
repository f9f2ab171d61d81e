/- The walks of the library's search by a function value that captures one variable; whether a view fits in a memory. -/
import Derived.Test.YtnfoofoeimaodaaView4
import Derived.Test.YtnfoofoeimaodaaFunc
set_option linter.unusedVariables false
namespace Go.Proofs.Ytnfoofoeimaodaa
open Go.RowKit
set_option maxHeartbeats 800000 in
theorem fitsIn_cidx (v : Value) (p : Int → Bool) (A : Option Addr) (c : Nat) (xs : List Int) (w : World) (hr : Rd w w.heap.size .i64 A xs) (hl : xs.length ≤ maxLen)
    (hf : ∀ x, Calls Try.prog 87 #[.int .i64 x, v] w fun e w' => e = .returned (.bool (p x)) ∧ w = w') :
    Calls Try.prog 91 #[.slice A xs.length c, .func (.func 87) #[] #[v]] w fun e w' => e = .returned (.int .i64 (findI p xs)) ∧ w = w' := by
  unfold maxLen at hl
  have HF := Lib.hid hf
  clear hf
  go_enter Try.func91, Try.ntmps91
  go_wp2
  go_loop [8] (fun i => ∃ k : Nat, k ≤ xs.length ∧ i = .int .i64 k ∧ Before p xs k) (fun i => xs.length - (intOf i).toNat)
  case atStart => exact ⟨0, Nat.zero_le _, rfl, fun j hj => absurd hj (by omega)⟩
  case round =>
    obtain ⟨k, hk, rfl, hbf⟩ := hrel
    by_cases hlt : k < xs.length
    · obtain ⟨ad, y, rfl, _, hcell, HY⟩ := hr.get hlt
      have HB := Lib.hid hbf
      clear hbf
      rcases hp : p y with _ | _
      · go_wp2_with fail
        refine (HF.out _).mono ?_; rintro e w1 ⟨rfl, rfl⟩
        rw [hp]
        go_wp2_with fail
        have HP := Lib.hid hp
        go_round
        case rel => exact ⟨k + 1, hlt, by go_num, HB.out.succ HY HP.out⟩
        case measure => simp [intOf]; omega
      · have HR := Lib.hid (findI_hit hlt HY HB.out hp)
        go_wp2_with fail
        refine (HF.out _).mono ?_; rintro e w1 ⟨rfl, rfl⟩
        rw [hp]
        go_wp2_with fail
        go_ret
        exact ⟨ret_int (by rw [HR.out]), rfl⟩
    · obtain rfl : k = xs.length := by omega
      have HR := Lib.hid (findI_miss hbf)
      clear hbf
      go_wp2
      go_ret
      exact ⟨ret_int (by rw [HR.out]), rfl⟩
set_option maxHeartbeats 400000 in
theorem fitsIn_chas (v : Value) (p : Int → Bool) (A : Option Addr) (c : Nat) (xs : List Int) (w : World) (hr : Rd w w.heap.size .i64 A xs) (hl : xs.length ≤ maxLen)
    (hf : ∀ x, Calls Try.prog 87 #[.int .i64 x, v] w fun e w' => e = .returned (.bool (p x)) ∧ w = w') :
    Calls Try.prog 84 #[.slice A xs.length c, .func (.func 87) #[] #[v]] w fun e w' => e = .returned (.bool (xs.any p)) ∧ w = w' := by
  have HA := Lib.hid (findI_any p xs)
  go_enter Try.func84, Try.ntmps84
  go_wp2_with fail
  refine (fitsIn_cidx _ p _ _ _ _ hr hl hf).mono ?_; rintro e w1 ⟨rfl, rfl⟩
  go_wp2_with fail
  go_ret
  exact ⟨ret_bool (by rw [HA.out]), rfl⟩
def geB (n x : Int) : Bool := decide (n ≤ x)
set_option maxHeartbeats 400000 in
theorem fitsIn_fn (x n : Int) (g : Nat) (w : World) (hg : w.cell? ⟨g, 0, none⟩ = some (.int .i64 n)) :
    Calls Try.prog 87 #[.int .i64 x, .pointer (some ⟨g, 0, none⟩)] w fun e w' => e = .returned (.bool (geB n x)) ∧ w = w' := by
  go_enter Try.func87, Try.ntmps87
  go_wp2
  all_goals (go_ret; exact ⟨ret_bool (by go_light; first | rfl | (rw [Bool.eq_iff_iff]; simp [geB])), rfl⟩)
theorem ge_all (n : Int) (xs : List Int) (h : allB 0 59 xs = true) : (!xs.any (geB n)) = allB 0 (n - 1) xs := by
  have hin : ∀ x ∈ xs, 0 ≤ x := fun x hx => by
    obtain ⟨j, hj, rfl⟩ := List.getElem_of_mem hx
    have := all_get h hj
    simpa [List.getD_eq_getElem?_getD, hj] using this.1
  rw [Bool.eq_iff_iff]
  simp only [allB, outB, inB, geB, Bool.not_eq_true', List.any_eq_false, decide_eq_true_eq]
  constructor
  · intro h x hx
    have := h x hx
    have := hin x hx
    simp; omega
  · intro h x hx
    have := h x hx
    simp at this; omega
def fitsB (b : Int) (xs ss : List Int) (n : Int) : Bool := viewB b xs ss && (inB n 0 60 && allB 0 (n - 1) (offs b xs ss (prod xs).toNat))
theorem fits_1 {b : Int} {xs ss : List Int} {n : Int} (h : viewB b xs ss = false) : fitsB b xs ss n = false := by simp [fitsB, h]
theorem fits_2 {b : Int} {xs ss : List Int} {n : Int} (h : inB n 0 60 = false) : fitsB b xs ss n = false := by simp [fitsB, h]
theorem fits_3 {b : Int} {xs ss : List Int} {n : Int} (h : viewB b xs ss = true) (h2 : inB n 0 60 = true) : fitsB b xs ss n = allB 0 (n - 1) (offs b xs ss (prod xs).toNat) := by simp [fitsB, h, h2]
set_option maxHeartbeats 400000 in
theorem areCellsF_any (n : Int) (w : World) : Calls Try.prog 63 #[.int .i64 n] w fun e w' => e = .returned (.bool (inB n 0 60)) ∧ w = w' := by
  go_enter Try.func63, Try.ntmps63
  go_wp2
  all_goals (go_ret; exact ⟨ret_bool (by go_light; rw [Bool.eq_iff_iff]; simp [inB]; first | omega | (intros; omega)), rfl⟩)
set_option maxHeartbeats 1600000 in
theorem iFits_any (b : Int) (A A' : Option Addr) (c c' : Nat) (xs ss : List Int) (n : Int) (w : World) (h1 : Rd w w.heap.size .i64 A xs) (h2 : Rd w w.heap.size .i64 A' ss) (hv : viewB b xs ss = true) :
    Calls Try.prog 64 #[.agg #[.int .i64 b, .slice A xs.length c, .slice A' ss.length c'], .int .i64 n] w (Ret w (.bool (allB 0 (n - 1) (offs b xs ss (prod xs).toNat)))) := by
  obtain ⟨v1, v2, v3, v4, v5, v6⟩ := viewB_get hv
  have hx := ext_shape v1
  have hpr := prod_shape v1
  have HP : Hid (prod xs = ((prod xs).toNat : Int)) := by show _ = _; omega
  obtain ⟨m, hm⟩ : ∃ m, m = (prod xs).toNat := ⟨_, rfl⟩
  rw [← hm] at HP v6 ⊢
  have hm60 : m ≤ 60 := by omega
  have HR := Lib.hid (ge_all n _ v6)
  have HLO := Lib.hid (offs_length b xs ss m)
  have V2 := Lib.hid v2
  have V5 := Lib.hid v5
  have HX := Lib.hid hx
  have hmf : ∀ (fn : Fn) (first cap : Array Value) (w : World), (Instr.makeFunc fn first cap).run Try.prog w = .ok (.func fn first cap) w := fun _ _ _ _ => rfl
  clear hv v1 v2 v5 v6 hx hpr hm
  go_enter Try.func64, Try.ntmps64
  go_wp2_with fail
  refine (iOffsetsOf_any _ _ _ _ _ _ _ m _ (((h1.alloc (Nat.le_refl _) _).alloc (by simp) _).more (by simp; omega)) (((h2.alloc (Nat.le_refl _) _).alloc (by simp) _).more (by simp; omega)) v3 v4 HX.out V5.out V2.out HP.out (by omega)).mono ?_; rintro e w1 ⟨A1, c1, rfl, ho1, hb1⟩
  have hg : w1.cell? ⟨w.heap.size + 1, 0, none⟩ = some (.int .i64 n) := by
    rw [hb1.cell (p := ⟨w.heap.size + 1, 0, none⟩) (by simp)]; simp [go_sem]
  go_wp2_with fail
  refine (fitsIn_chas _ (geB n) _ _ _ _ ho1.rd (by rw [HLO.out]; simp only [maxLen]; omega) (fun x => fitsIn_fn x n _ _ hg)).mono ?_; rintro e w2 ⟨rfl, rfl⟩
  go_wp2_with fail
  go_ret
  exact ⟨ret_bool (by rw [HR.out]), (by (repeat' (first | (with_reducible exact Below.refl _ _) | (with_reducible assumption) | (with_reducible refine Below.setCell ?_ ?_ _) | (with_reducible refine Below.al ?_ _) | (with_reducible refine Below.drew ?_) | (with_reducible refine Below.drN ?_ _) | (with_reducible refine Below.step ?_ (by assumption)) | (with_reducible refine Below.alloc ?_ ?_ _))); all_goals (simp; try omega))⟩
set_option maxHeartbeats 1600000 in
theorem sFits_any (b : Int) (A A' : Option Addr) (c c' : Nat) (xs ss : List Int) (n : Int) (w : World) (h1 : Rd w w.heap.size .i64 A xs) (h2 : Rd w w.heap.size .i64 A' ss) (hv : viewB b xs ss = true) (hn : 0 ≤ n) (hn' : n ≤ 60) :
    Calls Try.prog 61 #[.agg #[.int .i64 b, .slice A xs.length c, .slice A' ss.length c'], .int .i64 n] w (Ret w (.bool (allB 0 (n - 1) (offs b xs ss (prod xs).toNat)))) := by
  obtain ⟨v1, v2, v3, v4, v5, v6⟩ := viewB_get hv
  have hx := ext_shape v1
  have hpr := prod_shape v1
  have HP : Hid (prod xs = ((prod xs).toNat : Int)) := by show _ = _; omega
  obtain ⟨m, hm⟩ : ∃ m, m = (prod xs).toNat := ⟨_, rfl⟩
  rw [← hm] at HP v6 ⊢
  have hm60 : m ≤ 60 := by omega
  have HLO := Lib.hid (offs_length b xs ss m)
  have V2 := Lib.hid v2
  have V5 := Lib.hid v5
  have HX := Lib.hid hx
  clear hv v1 v2 v5 v6 hx hpr hm
  go_enter Try.func61, Try.ntmps61
  go_wp2_with fail
  refine (sOffsets_any _ _ _ _ _ _ _ m _ ((h1.alloc (Nat.le_refl _) _).more (by simp)) ((h2.alloc (Nat.le_refl _) _).more (by simp)) v3 v4 HX.out V5.out V2.out HP.out (by omega)).mono ?_; rintro e w1 ⟨A1, c1, rfl, ho1, hb1⟩
  go_wp2_with fail
  refine (allIn_same _ _ _ _ _ _ _ ho1.rd (by rw [HLO.out]; simp only [maxLen]; omega)).mono ?_; rintro e w2 ⟨rfl, rfl⟩
  go_wp2_with fail
  go_ret
  exact ⟨rfl, (by (repeat' (first | (with_reducible exact Below.refl _ _) | (with_reducible assumption) | (with_reducible refine Below.setCell ?_ ?_ _) | (with_reducible refine Below.al ?_ _) | (with_reducible refine Below.drew ?_) | (with_reducible refine Below.drN ?_ _) | (with_reducible refine Below.step ?_ (by assumption)) | (with_reducible refine Below.alloc ?_ ?_ _))); all_goals (simp; try omega))⟩

set_option maxHeartbeats 1600000 in
theorem iFitsIn_any (b : Int) (A A' : Option Addr) (c c' : Nat) (xs ss : List Int) (n : Int) (w : World) (h1 : Rd w w.heap.size .i64 A xs) (h2 : Rd w w.heap.size .i64 A' ss) (hl : xs.length ≤ maxLen) (hl' : ss.length ≤ maxLen) :
    Calls Try.prog 24 #[.agg #[.int .i64 b, .slice A xs.length c, .slice A' ss.length c'], .int .i64 n] w (Ret w (.bool (fitsB b xs ss n))) := by
  rcases hv : viewB b xs ss with _ | _
  · have HR := Lib.hid (fits_1 (n := n) hv)
    go_enter Try.func24, Try.ntmps24
    go_wp2_with fail
    refine (isView_any _ _ _ _ _ _ _ _ ((h1.alloc (Nat.le_refl _) _).more (by simp)) ((h2.alloc (Nat.le_refl _) _).more (by simp)) hl hl').mono ?_; rw [hv]; rintro e w1 ⟨rfl, hb1⟩
    go_wp2_with fail
    go_ret
    exact ⟨ret_bool (by rw [HR.out]), (by (repeat' (first | (with_reducible exact Below.refl _ _) | (with_reducible assumption) | (with_reducible refine Below.setCell ?_ ?_ _) | (with_reducible refine Below.al ?_ _) | (with_reducible refine Below.drew ?_) | (with_reducible refine Below.drN ?_ _) | (with_reducible refine Below.step ?_ (by assumption)) | (with_reducible refine Below.alloc ?_ ?_ _))); all_goals (simp; try omega))⟩
  have HV := Lib.hid hv
  rcases hi : inB n 0 60 with _ | _
  · have HR := Lib.hid (fits_2 (b := b) (xs := xs) (ss := ss) hi)
    go_enter Try.func24, Try.ntmps24
    go_wp2_with fail
    refine (isView_any _ _ _ _ _ _ _ _ ((h1.alloc (Nat.le_refl _) _).more (by simp)) ((h2.alloc (Nat.le_refl _) _).more (by simp)) hl hl').mono ?_; rw [hv]; rintro e w1 ⟨rfl, hb1⟩
    go_wp2_with fail
    (refine (areCellsF_any _ _).mono ?_; rw [hi]; rintro e w1' ⟨rfl, rfl⟩)
    go_wp2_with fail
    go_ret
    exact ⟨ret_bool (by rw [HR.out]), (by (repeat' (first | (with_reducible exact Below.refl _ _) | (with_reducible assumption) | (with_reducible refine Below.setCell ?_ ?_ _) | (with_reducible refine Below.al ?_ _) | (with_reducible refine Below.drew ?_) | (with_reducible refine Below.drN ?_ _) | (with_reducible refine Below.step ?_ (by assumption)) | (with_reducible refine Below.alloc ?_ ?_ _))); all_goals (simp; try omega))⟩
  · have HR := Lib.hid (fits_3 hv hi)
    have hn : 0 ≤ n ∧ n ≤ 60 := by simpa [inB] using hi
    go_enter Try.func24, Try.ntmps24
    go_wp2_with fail
    refine (isView_any _ _ _ _ _ _ _ _ ((h1.alloc (Nat.le_refl _) _).more (by simp)) ((h2.alloc (Nat.le_refl _) _).more (by simp)) hl hl').mono ?_; rw [hv]; rintro e w1 ⟨rfl, hb1⟩; have hc1 := bcel hb1
    go_wp2_with fail
    (refine (areCellsF_any _ _).mono ?_; rw [hi]; rintro e w1' ⟨rfl, rfl⟩)
    go_wp2_with fail
    (refine (iFits_any _ _ _ _ _ _ _ _ _ ((h1.alloc (Nat.le_refl _) _).more (by simp) |>.to hb1) ((h2.alloc (Nat.le_refl _) _).more (by simp) |>.to hb1) HV.out).mono ?_; rintro e w2 ⟨rfl, hb2⟩)
    go_wp2_with fail
    go_ret
    exact ⟨ret_bool (by rw [HR.out]), (by (repeat' (first | (with_reducible exact Below.refl _ _) | (with_reducible assumption) | (with_reducible refine Below.setCell ?_ ?_ _) | (with_reducible refine Below.al ?_ _) | (with_reducible refine Below.drew ?_) | (with_reducible refine Below.drN ?_ _) | (with_reducible refine Below.step ?_ (by assumption)) | (with_reducible refine Below.alloc ?_ ?_ _))); all_goals (simp; try omega))⟩
set_option maxHeartbeats 1600000 in
theorem sFitsIn_any (b : Int) (A A' : Option Addr) (c c' : Nat) (xs ss : List Int) (n : Int) (w : World) (h1 : Rd w w.heap.size .i64 A xs) (h2 : Rd w w.heap.size .i64 A' ss) (hl : xs.length ≤ maxLen) (hl' : ss.length ≤ maxLen) :
    Calls Try.prog 22 #[.agg #[.int .i64 b, .slice A xs.length c, .slice A' ss.length c'], .int .i64 n] w (Ret w (.bool (fitsB b xs ss n))) := by
  rcases hv : viewB b xs ss with _ | _
  · have HR := Lib.hid (fits_1 (n := n) hv)
    go_enter Try.func22, Try.ntmps22
    go_wp2_with fail
    refine (validView_any _ _ _ _ _ _ _ _ ((h1.alloc (Nat.le_refl _) _).more (by simp)) ((h2.alloc (Nat.le_refl _) _).more (by simp)) hl hl').mono ?_; rw [hv]; rintro e w1 ⟨rfl, hb1⟩
    go_wp2_with fail
    go_ret
    exact ⟨ret_bool (by rw [HR.out]), (by (repeat' (first | (with_reducible exact Below.refl _ _) | (with_reducible assumption) | (with_reducible refine Below.setCell ?_ ?_ _) | (with_reducible refine Below.al ?_ _) | (with_reducible refine Below.drew ?_) | (with_reducible refine Below.drN ?_ _) | (with_reducible refine Below.step ?_ (by assumption)) | (with_reducible refine Below.alloc ?_ ?_ _))); all_goals (simp; try omega))⟩
  have HV := Lib.hid hv
  rcases hi : inB n 0 60 with _ | _
  · have HR := Lib.hid (fits_2 (b := b) (xs := xs) (ss := ss) hi)
    go_enter Try.func22, Try.ntmps22
    go_wp2_with fail
    refine (validView_any _ _ _ _ _ _ _ _ ((h1.alloc (Nat.le_refl _) _).more (by simp)) ((h2.alloc (Nat.le_refl _) _).more (by simp)) hl hl').mono ?_; rw [hv]; rintro e w1 ⟨rfl, hb1⟩
    go_wp2_with fail
    (refine (inRange_any _ _ _ _).mono ?_; rw [hi]; rintro e w1' ⟨rfl, rfl⟩)
    go_wp2_with fail
    go_ret
    exact ⟨ret_bool (by rw [HR.out]), (by (repeat' (first | (with_reducible exact Below.refl _ _) | (with_reducible assumption) | (with_reducible refine Below.setCell ?_ ?_ _) | (with_reducible refine Below.al ?_ _) | (with_reducible refine Below.drew ?_) | (with_reducible refine Below.drN ?_ _) | (with_reducible refine Below.step ?_ (by assumption)) | (with_reducible refine Below.alloc ?_ ?_ _))); all_goals (simp; try omega))⟩
  · have HR := Lib.hid (fits_3 hv hi)
    have hn : 0 ≤ n ∧ n ≤ 60 := by simpa [inB] using hi
    go_enter Try.func22, Try.ntmps22
    go_wp2_with fail
    refine (validView_any _ _ _ _ _ _ _ _ ((h1.alloc (Nat.le_refl _) _).more (by simp)) ((h2.alloc (Nat.le_refl _) _).more (by simp)) hl hl').mono ?_; rw [hv]; rintro e w1 ⟨rfl, hb1⟩; have hc1 := bcel hb1
    go_wp2_with fail
    (refine (inRange_any _ _ _ _).mono ?_; rw [hi]; rintro e w1' ⟨rfl, rfl⟩)
    go_wp2_with fail
    (refine (sFits_any _ _ _ _ _ _ _ _ _ ((h1.alloc (Nat.le_refl _) _).more (by simp) |>.to hb1) ((h2.alloc (Nat.le_refl _) _).more (by simp) |>.to hb1) HV.out hn.1 hn.2).mono ?_; rintro e w2 ⟨rfl, hb2⟩)
    go_wp2_with fail
    go_ret
    exact ⟨ret_bool (by rw [HR.out]), (by (repeat' (first | (with_reducible exact Below.refl _ _) | (with_reducible assumption) | (with_reducible refine Below.setCell ?_ ?_ _) | (with_reducible refine Below.al ?_ _) | (with_reducible refine Below.drew ?_) | (with_reducible refine Below.drN ?_ _) | (with_reducible refine Below.step ?_ (by assumption)) | (with_reducible refine Below.alloc ?_ ?_ _))); all_goals (simp; try omega))⟩
end Go.Proofs.Ytnfoofoeimaodaa
