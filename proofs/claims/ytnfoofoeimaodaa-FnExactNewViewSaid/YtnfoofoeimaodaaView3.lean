/- The walks over views: what is a valid one. -/
import Derived.Test.YtnfoofoeimaodaaView2
import Derived.Test.YtnfoofoeimaodaaFunc
import Derived.Test.YtnfoofoeimaodaaTens1
set_option linter.unusedVariables false
namespace Go.Proofs.Ytnfoofoeimaodaa
open Go.RowKit

def viewB (b : Int) (xs ss : List Int) : Bool := shapeB xs && (decide (ss.length = xs.length) && (decide (0 ≤ b ∧ b ≤ 60) && (allB (-60) 60 ss && allB 0 59 (offs b xs ss (prod xs).toNat))))
theorem viewB_1 {b : Int} {xs ss : List Int} (h : shapeB xs = false) : viewB b xs ss = false := by simp [viewB, h]
theorem viewB_2 {b : Int} {xs ss : List Int} (h : ¬ ss.length = xs.length) : viewB b xs ss = false := by simp [viewB, h]
theorem viewB_3 {b : Int} {xs ss : List Int} (h : ¬ (0 ≤ b ∧ b ≤ 60)) : viewB b xs ss = false := by simp [viewB]; intros; omega
theorem viewB_4 {b : Int} {xs ss : List Int} (h : allB (-60) 60 ss = false) : viewB b xs ss = false := by simp [viewB, h]
theorem viewB_5 {b : Int} {xs ss : List Int} {n : Nat} (h1 : shapeB xs = true) (h2 : ss.length = xs.length) (h3 : 0 ≤ b) (h3' : b ≤ 60) (h4 : allB (-60) 60 ss = true) (hp : prod xs = (n : Int)) : viewB b xs ss = allB 0 59 (offs b xs ss n) := by
  simp [viewB, h1, h2, h3, h3', h4, hp]
theorem viewB_get {b : Int} {xs ss : List Int} (h : viewB b xs ss = true) : shapeB xs = true ∧ ss.length = xs.length ∧ 0 ≤ b ∧ b ≤ 60 ∧ StrL ss ∧ allB 0 59 (offs b xs ss (prod xs).toNat) = true := by
  simp only [viewB, Bool.and_eq_true, decide_eq_true_eq] at h
  exact ⟨h.1, h.2.1, h.2.2.1.1, h.2.2.1.2, fun j hj => all_get h.2.2.2.1 hj, h.2.2.2.2⟩

def badCell (x : Int) : Bool := decide (x < 0 ∨ 60 ≤ x)
theorem badCell_eq : badCell = outB 0 59 := by
  funext x
  rw [Bool.eq_iff_iff]
  simp [badCell, outB, inB]
  omega
set_option maxHeartbeats 400000 in
theorem isView_fn (x : Int) (w : World) : Calls Try.prog 86 #[.int .i64 x] w (Ret w (.bool (badCell x))) := by
  go_enter Try.func86, Try.ntmps86
  go_wp2
  all_goals (go_ret; exact ⟨ret_bool (by go_light; rw [Bool.eq_iff_iff]; first | (simp [badCell]; done) | (simp [badCell]; omega) | (simp [badCell]; intros; omega)), (by (repeat' (first | (with_reducible exact Below.refl _ _) | (with_reducible assumption) | (with_reducible refine Below.setCell ?_ ?_ _) | (with_reducible refine Below.al ?_ _) | (with_reducible refine Below.drew ?_) | (with_reducible refine Below.drN ?_ _) | (with_reducible refine Below.step ?_ (by assumption)) | (with_reducible refine Below.alloc ?_ ?_ _))); all_goals (simp; try omega))⟩)
set_option maxHeartbeats 800000 in
theorem isView_idx (A : Option Addr) (c : Nat) (xs : List Int) (w : World) (hr : Rd w w.heap.size .i64 A xs) (hl : xs.length ≤ maxLen) :
    Calls Try.prog 91 #[.slice A xs.length c, .func (.func 86) #[] #[]] w (Ret w (.int .i64 (findI badCell xs))) := by
  unfold maxLen at hl
  go_enter Try.func91, Try.ntmps91
  go_wp2
  go_loopw [8] (fun i wr => ∃ k : Nat, k ≤ xs.length ∧ i = .int .i64 k ∧ Below w.heap.size w wr ∧ Before badCell xs k) (fun i _ => xs.length - (intOf i).toNat)
  case atStart => exact ⟨0, Nat.zero_le _, rfl, Below.refl _ _, fun j hj => absurd hj (by omega)⟩
  case round =>
    obtain ⟨k, hk, rfl, hbl, hbf⟩ := hrel
    by_cases hlt : k < xs.length
    · obtain ⟨ad, y, rfl, _, hcell, HY⟩ := (hr.below hbl).get hlt
      have HB := Lib.hid hbf
      clear hbf
      rcases hp : badCell y with _ | _
      · go_wp2_with (go_at_call 86; refine (isView_fn _ _).mono ?_; rintro e w1 ⟨rfl, hb1⟩)
        have HP := Lib.hid hp
        go_roundw
        case rel => exact ⟨k + 1, hlt, by go_num, hbl.step hb1, HB.out.succ HY HP.out⟩
        case measure => simp [intOf]; omega
      · have HR := Lib.hid (findI_hit hlt HY HB.out hp)
        go_wp2_with (go_at_call 86; refine (isView_fn _ _).mono ?_; rintro e w1 ⟨rfl, hb1⟩)
        go_ret
        exact ⟨ret_int (by rw [HR.out]), hbl.step hb1⟩
    · obtain rfl : k = xs.length := by omega
      have HR := Lib.hid (findI_miss hbf)
      clear hbf
      go_wp2
      go_ret
      exact ⟨ret_int (by rw [HR.out]), hbl⟩

set_option maxHeartbeats 400000 in
theorem isView_has (A : Option Addr) (c : Nat) (xs : List Int) (w : World) (hr : Rd w w.heap.size .i64 A xs) (hl : xs.length ≤ maxLen) :
    Calls Try.prog 84 #[.slice A xs.length c, .func (.func 86) #[] #[]] w (Ret w (.bool (xs.any badCell))) := by
  have HA := Lib.hid (findI_any badCell xs)
  go_enter Try.func84, Try.ntmps84
  go_wp2_with (go_at_call 91; refine (isView_idx _ _ _ _ hr hl).mono ?_; rintro e w1 ⟨rfl, hb1⟩)
  go_ret
  exact ⟨ret_bool (by rw [HA.out]), (by (repeat' (first | (with_reducible exact Below.refl _ _) | (with_reducible assumption) | (with_reducible refine Below.setCell ?_ ?_ _) | (with_reducible refine Below.al ?_ _) | (with_reducible refine Below.drew ?_) | (with_reducible refine Below.drN ?_ _) | (with_reducible refine Below.step ?_ (by assumption)) | (with_reducible refine Below.alloc ?_ ?_ _))); all_goals (simp; try omega))⟩

set_option maxHeartbeats 3200000 in
theorem isView_any (b : Int) (A A' : Option Addr) (c c' : Nat) (xs ss : List Int) (w : World) (h1 : Rd w w.heap.size .i64 A xs) (h2 : Rd w w.heap.size .i64 A' ss) (hl : xs.length ≤ maxLen) (hl' : ss.length ≤ maxLen) :
    Calls Try.prog 62 #[.agg #[.int .i64 b, .slice A xs.length c, .slice A' ss.length c']] w (Ret w (.bool (viewB b xs ss))) := by
  have hl2 := hl
  have hl2' := hl'
  unfold maxLen at hl2 hl2'
  have r1 := fun o : Obj => (h1.alloc (Nat.le_refl _) o).more (B' := (w.alloc o).heap.size) (by simp)
  have r2 := fun o : Obj => (h2.alloc (Nat.le_refl _) o).more (B' := (w.alloc o).heap.size) (by simp)
  rcases hv : shapeB xs with _ | _
  · have HR := Lib.hid (viewB_1 (b := b) (ss := ss) hv)
    go_enter Try.func62, Try.ntmps62
    go_wp2_with fail
    refine (isShape_any _ _ _ _ _ (r1 _) hl).mono ?_; rw [hv]; rintro e w1 ⟨rfl, rfl⟩
    go_wp2_with fail
    (go_ret; exact ⟨ret_bool (by rw [HR.out]), (by (repeat' (first | (with_reducible exact Below.refl _ _) | (with_reducible assumption) | (with_reducible refine Below.setCell ?_ ?_ _) | (with_reducible refine Below.al ?_ _) | (with_reducible refine Below.drew ?_) | (with_reducible refine Below.drN ?_ _) | (with_reducible refine Below.step ?_ (by assumption)) | (with_reducible refine Below.alloc ?_ ?_ _))); all_goals (simp; try omega))⟩)
  by_cases hle : ss.length = xs.length
  case neg =>
    have HR := Lib.hid (viewB_2 (b := b) hle)
    have hne : ((ss.length : Int) != (xs.length : Int)) = true := by simp; omega
    go_enter Try.func62, Try.ntmps62
    go_wp2_with fail
    refine (isShape_any _ _ _ _ _ (r1 _) hl).mono ?_; rw [hv]; rintro e w1 ⟨rfl, rfl⟩
    go_wp2_with fail
    (go_ret; exact ⟨ret_bool (by rw [HR.out]), (by (repeat' (first | (with_reducible exact Below.refl _ _) | (with_reducible assumption) | (with_reducible refine Below.setCell ?_ ?_ _) | (with_reducible refine Below.al ?_ _) | (with_reducible refine Below.drew ?_) | (with_reducible refine Below.drN ?_ _) | (with_reducible refine Below.step ?_ (by assumption)) | (with_reducible refine Below.alloc ?_ ?_ _))); all_goals (simp; try omega))⟩)
  have HL := Lib.hid hle
  rw [hle]
  clear hle
  by_cases hb : 0 ≤ b ∧ b ≤ 60
  case neg =>
    have HR := Lib.hid (viewB_3 (xs := xs) (ss := ss) hb)
    rcases (show b < 0 ∨ (0 ≤ b ∧ 60 < b) by omega) with hb1 | ⟨hb0, hb1⟩
    all_goals
      clear hb
      go_enter Try.func62, Try.ntmps62
      go_wp2_with fail
      refine (isShape_any _ _ _ _ _ (r1 _) hl).mono ?_; rw [hv]; rintro e w1 ⟨rfl, rfl⟩
      go_wp2_with fail
      (go_ret; exact ⟨ret_bool (by rw [HR.out]), (by (repeat' (first | (with_reducible exact Below.refl _ _) | (with_reducible assumption) | (with_reducible refine Below.setCell ?_ ?_ _) | (with_reducible refine Below.al ?_ _) | (with_reducible refine Below.drew ?_) | (with_reducible refine Below.drN ?_ _) | (with_reducible refine Below.step ?_ (by assumption)) | (with_reducible refine Below.alloc ?_ ?_ _))); all_goals (simp; try omega))⟩)
  obtain ⟨hb0, hb1⟩ := hb
  have hx := ext_shape hv
  have hpr := prod_shape hv
  obtain ⟨n, hn⟩ : ∃ n : Nat, prod xs = (n : Int) := ⟨(prod xs).toNat, by omega⟩
  have hn60 : n ≤ 60 := by omega
  have HN := Lib.hid hn
  have HX := Lib.hid hx
  have HV := Lib.hid hv
  clear hn hx hpr
  go_enter Try.func62, Try.ntmps62
  go_wp2_with fail
  refine (isShape_any _ _ _ _ _ (r1 _) hl).mono ?_; rw [hv]; rintro e w1 ⟨rfl, rfl⟩
  clear hv
  go_wp2_with fail
  go_loop [31] (fun i => ∃ k : Nat, k ≤ xs.length ∧ i = .int .i64 k ∧ Before (outB (-60) 60) ss k) (fun i => xs.length - (intOf i).toNat)
  case atStart => exact ⟨0, Nat.zero_le _, rfl, fun j hj => absurd hj (by omega)⟩
  case round =>
    obtain ⟨k, hk, rfl, hbf⟩ := hrel
    have HB := Lib.hid hbf
    clear hbf
    by_cases hlt : k < xs.length
    · obtain ⟨ad, y, rfl, _, hcell, HY⟩ := (r2 (.cells #[.int .i64 b, .slice A xs.length c, .slice A' xs.length c'] 31)).get (j := k) (by rw [HL.out]; exact hlt)
      by_cases hp : -60 ≤ y ∧ y ≤ 60
      · obtain ⟨p1, p2⟩ := hp
        have HP := Lib.hid (show outB (-60) 60 y = false by simp [outB, inB]; omega)
        go_wp2_with fail
        go_round
        case rel => exact ⟨k + 1, hlt, by go_num, HB.out.succ HY HP.out⟩
        case measure => simp [intOf]; omega
      · have HR : Hid (viewB b xs ss = false) := by
          have := any_hit (p := outB (-60) 60) (by rw [HL.out]; exact hlt) HY (by simp [outB, inB]; omega)
          exact viewB_4 (by simp [allB, this])
        rcases (show y < -60 ∨ (-60 ≤ y ∧ 60 < y) by omega) with hp | ⟨hp, hp2⟩
        all_goals
          go_wp2_with fail
          (go_ret; exact ⟨ret_bool (by rw [HR.out]), (by (repeat' (first | (with_reducible exact Below.refl _ _) | (with_reducible assumption) | (with_reducible refine Below.setCell ?_ ?_ _) | (with_reducible refine Below.al ?_ _) | (with_reducible refine Below.drew ?_) | (with_reducible refine Below.drN ?_ _) | (with_reducible refine Below.step ?_ (by assumption)) | (with_reducible refine Below.alloc ?_ ?_ _))); all_goals (simp; try omega))⟩)
    · obtain rfl : k = xs.length := by omega
      have ha : allB (-60) 60 ss = true := by
        have := any_miss (p := outB (-60) 60) (xs := ss) (by rw [HL.out]; exact HB.out)
        simp [allB, this]
      have HS : Hid (StrL ss) := fun j hj => all_get ha hj
      have HR := Lib.hid ((viewB_5 HV.out HL.out hb0 hb1 ha HN.out).trans (show allB 0 59 (offs b xs ss n) = !(offs b xs ss n).any badCell by simp [allB, badCell_eq]))
      have HLO := Lib.hid (offs_length b xs ss n)
      clear ha
      go_wp2_with fail
      have e1 : (Value.slice A' xs.length c') = Value.slice A' ss.length c' := by rw [HL.out]
      rw [e1]
      refine (iOffsetsOf_any _ _ _ _ _ _ _ n _ (r1 _) (r2 _) hb0 hb1 HX.out HS.out HL.out HN.out (by omega)).mono ?_; rintro e w1 ⟨A1, c1, rfl, ho1, hb2⟩
      clear e1
      go_wp2_with fail
      refine (isView_has _ _ _ _ ho1.rd (by rw [HLO.out]; simp only [maxLen]; omega)).mono ?_; rintro e w2 ⟨rfl, hb3⟩
      go_wp2_with fail
      (go_ret; exact ⟨ret_bool (by rw [HR.out]), (by (repeat' (first | (with_reducible exact Below.refl _ _) | (with_reducible assumption) | (with_reducible refine Below.setCell ?_ ?_ _) | (with_reducible refine Below.al ?_ _) | (with_reducible refine Below.drew ?_) | (with_reducible refine Below.drN ?_ _) | (with_reducible refine Below.step ?_ (by assumption)) | (with_reducible refine Below.alloc ?_ ?_ _))); all_goals (simp; try omega))⟩)

set_option maxHeartbeats 3200000 in
theorem validView_any (b : Int) (A A' : Option Addr) (c c' : Nat) (xs ss : List Int) (w : World) (h1 : Rd w w.heap.size .i64 A xs) (h2 : Rd w w.heap.size .i64 A' ss) (hl : xs.length ≤ maxLen) (hl' : ss.length ≤ maxLen) :
    Calls Try.prog 59 #[.agg #[.int .i64 b, .slice A xs.length c, .slice A' ss.length c']] w (Ret w (.bool (viewB b xs ss))) := by
  have hl2 := hl
  have hl2' := hl'
  unfold maxLen at hl2 hl2'
  have r1 := fun o : Obj => (h1.alloc (Nat.le_refl _) o).more (B' := (w.alloc o).heap.size) (by simp)
  have r2 := fun o : Obj => (h2.alloc (Nat.le_refl _) o).more (B' := (w.alloc o).heap.size) (by simp)
  rcases hv : shapeB xs with _ | _
  · have HR := Lib.hid (viewB_1 (b := b) (ss := ss) hv)
    go_enter Try.func59, Try.ntmps59
    go_wp2_with fail
    (refine (validShape_same _ _ _ _ (r1 _) hl).mono ?_; rw [hv]; rintro e w1 ⟨rfl, rfl⟩; go_wp2_with fail)
    (go_ret; exact ⟨ret_bool (by rw [HR.out]), (by (repeat' (first | (with_reducible exact Below.refl _ _) | (with_reducible assumption) | (with_reducible refine Below.setCell ?_ ?_ _) | (with_reducible refine Below.al ?_ _) | (with_reducible refine Below.drew ?_) | (with_reducible refine Below.drN ?_ _) | (with_reducible refine Below.step ?_ (by assumption)) | (with_reducible refine Below.alloc ?_ ?_ _))); all_goals (simp; try omega))⟩)
  by_cases hle : ss.length = xs.length
  case neg =>
    have HR := Lib.hid (viewB_2 (b := b) hle)
    have hne : ((ss.length : Int) == (xs.length : Int)) = false := by simp; omega
    go_enter Try.func59, Try.ntmps59
    go_wp2_with fail
    (refine (validShape_same _ _ _ _ (r1 _) hl).mono ?_; rw [hv]; rintro e w1 ⟨rfl, rfl⟩; go_wp2_with fail)
    (go_ret; exact ⟨ret_bool (by rw [HR.out]), (by (repeat' (first | (with_reducible exact Below.refl _ _) | (with_reducible assumption) | (with_reducible refine Below.setCell ?_ ?_ _) | (with_reducible refine Below.al ?_ _) | (with_reducible refine Below.drew ?_) | (with_reducible refine Below.drN ?_ _) | (with_reducible refine Below.step ?_ (by assumption)) | (with_reducible refine Below.alloc ?_ ?_ _))); all_goals (simp; try omega))⟩)
  have HL := Lib.hid hle
  have hR2 := fun o => (r2 o)
  rw [hle]
  clear hle
  have RS : Rd (w.alloc (.cells #[.int .i64 b, .slice A xs.length c, .slice A' xs.length c'] 31)) (w.alloc (.cells #[.int .i64 b, .slice A xs.length c, .slice A' xs.length c'] 31)).heap.size .i64 A' ss := r2 _
  have E1 := Lib.hid (show (Value.slice A' xs.length c') = Value.slice A' ss.length c' by rw [HL.out])
  rcases ha : allB (-60) 60 ss with _ | _
  · have HR := Lib.hid (viewB_4 (b := b) (xs := xs) ha)
    go_enter Try.func59, Try.ntmps59
    go_wp2_with fail
    (refine (validShape_same _ _ _ _ (r1 _) hl).mono ?_; rw [hv]; rintro e w1 ⟨rfl, rfl⟩; go_wp2_with fail)
    rw [E1.out]
    (refine (allIn_same _ _ _ _ _ _ _ (r2 _) hl').mono ?_; rw [ha]; rintro e w1 ⟨rfl, rfl⟩; go_wp2_with fail)
    (go_ret; exact ⟨ret_bool (by rw [HR.out]), (by (repeat' (first | (with_reducible exact Below.refl _ _) | (with_reducible assumption) | (with_reducible refine Below.setCell ?_ ?_ _) | (with_reducible refine Below.al ?_ _) | (with_reducible refine Below.drew ?_) | (with_reducible refine Below.drN ?_ _) | (with_reducible refine Below.step ?_ (by assumption)) | (with_reducible refine Below.alloc ?_ ?_ _))); all_goals (simp; try omega))⟩)
  by_cases hb : 0 ≤ b ∧ b ≤ 60
  case neg =>
    have HR := Lib.hid (viewB_3 (xs := xs) (ss := ss) hb)
    have hi : inB b 0 60 = false := by simp [inB]; omega
    go_enter Try.func59, Try.ntmps59
    go_wp2_with fail
    (refine (validShape_same _ _ _ _ (r1 _) hl).mono ?_; rw [hv]; rintro e w1 ⟨rfl, rfl⟩; go_wp2_with fail)
    rw [E1.out]
    (refine (allIn_same _ _ _ _ _ _ _ (r2 _) hl').mono ?_; rw [ha]; rintro e w1 ⟨rfl, rfl⟩; go_wp2_with fail)
    refine (inRange_any _ _ _ _).mono ?_; rw [hi]; rintro e w1 ⟨rfl, rfl⟩
    go_wp2_with fail
    (go_ret; exact ⟨ret_bool (by rw [HR.out]), (by (repeat' (first | (with_reducible exact Below.refl _ _) | (with_reducible assumption) | (with_reducible refine Below.setCell ?_ ?_ _) | (with_reducible refine Below.al ?_ _) | (with_reducible refine Below.drew ?_) | (with_reducible refine Below.drN ?_ _) | (with_reducible refine Below.step ?_ (by assumption)) | (with_reducible refine Below.alloc ?_ ?_ _))); all_goals (simp; try omega))⟩)
  obtain ⟨hb0, hb1⟩ := hb
  have hi : inB b 0 60 = true := by simp [inB]; omega
  have hx := ext_shape hv
  have hpr := prod_shape hv
  obtain ⟨n, hn⟩ : ∃ n : Nat, prod xs = (n : Int) := ⟨(prod xs).toNat, by omega⟩
  have hn60 : n ≤ 60 := by omega
  have HN := Lib.hid hn
  have HX := Lib.hid hx
  have HS : Hid (StrL ss) := fun j hj => all_get ha hj
  have HR := Lib.hid (viewB_5 hv HL.out hb0 hb1 ha hn)
  have HLO := Lib.hid (offs_length b xs ss n)
  clear hn hx hpr
  by_cases h0 : n = 0
  · subst h0
    have HR0 : Hid (viewB b xs ss = true) := HR.out.trans (by simp [offs, allB])
    go_enter Try.func59, Try.ntmps59
    go_wp2_with fail
    (refine (validShape_same _ _ _ _ (r1 _) hl).mono ?_; rw [hv]; rintro e w1 ⟨rfl, rfl⟩; go_wp2_with fail)
    rw [E1.out]
    (refine (allIn_same _ _ _ _ _ _ _ (r2 _) hl').mono ?_; rw [ha]; rintro e w1 ⟨rfl, rfl⟩; go_wp2_with fail)
    refine (inRange_any _ _ _ _).mono ?_; rw [hi]; rintro e w1 ⟨rfl, rfl⟩
    go_wp2_with fail
    refine (count_any _ _ _ _ _ (r1 _) HX.out).mono ?_; rw [HN.out]; rintro e w1 ⟨rfl, rfl⟩
    go_wp2_with fail
    go_ret
    exact ⟨ret_bool (by rw [HR0.out]), (by (repeat' (first | (with_reducible exact Below.refl _ _) | (with_reducible assumption) | (with_reducible refine Below.setCell ?_ ?_ _) | (with_reducible refine Below.al ?_ _) | (with_reducible refine Below.drew ?_) | (with_reducible refine Below.drN ?_ _) | (with_reducible refine Below.step ?_ (by assumption)) | (with_reducible refine Below.alloc ?_ ?_ _))); all_goals (simp; try omega))⟩
  · have hn0 : ((n : Int) == 0) = false := by simp; omega
    go_enter Try.func59, Try.ntmps59
    go_wp2_with fail
    (refine (validShape_same _ _ _ _ (r1 _) hl).mono ?_; rw [hv]; rintro e w1 ⟨rfl, rfl⟩; go_wp2_with fail)
    rw [E1.out]
    (refine (allIn_same _ _ _ _ _ _ _ (r2 _) hl').mono ?_; rw [ha]; rintro e w1 ⟨rfl, rfl⟩; go_wp2_with fail)
    refine (inRange_any _ _ _ _).mono ?_; rw [hi]; rintro e w1 ⟨rfl, rfl⟩
    go_wp2_with fail
    refine (count_any _ _ _ _ _ (r1 _) HX.out).mono ?_; rw [HN.out]; rintro e w1 ⟨rfl, rfl⟩
    go_wp2_with fail
    refine (sOffsets_any _ _ _ _ _ _ _ n _ (r1 _) (r2 _) hb0 hb1 HX.out HS.out HL.out HN.out (by omega)).mono ?_; rintro e w1 ⟨A1, c1, rfl, ho1, hb2⟩
    go_wp2_with fail
    refine (allIn_same _ _ _ _ _ _ _ ho1.rd (by rw [HLO.out]; simp only [maxLen]; omega)).mono ?_; rintro e w1 ⟨rfl, rfl⟩
    go_wp2_with fail
    go_ret
    exact ⟨ret_bool (by rw [HR.out]), (by (repeat' (first | (with_reducible exact Below.refl _ _) | (with_reducible assumption) | (with_reducible refine Below.setCell ?_ ?_ _) | (with_reducible refine Below.al ?_ _) | (with_reducible refine Below.drew ?_) | (with_reducible refine Below.drN ?_ _) | (with_reducible refine Below.step ?_ (by assumption)) | (with_reducible refine Below.alloc ?_ ?_ _))); all_goals (simp; try omega))⟩
end Go.Proofs.Ytnfoofoeimaodaa
