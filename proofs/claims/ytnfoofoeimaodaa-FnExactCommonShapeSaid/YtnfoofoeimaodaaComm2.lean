/- The walks over shapes, further: the shape to which two shapes are spread, as the reference finds it. -/
import Derived.Test.YtnfoofoeimaodaaComm1
set_option linter.unusedVariables false
namespace Go.Proofs.Ytnfoofoeimaodaa
open Go.RowKit
theorem cv_one {a b : List Int} {k : Nat} {x y : Int} (hx : Hid (ex a k = x)) (hy : Hid (ex b k = y)) (h : x = 1) : cv a b k = y ∧ okB a b k = true := by
  have h1 := hx.out
  have h2 := hy.out
  subst h
  simp [cv, okB, h1, h2]
theorem cv_same {a b : List Int} {k : Nat} {x y : Int} (hx : Hid (ex a k = x)) (hy : Hid (ex b k = y)) (h : x = y ∨ y = 1) : cv a b k = x ∧ okB a b k = true := by
  have h1 := hx.out
  have h2 := hy.out
  rcases h with h | h
  · subst h
    by_cases hh : x = 1 <;> simp [cv, okB, h1, h2, hh]
  · subst h
    by_cases hh : x = 1 <;> simp [cv, okB, h1, h2, hh]
theorem cv_not {a b : List Int} {k : Nat} {x y : Int} (hx : Hid (ex a k = x)) (hy : Hid (ex b k = y)) (h1 : x ≠ y) (h2 : x ≠ 1) (h3 : y ≠ 1) : okB a b k = false := by
  have e1 := hx.out
  have e2 := hy.out
  simp [okB, e1, e2]
  exact ⟨h1, h2, h3⟩
set_option maxHeartbeats 6400000 in
theorem sCommB_any (A A' : Option Addr) (c c' : Nat) (a b : List Int) (w : World) (hr : Rd w w.heap.size .i64 A a) (hr' : Rd w w.heap.size .i64 A' b) (hv : shapeB a = true) (hv' : shapeB b = true) (hle : a.length<b.length) :
    Calls Try.prog 41 #[.slice A a.length c, .slice A' b.length c'] w (RetIntsB w (commL a b) (commB a b)) := by
  have ha4 := (ext_shape hv).1
  have hb4 := (ext_shape hv').1
  have hl : a.length ≤ maxLen := by simp only [maxLen]; omega
  have hl' : b.length ≤ maxLen := by simp only [maxLen]; omega
  have V1 := Lib.hid hv
  have V2 := Lib.hid hv'
  have HN : Hid (mx a b = b.length) := by show _ = _; rw [mx]; split <;> omega
  go_enter Try.func41, Try.ntmps41
  go_wp2_with fail
  refine (validShape_same _ _ _ _ hr hl).mono ?_; rw [hv]; rintro e w1 ⟨rfl, rfl⟩
  go_wp2_with fail
  refine (validShape_same _ _ _ _ hr' hl').mono ?_; rw [hv']; rintro e w1 ⟨rfl, rfl⟩
  clear hv hv' hl hl'
  go_wp2_with (at_make; refine wpList_mk1 _ rfl _ (by rfl) b.length _ (by rfl) rfl (by omega) ?_; intro w1 hown1 hb1 hz1)
  go_loopw [8] (fun i wr => ∃ k p : Nat, p + k = b.length ∧ i = .int .i64 k ∧ OkTo a b k ∧ Own wr w.heap.size (some ⟨w.heap.size, 0, none⟩) b.length (List.replicate p 0 ++ csL a b k) ∧ Below w.heap.size w wr) (fun i _ => b.length - (intOf i).toNat)
  case atStart => exact ⟨0, b.length, by omega, rfl, fun j hj => absurd hj (by omega), by rw [csL, List.append_nil]; exact hown1, hb1⟩
  case round =>
    obtain ⟨k, q, hkq, rfl, hg, hown, hbl⟩ := hrel
    have HG := Lib.hid hg
    clear hg
    have ra := hr.below hbl
    have rb := hr'.below hbl
    by_cases hlt : 0 < q
    · obtain ⟨p, rfl⟩ : ∃ p, q = p + 1 := ⟨q - 1, by omega⟩
      obtain ⟨x, HX⟩ : ∃ x, Hid (ex a k = x) := ⟨_, rfl⟩
      obtain ⟨y, HY⟩ : ∃ y, Hid (ex b k = y) := ⟨_, rfl⟩
      have hlen : (List.replicate (p + 1) (0 : Int) ++ csL a b k).length = b.length := by rw [List.length_append, List.length_replicate, csL_length]; omega
      obtain ⟨g, z, hg, _, _, hcz, hfz, _⟩ := hown.at_ (j := p) (by rw [hlen]; omega)
      injection hg with hg
      injection hg with hg _ _
      subst hg
      have i1 : (0 : Int) ≤ (b.length : Int) - 1 - (k : Int) := by omega
      have i2 : (b.length : Int) - 1 - (k : Int) < (b.length : Int) := by omega
      have i3 : ((b.length : Int) - 1 - (k : Int)).toNat = p := by omega
      have i4 : (k : Int) < (b.length : Int) := by omega
      have HS := fun v : Int => Lib.hid (hown.set p v)
      have hkn : k < b.length := by omega
      clear hlen hown hown1
      by_cases hxy : x = y
      · have HCV := Lib.hid (cv_same HX HY (.inl hxy)).1
        have HOK := Lib.hid (cv_same HX HY (.inl hxy)).2
        subst hxy
        have HO : Hid (Own (wr.setCell ⟨w.heap.size, p, none⟩ (.int .i64 x)) w.heap.size (some ⟨w.heap.size, 0, none⟩) b.length (List.replicate p 0 ++ x :: csL a b k)) := by have := (HS x).out; rw [fill_back] at this; exact this
        clear HS
        by_cases hx1 : x = 1
        · subst hx1
          have tok1 : True := trivial
          go_wp2_with (first | (go_at_call 76; have _t := tok1; refine (extentAt_any _ _ _ _ _ _ ra (by omega) (by omega)).mono ?_; rw [HX.out]; rintro e w1 ⟨rfl, rfl⟩; clear _t tok1) | (go_at_call 76; refine (extentAt_any _ _ _ _ _ _ rb (by omega) (by omega)).mono ?_; rw [HY.out]; rintro e w1 ⟨rfl, rfl⟩))
          (go_roundw; (case rel => exact ⟨k + 1, p, by omega, by go_num, HG.out.succ HOK.out, by rw [csL, HCV.out]; exact HO.out, hbl.setCell (Nat.le_refl _) _⟩); (case measure => simp [intOf]; omega))
        · have hx1' : (x == 1) = false := by simp; exact hx1
          clear hx1
          have tok1 : True := trivial
          go_wp2_with (first | (go_at_call 76; have _t := tok1; refine (extentAt_any _ _ _ _ _ _ ra (by omega) (by omega)).mono ?_; rw [HX.out]; rintro e w1 ⟨rfl, rfl⟩; clear _t tok1) | (go_at_call 76; refine (extentAt_any _ _ _ _ _ _ rb (by omega) (by omega)).mono ?_; rw [HY.out]; rintro e w1 ⟨rfl, rfl⟩))
          (go_roundw; (case rel => exact ⟨k + 1, p, by omega, by go_num, HG.out.succ HOK.out, by rw [csL, HCV.out]; exact HO.out, hbl.setCell (Nat.le_refl _) _⟩); (case measure => simp [intOf]; omega))
      · have hxy' : (x != y) = true := by simp; exact hxy
        by_cases hx1 : x = 1
        · have HCV := Lib.hid (cv_one HX HY hx1).1
          have HOK := Lib.hid (cv_one HX HY hx1).2
          subst hx1
          have HO : Hid (Own (wr.setCell ⟨w.heap.size, p, none⟩ (.int .i64 y)) w.heap.size (some ⟨w.heap.size, 0, none⟩) b.length (List.replicate p 0 ++ y :: csL a b k)) := by have := (HS y).out; rw [fill_back] at this; exact this
          clear HS hxy
          have tok1 : True := trivial
          go_wp2_with (first | (go_at_call 76; have _t := tok1; refine (extentAt_any _ _ _ _ _ _ ra (by omega) (by omega)).mono ?_; rw [HX.out]; rintro e w1 ⟨rfl, rfl⟩; clear _t tok1) | (go_at_call 76; refine (extentAt_any _ _ _ _ _ _ rb (by omega) (by omega)).mono ?_; rw [HY.out]; rintro e w1 ⟨rfl, rfl⟩))
          (go_roundw; (case rel => exact ⟨k + 1, p, by omega, by go_num, HG.out.succ HOK.out, by rw [csL, HCV.out]; exact HO.out, hbl.setCell (Nat.le_refl _) _⟩); (case measure => simp [intOf]; omega))
        · have hx1' : (x == 1) = false := by simp; exact hx1
          have hx2' : (x != 1) = true := by simp; exact hx1
          by_cases hy1 : y = 1
          · have HCV := Lib.hid (cv_same HX HY (.inr hy1)).1
            have HOK := Lib.hid (cv_same HX HY (.inr hy1)).2
            subst hy1
            have HO : Hid (Own (wr.setCell ⟨w.heap.size, p, none⟩ (.int .i64 x)) w.heap.size (some ⟨w.heap.size, 0, none⟩) b.length (List.replicate p 0 ++ x :: csL a b k)) := by have := (HS x).out; rw [fill_back] at this; exact this
            clear HS hxy hx1
            have tok1 : True := trivial
            go_wp2_with (first | (go_at_call 76; have _t := tok1; refine (extentAt_any _ _ _ _ _ _ ra (by omega) (by omega)).mono ?_; rw [HX.out]; rintro e w1 ⟨rfl, rfl⟩; clear _t tok1) | (go_at_call 76; refine (extentAt_any _ _ _ _ _ _ rb (by omega) (by omega)).mono ?_; rw [HY.out]; rintro e w1 ⟨rfl, rfl⟩))
            (go_roundw; (case rel => exact ⟨k + 1, p, by omega, by go_num, HG.out.succ HOK.out, by rw [csL, HCV.out]; exact HO.out, hbl.setCell (Nat.le_refl _) _⟩); (case measure => simp [intOf]; omega))
          · have hy1' : (y != 1) = true := by simp; exact hy1
            have hk' : okB a b k = false := cv_not HX HY hxy hx1 hy1
            have HB := Lib.hid (comm_3 (a := a) (b := b) (j := k) (by rw [HN.out]; exact hkn) hk').1
            have HL := Lib.hid (comm_3 (a := a) (b := b) (j := k) (by rw [HN.out]; exact hkn) hk').2
            clear HS hxy hx1 hy1 hk'
            have tok1 : True := trivial
            go_wp2_with (first | (go_at_call 76; have _t := tok1; refine (extentAt_any _ _ _ _ _ _ ra (by omega) (by omega)).mono ?_; rw [HX.out]; rintro e w1 ⟨rfl, rfl⟩; clear _t tok1) | (go_at_call 76; refine (extentAt_any _ _ _ _ _ _ rb (by omega) (by omega)).mono ?_; rw [HY.out]; rintro e w1 ⟨rfl, rfl⟩))
            (go_ret2; exact ⟨none, 0, by rw [HB.out, HL.out]; rfl, by rw [HL.out]; exact Own.nil _ _, (by (repeat' (first | (with_reducible exact Below.refl _ _) | (with_reducible assumption) | (with_reducible refine Below.setCell ?_ ?_ _) | (with_reducible refine Below.al ?_ _) | (with_reducible refine Below.drew ?_) | (with_reducible refine Below.drN ?_ _) | (with_reducible refine Below.step ?_ (by assumption)) | (with_reducible refine Below.alloc ?_ ?_ _))); all_goals (simp; try omega))⟩)
    · obtain rfl : q = 0 := by omega
      obtain rfl : k = b.length := by omega
      have hO : Own wr w.heap.size (some ⟨w.heap.size, 0, none⟩) b.length (csL a b b.length) := by simpa using hown
      have HO := Lib.hid hO
      have HLL := Lib.hid (csL_length a b b.length)
      have rO : Rd wr wr.heap.size .i64 (some ⟨w.heap.size, 0, none⟩) (csL a b b.length) := hO.rd
      have zO : (csL a b b.length).length ≤ maxLen := by rw [csL_length]; simp only [maxLen]; omega
      have VS := validShape_same (some ⟨w.heap.size, 0, none⟩) b.length _ wr rO zO
      rw [csL_length] at VS
      have HVS := Lib.hid VS
      clear hown hown1 hO VS rO zO
      rcases hs : shapeB (csL a b b.length) with _ | _
      · have HB := Lib.hid (comm_4 (a := a) (b := b) (by rw [HN.out]; exact hs)).1
        have HL := Lib.hid (comm_4 (a := a) (b := b) (by rw [HN.out]; exact hs)).2
        go_wp2_with fail
        refine HVS.out.mono ?_; rw [hs]; rintro e w1 ⟨rfl, rfl⟩
        go_wp2_with fail
        (go_ret2; exact ⟨none, 0, by rw [HB.out, HL.out]; rfl, by rw [HL.out]; exact Own.nil _ _, (by (repeat' (first | (with_reducible exact Below.refl _ _) | (with_reducible assumption) | (with_reducible refine Below.setCell ?_ ?_ _) | (with_reducible refine Below.al ?_ _) | (with_reducible refine Below.drew ?_) | (with_reducible refine Below.drN ?_ _) | (with_reducible refine Below.step ?_ (by assumption)) | (with_reducible refine Below.alloc ?_ ?_ _))); all_goals (simp; try omega))⟩)
      · have HB := Lib.hid (comm_5 V1.out V2.out (by rw [HN.out]; exact HG.out) (by rw [HN.out]; exact hs)).1
        have HL := Lib.hid (comm_5 V1.out V2.out (by rw [HN.out]; exact HG.out) (by rw [HN.out]; exact hs)).2
        go_wp2_with fail
        refine HVS.out.mono ?_; rw [hs]; rintro e w1 ⟨rfl, rfl⟩
        go_wp2_with fail
        go_ret2
        exact ⟨_, _, by rw [HB.out, HL.out, HN.out, HLL.out]; rfl, by rw [HL.out, HN.out]; exact HO.out, hbl⟩
set_option maxHeartbeats 6400000 in
theorem sCommA_any (A A' : Option Addr) (c c' : Nat) (a b : List Int) (w : World) (hr : Rd w w.heap.size .i64 A a) (hr' : Rd w w.heap.size .i64 A' b) (hv : shapeB a = true) (hv' : shapeB b = true) (hle : b.length≤a.length) :
    Calls Try.prog 41 #[.slice A a.length c, .slice A' b.length c'] w (RetIntsB w (commL a b) (commB a b)) := by
  have ha4 := (ext_shape hv).1
  have hb4 := (ext_shape hv').1
  have hl : a.length ≤ maxLen := by simp only [maxLen]; omega
  have hl' : b.length ≤ maxLen := by simp only [maxLen]; omega
  have V1 := Lib.hid hv
  have V2 := Lib.hid hv'
  have HN : Hid (mx a b = a.length) := by show _ = _; rw [mx]; split <;> omega
  go_enter Try.func41, Try.ntmps41
  go_wp2_with fail
  refine (validShape_same _ _ _ _ hr hl).mono ?_; rw [hv]; rintro e w1 ⟨rfl, rfl⟩
  go_wp2_with fail
  refine (validShape_same _ _ _ _ hr' hl').mono ?_; rw [hv']; rintro e w1 ⟨rfl, rfl⟩
  clear hv hv' hl hl'
  go_wp2_with (at_make; refine wpList_mk1 _ rfl _ (by rfl) a.length _ (by rfl) rfl (by omega) ?_; intro w1 hown1 hb1 hz1)
  go_loopw [8] (fun i wr => ∃ k p : Nat, p + k = a.length ∧ i = .int .i64 k ∧ OkTo a b k ∧ Own wr w.heap.size (some ⟨w.heap.size, 0, none⟩) a.length (List.replicate p 0 ++ csL a b k) ∧ Below w.heap.size w wr) (fun i _ => a.length - (intOf i).toNat)
  case atStart => exact ⟨0, a.length, by omega, rfl, fun j hj => absurd hj (by omega), by rw [csL, List.append_nil]; exact hown1, hb1⟩
  case round =>
    obtain ⟨k, q, hkq, rfl, hg, hown, hbl⟩ := hrel
    have HG := Lib.hid hg
    clear hg
    have ra := hr.below hbl
    have rb := hr'.below hbl
    by_cases hlt : 0 < q
    · obtain ⟨p, rfl⟩ : ∃ p, q = p + 1 := ⟨q - 1, by omega⟩
      obtain ⟨x, HX⟩ : ∃ x, Hid (ex a k = x) := ⟨_, rfl⟩
      obtain ⟨y, HY⟩ : ∃ y, Hid (ex b k = y) := ⟨_, rfl⟩
      have hlen : (List.replicate (p + 1) (0 : Int) ++ csL a b k).length = a.length := by rw [List.length_append, List.length_replicate, csL_length]; omega
      obtain ⟨g, z, hg, _, _, hcz, hfz, _⟩ := hown.at_ (j := p) (by rw [hlen]; omega)
      injection hg with hg
      injection hg with hg _ _
      subst hg
      have i1 : (0 : Int) ≤ (a.length : Int) - 1 - (k : Int) := by omega
      have i2 : (a.length : Int) - 1 - (k : Int) < (a.length : Int) := by omega
      have i3 : ((a.length : Int) - 1 - (k : Int)).toNat = p := by omega
      have i4 : (k : Int) < (a.length : Int) := by omega
      have HS := fun v : Int => Lib.hid (hown.set p v)
      have hkn : k < a.length := by omega
      clear hlen hown hown1
      by_cases hxy : x = y
      · have HCV := Lib.hid (cv_same HX HY (.inl hxy)).1
        have HOK := Lib.hid (cv_same HX HY (.inl hxy)).2
        subst hxy
        have HO : Hid (Own (wr.setCell ⟨w.heap.size, p, none⟩ (.int .i64 x)) w.heap.size (some ⟨w.heap.size, 0, none⟩) a.length (List.replicate p 0 ++ x :: csL a b k)) := by have := (HS x).out; rw [fill_back] at this; exact this
        clear HS
        by_cases hx1 : x = 1
        · subst hx1
          have tok1 : True := trivial
          go_wp2_with (first | (go_at_call 76; have _t := tok1; refine (extentAt_any _ _ _ _ _ _ ra (by omega) (by omega)).mono ?_; rw [HX.out]; rintro e w1 ⟨rfl, rfl⟩; clear _t tok1) | (go_at_call 76; refine (extentAt_any _ _ _ _ _ _ rb (by omega) (by omega)).mono ?_; rw [HY.out]; rintro e w1 ⟨rfl, rfl⟩))
          (go_roundw; (case rel => exact ⟨k + 1, p, by omega, by go_num, HG.out.succ HOK.out, by rw [csL, HCV.out]; exact HO.out, hbl.setCell (Nat.le_refl _) _⟩); (case measure => simp [intOf]; omega))
        · have hx1' : (x == 1) = false := by simp; exact hx1
          clear hx1
          have tok1 : True := trivial
          go_wp2_with (first | (go_at_call 76; have _t := tok1; refine (extentAt_any _ _ _ _ _ _ ra (by omega) (by omega)).mono ?_; rw [HX.out]; rintro e w1 ⟨rfl, rfl⟩; clear _t tok1) | (go_at_call 76; refine (extentAt_any _ _ _ _ _ _ rb (by omega) (by omega)).mono ?_; rw [HY.out]; rintro e w1 ⟨rfl, rfl⟩))
          (go_roundw; (case rel => exact ⟨k + 1, p, by omega, by go_num, HG.out.succ HOK.out, by rw [csL, HCV.out]; exact HO.out, hbl.setCell (Nat.le_refl _) _⟩); (case measure => simp [intOf]; omega))
      · have hxy' : (x != y) = true := by simp; exact hxy
        by_cases hx1 : x = 1
        · have HCV := Lib.hid (cv_one HX HY hx1).1
          have HOK := Lib.hid (cv_one HX HY hx1).2
          subst hx1
          have HO : Hid (Own (wr.setCell ⟨w.heap.size, p, none⟩ (.int .i64 y)) w.heap.size (some ⟨w.heap.size, 0, none⟩) a.length (List.replicate p 0 ++ y :: csL a b k)) := by have := (HS y).out; rw [fill_back] at this; exact this
          clear HS hxy
          have tok1 : True := trivial
          go_wp2_with (first | (go_at_call 76; have _t := tok1; refine (extentAt_any _ _ _ _ _ _ ra (by omega) (by omega)).mono ?_; rw [HX.out]; rintro e w1 ⟨rfl, rfl⟩; clear _t tok1) | (go_at_call 76; refine (extentAt_any _ _ _ _ _ _ rb (by omega) (by omega)).mono ?_; rw [HY.out]; rintro e w1 ⟨rfl, rfl⟩))
          (go_roundw; (case rel => exact ⟨k + 1, p, by omega, by go_num, HG.out.succ HOK.out, by rw [csL, HCV.out]; exact HO.out, hbl.setCell (Nat.le_refl _) _⟩); (case measure => simp [intOf]; omega))
        · have hx1' : (x == 1) = false := by simp; exact hx1
          have hx2' : (x != 1) = true := by simp; exact hx1
          by_cases hy1 : y = 1
          · have HCV := Lib.hid (cv_same HX HY (.inr hy1)).1
            have HOK := Lib.hid (cv_same HX HY (.inr hy1)).2
            subst hy1
            have HO : Hid (Own (wr.setCell ⟨w.heap.size, p, none⟩ (.int .i64 x)) w.heap.size (some ⟨w.heap.size, 0, none⟩) a.length (List.replicate p 0 ++ x :: csL a b k)) := by have := (HS x).out; rw [fill_back] at this; exact this
            clear HS hxy hx1
            have tok1 : True := trivial
            go_wp2_with (first | (go_at_call 76; have _t := tok1; refine (extentAt_any _ _ _ _ _ _ ra (by omega) (by omega)).mono ?_; rw [HX.out]; rintro e w1 ⟨rfl, rfl⟩; clear _t tok1) | (go_at_call 76; refine (extentAt_any _ _ _ _ _ _ rb (by omega) (by omega)).mono ?_; rw [HY.out]; rintro e w1 ⟨rfl, rfl⟩))
            (go_roundw; (case rel => exact ⟨k + 1, p, by omega, by go_num, HG.out.succ HOK.out, by rw [csL, HCV.out]; exact HO.out, hbl.setCell (Nat.le_refl _) _⟩); (case measure => simp [intOf]; omega))
          · have hy1' : (y != 1) = true := by simp; exact hy1
            have hk' : okB a b k = false := cv_not HX HY hxy hx1 hy1
            have HB := Lib.hid (comm_3 (a := a) (b := b) (j := k) (by rw [HN.out]; exact hkn) hk').1
            have HL := Lib.hid (comm_3 (a := a) (b := b) (j := k) (by rw [HN.out]; exact hkn) hk').2
            clear HS hxy hx1 hy1 hk'
            have tok1 : True := trivial
            go_wp2_with (first | (go_at_call 76; have _t := tok1; refine (extentAt_any _ _ _ _ _ _ ra (by omega) (by omega)).mono ?_; rw [HX.out]; rintro e w1 ⟨rfl, rfl⟩; clear _t tok1) | (go_at_call 76; refine (extentAt_any _ _ _ _ _ _ rb (by omega) (by omega)).mono ?_; rw [HY.out]; rintro e w1 ⟨rfl, rfl⟩))
            (go_ret2; exact ⟨none, 0, by rw [HB.out, HL.out]; rfl, by rw [HL.out]; exact Own.nil _ _, (by (repeat' (first | (with_reducible exact Below.refl _ _) | (with_reducible assumption) | (with_reducible refine Below.setCell ?_ ?_ _) | (with_reducible refine Below.al ?_ _) | (with_reducible refine Below.drew ?_) | (with_reducible refine Below.drN ?_ _) | (with_reducible refine Below.step ?_ (by assumption)) | (with_reducible refine Below.alloc ?_ ?_ _))); all_goals (simp; try omega))⟩)
    · obtain rfl : q = 0 := by omega
      obtain rfl : k = a.length := by omega
      have hO : Own wr w.heap.size (some ⟨w.heap.size, 0, none⟩) a.length (csL a b a.length) := by simpa using hown
      have HO := Lib.hid hO
      have HLL := Lib.hid (csL_length a b a.length)
      have rO : Rd wr wr.heap.size .i64 (some ⟨w.heap.size, 0, none⟩) (csL a b a.length) := hO.rd
      have zO : (csL a b a.length).length ≤ maxLen := by rw [csL_length]; simp only [maxLen]; omega
      have VS := validShape_same (some ⟨w.heap.size, 0, none⟩) a.length _ wr rO zO
      rw [csL_length] at VS
      have HVS := Lib.hid VS
      clear hown hown1 hO VS rO zO
      rcases hs : shapeB (csL a b a.length) with _ | _
      · have HB := Lib.hid (comm_4 (a := a) (b := b) (by rw [HN.out]; exact hs)).1
        have HL := Lib.hid (comm_4 (a := a) (b := b) (by rw [HN.out]; exact hs)).2
        go_wp2_with fail
        refine HVS.out.mono ?_; rw [hs]; rintro e w1 ⟨rfl, rfl⟩
        go_wp2_with fail
        (go_ret2; exact ⟨none, 0, by rw [HB.out, HL.out]; rfl, by rw [HL.out]; exact Own.nil _ _, (by (repeat' (first | (with_reducible exact Below.refl _ _) | (with_reducible assumption) | (with_reducible refine Below.setCell ?_ ?_ _) | (with_reducible refine Below.al ?_ _) | (with_reducible refine Below.drew ?_) | (with_reducible refine Below.drN ?_ _) | (with_reducible refine Below.step ?_ (by assumption)) | (with_reducible refine Below.alloc ?_ ?_ _))); all_goals (simp; try omega))⟩)
      · have HB := Lib.hid (comm_5 V1.out V2.out (by rw [HN.out]; exact HG.out) (by rw [HN.out]; exact hs)).1
        have HL := Lib.hid (comm_5 V1.out V2.out (by rw [HN.out]; exact HG.out) (by rw [HN.out]; exact hs)).2
        go_wp2_with fail
        refine HVS.out.mono ?_; rw [hs]; rintro e w1 ⟨rfl, rfl⟩
        go_wp2_with fail
        go_ret2
        exact ⟨_, _, by rw [HB.out, HL.out, HN.out, HLL.out]; rfl, by rw [HL.out, HN.out]; exact HO.out, hbl⟩
end Go.Proofs.Ytnfoofoeimaodaa
