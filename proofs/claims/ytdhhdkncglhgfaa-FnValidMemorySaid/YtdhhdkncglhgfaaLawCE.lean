/- The walk of the law over memories. -/
import Derived.Test.YtdhhdkncglhgfaaGen3
import Derived.Test.YtdhhdkncglhgfaaMem
set_option linter.unusedVariables false
namespace Go.Proofs.Ytdhhdkncglhgfaa
open Go.RowKit

theorem mem_take {xs : List Int} (h : memB xs = true) (n : Nat) : memB (xs.take n) = true := by
  simp [memB, allB] at h ⊢
  refine ⟨by omega, fun x hx => h.2 x (List.mem_of_mem_take hx)⟩

theorem iValidMemory_len (A : Option Addr) (c m : Nat) (xs : List Int) (hm : xs.length = m) (w : World) (hr : Rd w w.heap.size .i64 A xs) (hl : xs.length ≤ maxLen) : Calls Try.prog 23 #[.slice A m c] w (Ret w (.bool (memB xs))) := by
  subst hm; exact iValidMemory_any A c xs w hr hl

set_option maxHeartbeats 1600000 in
theorem FnValidMemory_walk (A : Option Addr) (n : Nat) (bs : List Int) (w : World) (hr : Rd w w.heap.size .u8 A bs) (hl : bs.length ≤ maxLen) (hn : bs.length ≤ n) (hb : ∀ x ∈ bs, 0 ≤ x ∧ x ≤ 255) :
    Calls Try.prog 4 #[.slice A bs.length n] w (Ret w (.bool true)) := by
  by_cases hbig : bs.length > 1048576
  · go_enter Try.func4, Try.ntmps4
    go_wp2_with fail
    go_ret
    exact ⟨rfl, (by (repeat' (first | (with_reducible exact Below.refl _ _) | (with_reducible assumption) | (with_reducible refine Below.setCell ?_ ?_ _) | (with_reducible refine Below.al ?_ _) | (with_reducible refine Below.drew ?_) | (with_reducible refine Below.drN ?_ _) | (with_reducible refine Below.step ?_ (by assumption)) | (with_reducible refine Below.alloc ?_ ?_ _))); all_goals (simp; try omega))⟩
  go_enter Try.func4, Try.ntmps4
  go_wp2_with fail
  refine (DrawValidMemory_any A n bs _ hr hl hn hb).mono ?_; rintro e w1 ⟨A1, c1, xs, rfl, hx1, hxc, r1, hb1⟩
  clear hr hb
  have hxm : xs.length ≤ maxLen := by simp only [maxLen]; omega
  rcases hv : memB xs with _ | _
  · have HV := Lib.hid hv
    clear hv
    go_wp2_with fail
    refine (iValidMemory_any _ _ _ _ r1 hxm).mono ?_; rw [HV.out]; rintro e w2 ⟨rfl, hb2⟩
    have r2 := r1.to hb2
    go_wp2_with fail
    refine (sValidMemory_any _ _ _ _ r2 hxm).mono ?_; rw [HV.out]; rintro e w3 ⟨rfl, hb3⟩
    have r3 := r2.to hb3
    go_wp2_with fail
    refine (sValidMemory_any _ _ _ _ r3 hxm).mono ?_; rw [HV.out]; rintro e w4 ⟨rfl, hb4⟩
    go_wp2_with fail
    go_ret
    exact ⟨rfl, (by (repeat' (first | (with_reducible exact Below.refl _ _) | (with_reducible assumption) | (with_reducible refine Below.setCell ?_ ?_ _) | (with_reducible refine Below.al ?_ _) | (with_reducible refine Below.drew ?_) | (with_reducible refine Below.drN ?_ _) | (with_reducible refine Below.step ?_ (by assumption)) | (with_reducible refine Below.alloc ?_ ?_ _))); all_goals (simp; try omega))⟩
  · have HV := Lib.hid hv
    have HT := Lib.hid (mem_take hv (xs.length / 2))
    have HN := Lib.hid (show memB [] = true by rfl)
    have q1 : (xs.length : Int) / 2 ≤ (xs.length : Int) := by omega
    have q0 : 0 ≤ (xs.length : Int) / 2 := by omega
    have qc : (xs.length : Int) / 2 ≤ (c1 : Int) := by omega
    have u1 := IntWalk.i64_in ((xs.length : Int) / 2) (by omega)
    have htm : (xs.take (xs.length / 2)).length ≤ maxLen := by rw [List.length_take]; simp only [maxLen]; omega
    have hlt : (xs.take (xs.length / 2)).length = xs.length / 2 := by rw [List.length_take]; omega
    clear hv
    go_wp2_with fail
    refine (iValidMemory_any _ _ _ _ r1 hxm).mono ?_; rw [HV.out]; rintro e w2 ⟨rfl, hb2⟩
    have r2 := r1.to hb2
    go_wp2_with fail
    refine (sValidMemory_any _ _ _ _ r2 hxm).mono ?_; rw [HV.out]; rintro e w3 ⟨rfl, hb3⟩
    have r3 := r2.to hb3
    go_wp2_with fail
    refine (iValidMemory_len _ _ _ _ hlt _ (r3.take _) htm).mono ?_; rw [HT.out]; rintro e w4 ⟨rfl, hb4⟩
    go_wp2_with fail
    refine (iValidMemory_any none 0 [] _ (Rd.nil _ _ _ _) (by simp [maxLen])).mono ?_; rw [HN.out]; rintro e w5 ⟨rfl, hb5⟩
    go_wp2_with fail
    go_ret
    exact ⟨rfl, (by (repeat' (first | (with_reducible exact Below.refl _ _) | (with_reducible assumption) | (with_reducible refine Below.setCell ?_ ?_ _) | (with_reducible refine Below.al ?_ _) | (with_reducible refine Below.drew ?_) | (with_reducible refine Below.drN ?_ _) | (with_reducible refine Below.step ?_ (by assumption)) | (with_reducible refine Below.alloc ?_ ?_ _))); all_goals (simp; try omega))⟩
end Go.Proofs.Ytdhhdkncglhgfaa
