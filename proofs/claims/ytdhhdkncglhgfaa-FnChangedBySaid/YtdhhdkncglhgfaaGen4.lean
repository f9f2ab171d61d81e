/- The generator of two memories. -/
import Derived.Test.YtdhhdkncglhgfaaGen3
set_option linter.unusedSimpArgs false
set_option linter.unusedVariables false
namespace Go.Proofs.Ytdhhdkncglhgfaa
open Go.RowKit

set_option maxHeartbeats 3200000 in
theorem DrawChangedBy_any (A : Option Addr) (n : Nat) (bs : List Int) (w : World) (hr : Rd w w.heap.size .u8 A bs) (hl : bs.length ≤ maxLen) (hc : bs.length ≤ n) (hb : ∀ x ∈ bs, 0 ≤ x ∧ x ≤ 255) :
    Calls Try.prog 41 #[.slice A bs.length n] w fun e w' => ∃ A1 c1 xs A2 c2 ys, e = .returned (.tuple #[.slice A1 xs.length c1, .slice A2 ys.length c2]) ∧ xs.length ≤ 60 ∧ ys.length ≤ 60 ∧ Rd w' w'.heap.size .i64 A1 xs ∧ Rd w' w'.heap.size .i64 A2 ys ∧ Below w.heap.size w w' := by
  go_enter Try.func41, Try.ntmps41
  go_wp2_with fail
  refine (newReader_any A n bs _ hr hl hc hb).mono ?_; rintro e w1 ⟨g, rfl, hR1, hb1⟩
  have g1 := hR1.ge
  have l1 := hR1.lt
  go_wp2_with fail
  refine (someMemory_any _ g _ _ hR1 (by omega)).mono ?_; rintro e w2 ⟨A2, c2, xs, rfl, hx0, hx1, _, ho2, hR2, hg2⟩
  have hb2 := below_some hb1 hg2 (by omega)
  have z2 := hg2.size
  have ra2 := ho2.rd
  have hne : blk A2 = none ∨ blk A2 ≠ some g := by
    rcases e : blk A2 with _ | k
    · exact .inl rfl
    · refine .inr fun e' => ?_
      have := (ho2.ge k e).1
      injection e' with e'
      omega
  go_wp2_with fail
  refine (copyInts_any _ _ _ _ ra2 (by omega)).mono ?_; rintro e w3 ⟨A3, c3, rfl, ho3, hb3⟩
  have hR3 := hR2.below hb3
  have ra3 := ra2.below hb3
  have hb03 := hb2.step hb3
  have z3 := hb3.size
  have hc3 := ho3.cap_le
  have hg2' : g < w2.heap.size := by omega
  go_wp2_with fail
  refine (pick_any _ g _ _ _ (by repeat' (first | (with_reducible assumption) | (with_reducible apply Rdr.alloc) | (with_reducible apply Rdr.drew) | (with_reducible apply Rdr.set) | omega)) (by omega) (by omega)).mono ?_; rintro e w4 ⟨x4, rfl, p4, _, q4, hR4, hg4⟩
  have q4 := q4 (by omega)
  obtain ⟨m, rfl⟩ := Int.eq_ofNat_of_zero_le p4
  have o4 := ho3.gr hg4 hg2'
  have ra4 := ra3.kept hg4 hne
  have hb4 := below_some hb03 hg4 (by omega)
  have z4 := hg4.size
  obtain ⟨N, hN⟩ : ∃ N, N = xs.length := ⟨_, rfl⟩
  have HN := Lib.hid hN
  rw [← hN] at hx0 hx1 hc3
  clear hR1 hR2 hR3 ho2 ho3 hb1 hb2 hb3 hb03 ra2 ra3 hg2 hg4 hr hb
  go_wp2_with fail
  go_loopw [7] (fun v wr => ∃ (j : Nat) (ys : List Int), j ≤ 3 ∧ v = .int .i64 j ∧ ys.length = xs.length ∧ Own wr w2.heap.size A3 c3 ys ∧ Rd wr w2.heap.size .i64 A2 xs ∧ Rdr wr w.heap.size g (200 - 2 * j) ∧ Below w.heap.size w wr ∧ w2.heap.size ≤ wr.heap.size) (fun v _ => (intOf v).toNat)
  case atStart => exact ⟨m, xs, by omega, rfl, rfl, o4, ra4, hR4.le (by omega), hb4, by omega⟩
  case round =>
    clear o4 ra4 hR4 hb4 z4
    obtain ⟨j, ys, hj, rfl, hly, ho, hra, hR, hbl, hzz⟩ := hrel
    have hN := HN.out
    rcases j with _ | j
    · go_wp2_with fail
      refine (pick_any _ g _ _ _ (by repeat' (first | (with_reducible assumption) | (with_reducible apply Rdr.alloc) | (with_reducible apply Rdr.drew) | (with_reducible apply Rdr.set) | omega)) (by omega) (by omega)).mono ?_; rintro e w5 ⟨x5, rfl, p5, _, q5, hR5, hg5⟩
      have o5 := ho.gr hg5 hg2'
      have ra5 := hra.kept hg5 hne
      have hb5 := below_some hbl hg5 (by omega)
      have z5 := hg5.size
      by_cases hx5 : x5 = 0
      · obtain ⟨gb, y, rfl, _, _, _, _, _⟩ := o5.at_ (j := 0) (by omega)
        have hd1 : Rd w5 w5.heap.size .i64 (some ⟨gb, 1, none⟩) (ys.drop 1) := by
          have := o5.rd.cut 1
          simpa [Addr.add] using this
        have hd0 : Hid (c3 = 1 → Rd w5 w5.heap.size .i64 (some ⟨gb, 0, none⟩) (ys.drop 1)) := fun h => by
          have : ys.drop 1 = [] := List.drop_of_length_le (by omega)
          rw [this]; exact Rd.nil _ _ _ _
        have i1 : (1 : Int) ≤ (xs.length : Int) := by omega
        have i2 : (xs.length : Int) ≤ (c3 : Int) := by omega
        have hld : (ys.drop 1).length = xs.length - 1 := by rw [List.length_drop]; omega
        have HLD := Lib.hid hld
        clear hN hly hld
        go_wp2_with fail
        all_goals go_ret2
        · exact ⟨A2, c2, xs, some ⟨gb, 0, none⟩, 0, ys.drop 1, by rw [HLD.out]; rfl, by omega, by rw [HLD.out]; omega, ra5.more (by omega), hd0.out (by first | assumption | omega), hb5⟩
        · exact ⟨A2, c2, xs, some ⟨gb, 1, none⟩, c3 - 1, ys.drop 1, by rw [HLD.out]; rfl, by omega, by rw [HLD.out]; omega, ra5.more (by omega), hd1, hb5⟩
      · clear hN
        go_wp2_with fail
        go_ret2
        exact ⟨A2, c2, xs, A3, c3, ys, by rw [hly]; rfl, by omega, by omega, ra5.more (by omega), o5.rd, hb5⟩
    · go_wp2_with fail
      refine (pick_any _ g _ _ _ (by repeat' (first | (with_reducible assumption) | (with_reducible apply Rdr.alloc) | (with_reducible apply Rdr.drew) | (with_reducible apply Rdr.set) | omega)) (by omega) (by omega)).mono ?_; rintro e w5 ⟨x5, rfl, p5, _, q5, hR5, hg5⟩
      have q5 := q5 (by omega)
      have o5 := ho.gr hg5 hg2'
      have ra5 := hra.kept hg5 hne
      have hb5 := below_some hbl hg5 (by omega)
      have z5 := hg5.size
      go_wp2_with fail
      refine (pick_any _ g _ _ _ (by repeat' (first | (with_reducible assumption) | (with_reducible apply Rdr.alloc) | (with_reducible apply Rdr.drew) | (with_reducible apply Rdr.set) | omega)) (by omega) (by omega)).mono ?_; rintro e w6 ⟨x6, rfl, p6, _, q6, hR6, hg6⟩
      have o6 := o5.gr hg6 hg2'
      have ra6 := ra5.kept hg6 hne
      have hb6 := below_some hb5 hg6 (by omega)
      have z6 := hg6.size
      obtain ⟨k, rfl⟩ := Int.eq_ofNat_of_zero_le p5
      obtain ⟨gb, y, rfl, hgb, _, hcell, hfz, _⟩ := o6.at_ (j := k) (by omega)
      have HO := Lib.hid (o6.set k x6)
      have i1 : (0 : Int) ≤ (k : Int) := by omega
      have i2 : (k : Int) < (xs.length : Int) := by omega
      clear o5 o6 ho hN
      go_wp2_with fail
      go_roundw
      case rel =>
        refine ⟨j, ys.set k x6, by omega, by go_num, by rw [List.length_set]; exact hly, HO.out, ?_, (hR6.set (by omega) (by omega) _).le (by omega), hb6.setCell (by simp; omega) _, by simp; omega⟩
        refine ra6.keep fun p hp => World.cell?_setCell_other _ _ _ _ ?_
        intro e; rw [← e] at hp; simp at hp; omega
      case measure => simp [intOf]
end Go.Proofs.Ytdhhdkncglhgfaa
