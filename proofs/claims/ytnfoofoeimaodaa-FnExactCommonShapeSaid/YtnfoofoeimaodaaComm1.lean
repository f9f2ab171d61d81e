/- The walks over shapes, further: the shape to which two shapes are spread. -/
import Derived.Test.YtnfoofoeimaodaaShape4
import Derived.Test.YtnfoofoeimaodaaTens1
set_option linter.unusedVariables false
namespace Go.Proofs.Ytnfoofoeimaodaa
open Go.RowKit

/-- The extent of a dimension from the last one on, 1 if there is none. -/
def ex (a : List Int) (i : Nat) : Int := if i < a.length then a.getD (a.length - 1 - i) 0 else 1
theorem ex_in {a : List Int} {i : Nat} (h : i < a.length) : ex a i = a.getD (a.length - 1 - i) 0 := if_pos h
theorem ex_out {a : List Int} {i : Nat} (h : a.length ≤ i) : ex a i = 1 := if_neg (by omega)
/-- The extent to which two are spread. -/
def cv (a b : List Int) (i : Nat) : Int := if ex a i = 1 then ex b i else ex a i
def okB (a b : List Int) (i : Nat) : Bool := decide (ex a i = ex b i ∨ ex a i = 1 ∨ ex b i = 1)
/-- The last k extents. -/
def csL (a b : List Int) : Nat → List Int
  | 0 => []
  | k + 1 => cv a b k :: csL a b k
theorem csL_length (a b : List Int) (k : Nat) : (csL a b k).length = k := by
  induction k with
  | zero => rfl
  | succ k ih => simp [csL, ih]
def OkTo (a b : List Int) (k : Nat) : Prop := ∀ j, j < k → okB a b j = true
theorem OkTo.succ {a b : List Int} {k : Nat} (h : OkTo a b k) (h1 : okB a b k = true) : OkTo a b (k + 1) := by
  intro j hj
  rcases Nat.lt_or_ge j k with h' | h'
  · exact h j h'
  · have e : j = k := by omega
    rw [e]
    exact h1
def mx (a b : List Int) : Nat := if a.length ≤ b.length then b.length else a.length
def commB (a b : List Int) : Bool := shapeB a && (shapeB b && ((List.range (mx a b)).all (okB a b) && shapeB (csL a b (mx a b))))
def commL (a b : List Int) : List Int := if commB a b = true then csL a b (mx a b) else []
theorem comm_1 {a b : List Int} (h : shapeB a = false) : commB a b = false ∧ commL a b = [] := by simp [commB, commL, h]
theorem comm_2 {a b : List Int} (h : shapeB b = false) : commB a b = false ∧ commL a b = [] := by simp [commB, commL, h]
theorem comm_3 {a b : List Int} {j : Nat} (hj : j < mx a b) (h : okB a b j = false) : commB a b = false ∧ commL a b = [] := by
  have : (List.range (mx a b)).all (okB a b) = false := by
    rw [Bool.eq_false_iff]
    intro e
    rw [List.all_eq_true] at e
    have := e j (by simpa using hj)
    rw [h] at this
    cases this
  simp [commB, commL, this]
theorem comm_4 {a b : List Int} (h : shapeB (csL a b (mx a b)) = false) : commB a b = false ∧ commL a b = [] := by simp [commB, commL, h]
theorem comm_5 {a b : List Int} (h1 : shapeB a = true) (h2 : shapeB b = true) (h3 : OkTo a b (mx a b)) (h : shapeB (csL a b (mx a b)) = true) : commB a b = true ∧ commL a b = csL a b (mx a b) := by
  have : (List.range (mx a b)).all (okB a b) = true := by
    rw [List.all_eq_true]
    intro j hj
    exact h3 j (by simpa using hj)
  have hb : commB a b = true := by simp [commB, h1, h2, this, h]
  exact ⟨hb, by simp [commL, hb]⟩
theorem commL_le (a b : List Int) : (commL a b).length ≤ 4 := by
  unfold commL
  split
  · rename_i h
    simp [commB] at h
    exact (ext_shape h.2.2.2).1
  · simp

def RetIntsB (w : World) (xs : List Int) (p : Bool) (e : Ending) (w' : World) : Prop :=
  ∃ A c, e = .returned (.tuple #[.slice A xs.length c, .bool p]) ∧ Own w' w.heap.size A c xs ∧ Below w.heap.size w w'
theorem ret_sb {S : Value} {p q : Bool} (h : p = q) : Ending.returned (.tuple #[S, .bool p]) = .returned (.tuple #[S, .bool q]) := by rw [h]

set_option maxHeartbeats 800000 in
theorem extentAt_any (A : Option Addr) (c B : Nat) (xs : List Int) (k : Nat) (w : World) (hr : Rd w B .i64 A xs) (hx : xs.length ≤ 100) (hk : k ≤ 100) :
    Calls Try.prog 76 #[.slice A xs.length c, .int .i64 (k : Int)] w fun e w' => e = .returned (.int .i64 (ex xs k)) ∧ w = w' := by
  by_cases h : k < xs.length
  · obtain ⟨ad, y, rfl, _, hcell, HY⟩ := hr.get (j := xs.length - 1 - k) (by omega)
    have HR : Hid (ex xs k = y) := by show _ = _; rw [ex_in h, HY.out]
    have i1 : (0 : Int) ≤ (xs.length : Int) - 1 - (k : Int) := by omega
    have i2 : (xs.length : Int) - 1 - (k : Int) < (xs.length : Int) := by omega
    have i3 : ((xs.length : Int) - 1 - (k : Int)).toNat = xs.length - 1 - k := by omega
    go_enter Try.func76, Try.ntmps76
    go_wp2_with fail
    go_ret
    exact ⟨ret_int (by rw [HR.out]), rfl⟩
  · have HR : Hid (ex xs k = 1) := ex_out (by omega)
    go_enter Try.func76, Try.ntmps76
    go_wp2_with fail
    go_ret
    exact ⟨ret_int (by rw [HR.out]), rfl⟩
end Go.Proofs.Ytnfoofoeimaodaa
