/- One number onto a slice of the call's own, at a step of a region that draws its order; small words for such regions. No condition. -/
import Derived.Test.YtoejfpncpgoboaaWords
import Derived.Deep.RegionHeld3
set_option linter.unusedVariables false
namespace Go.Proofs.Ytoejfpncpgoboaa
open Go.RowKit
theorem _root_.Go.RowKit.Below.stepB {B : Nat} {a b c : World} (h : Below B a b) (hB : B ≤ a.heap.size) (k : Below b.heap.size b c) : Below B a c := h.trans (k.mono (Nat.le_trans hB h.size))
theorem _root_.Go.RowKit.Below.alB {B : Nat} {a w : World} (h : Below B a w) (hB : B ≤ a.heap.size) (o : Obj) : Below B a (w.alloc o) := h.alloc (Nat.le_trans hB h.size) o
theorem keepBB {B : Nat} {W0 w1 : World} (h : Below B W0 w1) : Below B W0 w1 ∧ ∀ b o, b < B → w1.cell? ⟨b, o, none⟩ = W0.cell? ⟨b, o, none⟩ := ⟨h, fun b o hb => h.cell (p := ⟨b, o, none⟩) hb⟩
theorem keepB {W0 w1 : World} (h : Below W0.heap.size W0 w1) : Below W0.heap.size W0 w1 ∧ ∀ b o, b < W0.heap.size → w1.cell? ⟨b, o, none⟩ = W0.cell? ⟨b, o, none⟩ := ⟨h, bcel h⟩
/-- 'out = append(out, y)' at a step of a drawn region. -/
theorem stepApp1 {ops : Array Oper} {o : Oper} {a : Act} {K : Act → World → Prop} {Q : Exit → Act → World → Prop} {E : Prop} {w : World} (hgd : o.guard = none) (s x : Operand)
    (ho : o.op = .call { callee := .builtin .append, args := #[s, x], argTypes := #[30, 30] })
    (B : Nat) (A : Option Addr) (c n : Nat) (xs : List Int) (hs : a.eval s = .slice A n c) (hn : xs.length = n) (hown : Own w B A c xs)
    (b cx : Nat) (y : Int) (hx : a.eval x = .slice (some ⟨b, 0, none⟩) 1 cx) (hy : w.cell? ⟨b, 0, none⟩ = some (.int .i64 y)) (hlen : n ≤ 2000000000) (hB : B ≤ w.heap.size)
    (h : ∀ A' c' w', Own w' B A' c' (xs ++ [y]) → Below B w w' → K (a.put o.dst (.slice A' (n + 1) c')) w') : if Region.wanted o (yielded ops a.tmps) = true then Oper.wp Try.prog o a w K Q else E := by
  obtain ⟨i0, hi, hz0, hz1, hz2⟩ := info_parts Try.infoInt
  subst hn
  have hw : Region.wanted o (yielded ops a.tmps) = true := by simp [Region.wanted, hgd]
  rw [if_pos hw]
  refine wp_append_own w s x 30 ho B 3 i0 (.int .i64 0) 1 8 Try.underlying30 hi hz0 hz1 hz2 rfl (by omega) _ _ _ hs hown ⟨b, 0, none⟩ 1 cx [.int .i64 y] hx rfl ?_ ?_ (by simp only [maxLen]; omega) (by omega) hB ?_
  · intro j u hj
    match j, hj with
    | 0, hj => simp at hj; subst hj; exact hy
  · intro u hu
    simp at hu
    subst hu
    rfl
  · intro v' w' hown' hg _
    obtain ⟨A', c', rfl, ho'⟩ := own_form (xs := xs ++ [y]) (by simpa using hown') (by simp)
    exact h A' c' w' ho' ((Below.refl _ _).grown hg hB (fun k hk => (World.ownsRow.lt hown k hk).1))
end Go.Proofs.Ytoejfpncpgoboaa
