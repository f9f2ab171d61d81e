/- A list of numbers onto a slice of the call's own; the copy of a list. No condition. -/
import Derived.Test.YtdhhdkncglhgfaaStep
set_option linter.unusedVariables false
namespace Go.Proofs.Ytdhhdkncglhgfaa
open Go.RowKit
theorem run_app_nil {P : Program} (w : World) (base : Nat) (t ty e : TypeId) (i : TypeInfo) (size : Nat) (ht : P.underlying t = some (.slice e)) (hi : P.info? e = some i)
    (v : Value) (n : Nat) (xs : List Value) (hown : w.ownsRow base e size v n xs) (c : Nat) : (Builtin.append_ #[t, t] ty #[v, .slice none 0 c]).run P w = .ok v w := by
  rcases hown.2 with ⟨rfl, rfl⟩ | ⟨g, cap, cur, rfl, _, _, hnc, _⟩
  · simp [Builtin.append_, run_underlying ht, sizeOf, typeInfo, hi, Builtin.lenOf, Builtin.firstCells]
  · simp [Builtin.append_, run_underlying ht, sizeOf, typeInfo, hi, Builtin.lenOf, Builtin.firstCells, hnc, storeCells]
theorem wpAppAll {o : Oper} {a : Act} {K : Act → World → Prop} {Q : Exit → Act → World → Prop} {w : World} (s x : Operand)
    (ho : o.op = .call { callee := .builtin .append, args := #[s, x], argTypes := #[24, 24] })
    (B : Nat) (A : Option Addr) (c n : Nat) (xs : List Int) (hs : a.eval s = .slice A n c) (hn : xs.length = n) (hown : Own w B A c xs)
    (A1 : Option Addr) (c1 m : Nat) (ys : List Int) (hx : a.eval x = .slice A1 m c1) (hm : ys.length = m) (B1 : Nat) (hr : Rd w B1 .i64 A1 ys) (hlen : n + m ≤ 2000000000) (hB : B ≤ w.heap.size)
    (h : ∀ A' c' w', Own w' B A' c' (xs ++ ys) → w.grownBy w' (blk A) → Below B w w' → K (a.put o.dst (.slice A' (n + m) c')) w') : o.wp Try.prog a w K Q := by
  obtain ⟨i0, hi, hz0, hz1, hz2⟩ := info_parts Try.infoInt
  subst hn
  subst hm
  rcases A1 with _ | ad
  · have hy : ys = [] := by
      rcases ys with _ | ⟨y, ys⟩
      · rfl
      · obtain ⟨a', e, _⟩ := hr 0 (by simp)
        cases e
    subst hy
    have hrun := run_app_nil (P := Try.prog) w B 24 o.type 3 i0 1 Try.underlying24 hi _ _ _ hown c1
    unfold Oper.wp execOp
    simp only [ho, resolve, invoke, builtin, Sem.run_bind, Sem.run_pure, Result.andThen_ok, List.map_toArray, List.map_cons, List.map_nil, hs, hx, List.length_nil, hrun]
    exact h A c w (by simpa using hown) (World.grownBy.refl w _) (Below.refl _ _)
  · refine wp_append_own w s x 24 ho B 3 i0 (.int .i64 0) 1 8 Try.underlying24 hi hz0 hz1 hz2 rfl (by omega) _ _ _ hs hown ad ys.length c1 (ys.map (Value.int .i64)) hx (by simp) ?_ ?_ (by simp only [maxLen]; omega) (by omega) hB ?_
    · intro j u hj
      rw [List.getElem?_map] at hj
      have hjl : j < ys.length := by
        rcases Nat.lt_or_ge j ys.length with hh | hh
        · exact hh
        · rw [List.getElem?_eq_none hh] at hj; cases hj
      obtain ⟨a', e, _, hc⟩ := hr j hjl
      injection e with e
      subst e
      rw [List.getElem?_eq_getElem hjl] at hj
      simp at hj
      subst hj
      simpa [List.getD_eq_getElem?_getD, hjl] using hc
    · intro u hu
      simp at hu
      obtain ⟨y, _, rfl⟩ := hu
      rfl
    · intro v' w' hown' hg _
      obtain ⟨A', c', rfl, ho'⟩ := own_form (xs := xs ++ ys) (by simpa using hown') (by simp)
      rw [ownBlock_slice] at hg
      exact h A' c' w' ho' hg ((Below.refl _ _).grown hg hB (fun k hk => (hown.ge k hk).1))
theorem wpList_appAll {ops : Array Oper} {rest : List Oper} {o : Oper} {a : Act} {Q : Exit → Act → World → Prop} {w : World} (hgd : o.guard = none) (s x : Operand)
    (ho : o.op = .call { callee := .builtin .append, args := #[s, x], argTypes := #[24, 24] })
    (B : Nat) (A : Option Addr) (c n : Nat) (xs : List Int) (hs : a.eval s = .slice A n c) (hn : xs.length = n) (hown : Own w B A c xs)
    (A1 : Option Addr) (c1 m : Nat) (ys : List Int) (hx : a.eval x = .slice A1 m c1) (hm : ys.length = m) (B1 : Nat) (hr : Rd w B1 .i64 A1 ys) (hlen : n + m ≤ 2000000000) (hB : B ≤ w.heap.size)
    (h : ∀ A' c' w', Own w' B A' c' (xs ++ ys) → w.grownBy w' (blk A) → Below B w w' → wpList Try.prog ops Q rest (a.put o.dst (.slice A' (n + m) c')) w') : wpList Try.prog ops Q (o :: rest) a w :=
  wpList_plain hgd fun _ hK => wpAppAll s x ho B A c n xs hs hn hown A1 c1 m ys hx hm B1 hr hlen hB fun A' c' w' h1 h2 h3 => hK _ _ (h A' c' w' h1 h2 h3)

set_option maxHeartbeats 400000 in
theorem copyInts_any (A : Option Addr) (c : Nat) (xs : List Int) (w : World) (hr : Rd w w.heap.size .i64 A xs) (hl : xs.length ≤ 2000000000) : Calls Try.prog 82 #[.slice A xs.length c] w (RetInts w xs) := by
  go_enter Try.func82, Try.ntmps82
  go_wp2_with (at_builtin; refine wpList_appAll rfl (.tmp 3) (.tmp 4) (by rfl) w.heap.size (some ⟨w.heap.size, 0, none⟩) 0 0 [] (by rfl) rfl (Own.made rfl (Nat.le_refl _)) A c xs.length xs (by rfl) rfl w.heap.size (hr.alloc (Nat.le_refl _) _) (by omega) (by simp) ?_; intro A1 c1 w1 ho1 hg1 hb1)
  go_ret
  exact ⟨A1, c1, by simp, by simpa using ho1, ((Below.refl _ _).alloc (Nat.le_refl _) _).trans hb1⟩
end Go.Proofs.Ytdhhdkncglhgfaa
