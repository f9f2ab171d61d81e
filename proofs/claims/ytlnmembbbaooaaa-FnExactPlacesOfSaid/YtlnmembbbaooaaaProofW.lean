/- The last step of each law of this text: from its walk to the given statement: for every input the law returns true, and each argument reads behind the call as it read before. No condition. -/
import Derived.Test.YtlnmembbbaooaaaLawW
import Derived.Test.YtlnmembbbaooaaaRows
import Derived.Test.YtlnmembbbaooaaaOpen
import Derived.ShutString
set_option linter.unusedVariables false

namespace Go.Proofs.Ytlnmembbbaooaaa.fnExactPlacesOf
open Go.ChangeShapes Go.WideShapes Go.ChangeAt Go.RowKit
set_option maxRecDepth 100000 in
theorem lifted (os : Os) (started : os.Started) (H : Type) (enc : TypeId × Value → H) :
    ReturnsInHanded {} Try.checked os 6 .any (Rows.fnExactPlacesOfSpec.pre6 enc Try.prog Try.f6 Rows.fnExactPlacesOfRow.domain false) (Rows.fnExactPlacesOfSpec.post enc Try.prog Try.f6 false true false false) := by
  refine returnsInHanded_of_change (C := Try.checked) own started (by kernel_rfl) Try.func6
    (ChangeSpec.witness6 (enc := enc) (C := Try.checked) false ⟨#[], #[.agg #[.slice none 0 0, .bool false, .bool false]], []⟩ 8 (by kernel_rfl) (by kernel_rfl) (by kernel_rfl) (by kernel_rfl)) ?_
  intro W base args ds gs before hval0 hW hcnd _
  have hval : ∀ (j : Nat) t v, Try.f6.params[j]? = some t → args[j]? = some v → Value.okWide Try.prog W .any base t v := hval0
  have hW' := hW
  obtain ⟨p, q, hA0, hV, rfl, hfz, hnd⟩ := hW
  have hA : DataW.TrodAll enc Try.prog W 0 (fun _ => true) true Try.f6.params.toList args.toList ds p := hA0
  rw [Try.params6] at hA hval
  obtain ⟨v0, vs0, d0, ds0, p0, q0, hargs, rfl, rfl, h0, r0'⟩ := trodAll_cons hA
  obtain ⟨rfl, rfl, rfl⟩ := trodAll_nil r0'
  obtain rfl : args = #[v0] := by cases args; simp_all
  obtain ⟨rfl, rfl⟩ := trodVars_none hV
  have k0 := h0
  have lt0 : ∀ x ∈ p0, x.block < W.heap.size := by obtain ⟨m, hm⟩ := k0; exact DataW.trod_lt m _ _ _ hm
  obtain ⟨cs0, rfl, hl0, hf0⟩ := openStruct Try.underlying24 (by kernel_rfl) (by kernel_rfl) (hval 0 24 v0 rfl rfl) h0
  obtain ⟨b0_0, b0_1, b0_2, rfl⟩ := list3 hl0
  obtain ⟨_, n0_0, y0_0, e0_0, t0_0⟩ := hf0 0 _ rfl
  obtain rfl := Option.some.inj e0_0
  obtain ⟨A0_0, c0_0, x0_0, rfl, r0_0, l0_0, f0_0⟩ := openInts Try.underlying22 Try.underlying3 (by kernel_rfl) t0_0
  obtain ⟨_, n0_1, y0_1, e0_1, t0_1⟩ := hf0 1 _ rfl
  obtain rfl := Option.some.inj e0_1
  obtain ⟨a0_1, rfl⟩ := fieldBool Try.underlying4 t0_1
  obtain ⟨_, n0_2, y0_2, e0_2, t0_2⟩ := hf0 2 _ rfl
  obtain rfl := Option.some.inj e0_2
  obtain ⟨a0_2, rfl⟩ := fieldBool Try.underlying4 t0_2
  clear hA0 hval0
  refine (FnExactPlacesOf_walk A0_0 c0_0 x0_0 a0_1 a0_2 W r0_0 l0_0).mono fun e W' ⟨he, bel⟩ => ?_
  subst he
  exact ⟨_, rfl, _, _, _, [], _, [], hW', trodAll_mk1 (shut_bool Try.underlying4 _), (trodAll_cons_mk (Below.trod laidOut (by kernel_rfl) (of_decide_eq_true (by kernel_rfl)) k0 bel lt0) trodAll_mk0), rfl, bel.frame _, fun h => by cases h⟩

theorem over : Rows.fnExactPlacesOfRow.holds Try.pinned (OpenSpec.ofChange Rows.fnExactPlacesOfSpec) :=
  OpenClaim.holds_of_wide 6 Try.f6 rfl rfl rfl rfl rfl rfl rfl ⟨rfl, rfl, rfl, rfl, rfl⟩ rfl rfl rfl rfl rfl (by kernel_rfl) Try.func6 (by kernel_rfl)
    (of_decide_eq_true (by kernel_rfl)) (by unfold Func.isWrapper; first | (rw [if_pos (by decide +kernel)]; kernel_rfl) | (rw [if_neg (by decide +kernel)]; exact ⟨rfl, rfl⟩))
    (fun os started H enc _ => lifted os started H enc)

theorem proved : Rows.FnExactPlacesOfSaid := over
end Go.Proofs.Ytlnmembbbaooaaa.fnExactPlacesOf

