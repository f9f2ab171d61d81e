/- The last step of each law of this text: from its walk to the given statement: for every input the law returns true, and each argument reads behind the call as it read before. No condition. -/
import Derived.Test.YtoejfpncpgoboaaLawI
import Derived.Test.YtoejfpncpgoboaaRows
import Derived.Test.YtoejfpncpgoboaaOpen
import Derived.ShutString
set_option linter.unusedVariables false

namespace Go.Proofs.Ytoejfpncpgoboaa.fnExactMergeSlices
open Go.ChangeShapes Go.WideShapes Go.ChangeAt Go.RowKit
set_option maxRecDepth 100000 in
theorem lifted (os : Os) (started : os.Started) (H : Type) (enc : TypeId × Value → H) :
    ReturnsInHanded {} Try.checked os 12 .any (Rows.fnExactMergeSlicesSpec.pre6 enc Try.prog Try.f12 Rows.fnExactMergeSlicesRow.domain false) (Rows.fnExactMergeSlicesSpec.post enc Try.prog Try.f12 false true false false) := by
  refine returnsInHanded_of_change (C := Try.checked) own started (by kernel_rfl) Try.func12
    (ChangeSpec.witness6 (enc := enc) (C := Try.checked) false ⟨#[], #[.int .i64 0, .agg #[.int .i64 0, .int .i64 0, .int .i64 0, .bool false, .bool false], .agg #[.int .i64 0, .int .i64 0, .int .i64 0, .bool false, .bool false]], []⟩ 8 (by kernel_rfl) (by kernel_rfl) (by kernel_rfl) (by kernel_rfl)) ?_
  intro W base args ds gs before hval0 hW hcnd _
  have hval : ∀ (j : Nat) t v, Try.f12.params[j]? = some t → args[j]? = some v → Value.okWide Try.prog W .any base t v := hval0
  have hW' := hW
  obtain ⟨p, q, hA0, hV, rfl, hfz, hnd⟩ := hW
  have hA : DataW.TrodAll enc Try.prog W 0 (fun _ => true) true Try.f12.params.toList args.toList ds p := hA0
  rw [Try.params12] at hA hval
  obtain ⟨v0, vs0, d0, ds0, p0, q0, hargs, rfl, rfl, h0, r0'⟩ := trodAll_cons hA
  obtain ⟨v1, vs1, d1, ds1, p1, q1, rfl, rfl, rfl, h1, r1'⟩ := trodAll_cons r0'
  obtain ⟨v2, vs2, d2, ds2, p2, q2, rfl, rfl, rfl, h2, r2'⟩ := trodAll_cons r1'
  obtain ⟨rfl, rfl, rfl⟩ := trodAll_nil r2'
  obtain rfl : args = #[v0, v1, v2] := by cases args; simp_all
  obtain ⟨rfl, rfl⟩ := trodVars_none hV
  have k0 := h0
  have lt0 : ∀ x ∈ p0, x.block < W.heap.size := by obtain ⟨m, hm⟩ := k0; exact DataW.trod_lt m _ _ _ hm
  obtain ⟨a0, rfl, rfl, rfl, w0⟩ := open_int Try.underlying3 (hval 0 3 v0 rfl rfl) h0
  have k1 := h1
  have lt1 : ∀ x ∈ p1, x.block < W.heap.size := by obtain ⟨m, hm⟩ := k1; exact DataW.trod_lt m _ _ _ hm
  obtain ⟨cs1, rfl, hl1, hf1⟩ := openStruct Try.underlying39 (by kernel_rfl) (by kernel_rfl) (hval 1 39 v1 rfl rfl) h1
  obtain ⟨b1_0, b1_1, b1_2, b1_3, b1_4, rfl⟩ := list5 hl1
  obtain ⟨_, n1_0, y1_0, e1_0, t1_0⟩ := hf1 0 _ rfl
  obtain rfl := Option.some.inj e1_0
  obtain ⟨a1_0, rfl, w1_0⟩ := fieldInt Try.underlying3 t1_0
  obtain ⟨_, n1_1, y1_1, e1_1, t1_1⟩ := hf1 1 _ rfl
  obtain rfl := Option.some.inj e1_1
  obtain ⟨a1_1, rfl, w1_1⟩ := fieldInt Try.underlying3 t1_1
  obtain ⟨_, n1_2, y1_2, e1_2, t1_2⟩ := hf1 2 _ rfl
  obtain rfl := Option.some.inj e1_2
  obtain ⟨a1_2, rfl, w1_2⟩ := fieldInt Try.underlying3 t1_2
  obtain ⟨_, n1_3, y1_3, e1_3, t1_3⟩ := hf1 3 _ rfl
  obtain rfl := Option.some.inj e1_3
  obtain ⟨a1_3, rfl⟩ := fieldBool Try.underlying4 t1_3
  obtain ⟨_, n1_4, y1_4, e1_4, t1_4⟩ := hf1 4 _ rfl
  obtain rfl := Option.some.inj e1_4
  obtain ⟨a1_4, rfl⟩ := fieldBool Try.underlying4 t1_4
  have k2 := h2
  have lt2 : ∀ x ∈ p2, x.block < W.heap.size := by obtain ⟨m, hm⟩ := k2; exact DataW.trod_lt m _ _ _ hm
  obtain ⟨cs2, rfl, hl2, hf2⟩ := openStruct Try.underlying39 (by kernel_rfl) (by kernel_rfl) (hval 2 39 v2 rfl rfl) h2
  obtain ⟨b2_0, b2_1, b2_2, b2_3, b2_4, rfl⟩ := list5 hl2
  obtain ⟨_, n2_0, y2_0, e2_0, t2_0⟩ := hf2 0 _ rfl
  obtain rfl := Option.some.inj e2_0
  obtain ⟨a2_0, rfl, w2_0⟩ := fieldInt Try.underlying3 t2_0
  obtain ⟨_, n2_1, y2_1, e2_1, t2_1⟩ := hf2 1 _ rfl
  obtain rfl := Option.some.inj e2_1
  obtain ⟨a2_1, rfl, w2_1⟩ := fieldInt Try.underlying3 t2_1
  obtain ⟨_, n2_2, y2_2, e2_2, t2_2⟩ := hf2 2 _ rfl
  obtain rfl := Option.some.inj e2_2
  obtain ⟨a2_2, rfl, w2_2⟩ := fieldInt Try.underlying3 t2_2
  obtain ⟨_, n2_3, y2_3, e2_3, t2_3⟩ := hf2 3 _ rfl
  obtain rfl := Option.some.inj e2_3
  obtain ⟨a2_3, rfl⟩ := fieldBool Try.underlying4 t2_3
  obtain ⟨_, n2_4, y2_4, e2_4, t2_4⟩ := hf2 4 _ rfl
  obtain rfl := Option.some.inj e2_4
  obtain ⟨a2_4, rfl⟩ := fieldBool Try.underlying4 t2_4
  clear hA0 hval0
  refine (FnExactMergeSlices_walk a0 a1_0 a1_1 a1_2 a1_3 a1_4 a2_0 a2_1 a2_2 a2_3 a2_4 W ).mono fun e W' ⟨he, bel⟩ => ?_
  subst he
  exact ⟨_, rfl, _, _, _, [], _, [], hW', trodAll_mk1 (shut_bool Try.underlying4 _), (trodAll_cons_mk (Below.trod laidOut (by kernel_rfl) (of_decide_eq_true (by kernel_rfl)) k0 bel lt0) (trodAll_cons_mk (Below.trod laidOut (by kernel_rfl) (of_decide_eq_true (by kernel_rfl)) k1 bel lt1) (trodAll_cons_mk (Below.trod laidOut (by kernel_rfl) (of_decide_eq_true (by kernel_rfl)) k2 bel lt2) trodAll_mk0))), rfl, bel.frame _, fun h => by cases h⟩

theorem over : Rows.fnExactMergeSlicesRow.holds Try.pinned (OpenSpec.ofChange Rows.fnExactMergeSlicesSpec) :=
  OpenClaim.holds_of_wide 12 Try.f12 rfl rfl rfl rfl rfl rfl rfl ⟨rfl, rfl, rfl, rfl, rfl⟩ rfl rfl rfl rfl rfl (by kernel_rfl) Try.func12 (by kernel_rfl)
    (of_decide_eq_true (by kernel_rfl)) (by unfold Func.isWrapper; first | (rw [if_pos (by decide +kernel)]; kernel_rfl) | (rw [if_neg (by decide +kernel)]; exact ⟨rfl, rfl⟩))
    (fun os started H enc _ => lifted os started H enc)

theorem proved : Rows.FnExactMergeSlicesSaid := over
end Go.Proofs.Ytoejfpncpgoboaa.fnExactMergeSlices

