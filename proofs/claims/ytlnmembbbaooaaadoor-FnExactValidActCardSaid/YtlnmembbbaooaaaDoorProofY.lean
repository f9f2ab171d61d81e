/- The exact law over what is an act: the table of counts in its package-level variable holds its eight numbers, so for every input the law returns true, and the argument and the variable read behind the call as they read before; the card ties what the variable holds to the program's text. No condition beyond what the row lists. -/
import Derived.Test.YtlnmembbbaooaaaDoorLawY
import Derived.Test.YtlnmembbbaooaaaDoorCards
import Derived.Test.YtlnmembbbaooaaaDoorTie
import Derived.Test.YtlnmembbbaooaaaDoorOpen
import Derived.Deep.DeepHandedRow
import Derived.Lib.LaidTab
import Derived.OpenVars
import Derived.ChangeVars
import Derived.ShutString
set_option linter.unusedVariables false
namespace Go.Proofs.YtlnmembbbaooaaaDoor.fnExactValidAct
open Go.ChangeShapes Go.WideShapes Go.ChangeAt Go.RowKit

theorem gTab : Tryd.prog.globalNamed "loop.example/strideviews/impl.actCounts" = some 0 := by kernel_rfl
theorem gTabType : (Tryd.prog.globals[0]?).map (·.type) = some 37 := by kernel_rfl
theorem cellsT : Tryd.prog.cellsOf 37 = 8 := by kernel_rfl
theorem cellsI : Tryd.prog.cellsOf 3 = 1 := by kernel_rfl
theorem rowed : varsRowed Tryd.prog Rows.fnExactValidActSpec.vars = true := by kernel_rfl

/-- What the row's list gives: the table's cells hold its eight numbers. -/
theorem table {W : World} (h : laidMetH Tryd.prog Rows.fnExactValidActRow.laid W) : Lib.TabIs Tryd.prog W "loop.example/strideviews/impl.actCounts" .i64 nds :=
  Lib.tabIs_of_head (rest := []) gTab gTabType Tryd.underlying37 Tryd.underlying3 cellsI cellsT h
theorem tab {W : World} (h : laidMetH Tryd.prog Rows.fnExactValidActRow.laid W) : Tab W := by
  have hc : ∀ j, j < 8 → W.cell? ⟨0, j, none⟩ = some (.int .i64 (nds.getD j 0)) := fun j hj => (table h).cell gTab j (by simpa [nds] using hj)
  exact ⟨World.block_lt_of_cell? W _ (hc 0 (by omega)), hc⟩

/-- What the walk gives, for every argument and every world that holds the table. -/
theorem contract (H : Type) (enc : TypeId × Value → H) (W : World) (base : Nat) (args : Array Value) (ds gs : List (DataW H)) (before : List MemPlace)
    (hval0 : ∀ (j : Nat) t v, Tryd.f3.params[j]? = some t → args[j]? = some v → Value.okWide Tryd.prog W .any base t v)
    (hW : DataW.Whole enc Tryd.prog Tryd.f3.params.toList Rows.fnExactValidActSpec.vars false W args.toList ds gs before) (hL : laidMetH Tryd.prog Rows.fnExactValidActRow.laid W) :
    Calls Tryd.prog 3 args W fun e W' => ∃ v, e = .returned v ∧ Rows.fnExactValidActSpec.post enc Tryd.prog Tryd.f3 false true false false W args v W' := by
  have hval : ∀ (j : Nat) t v, Tryd.f3.params[j]? = some t → args[j]? = some v → Value.okWide Tryd.prog W .any base t v := hval0
  have hW' := hW
  obtain ⟨p, q, hA0, hV, rfl, hfz, hnd⟩ := hW
  have hA : DataW.TrodAll enc Tryd.prog W 0 (fun _ => true) true Tryd.f3.params.toList args.toList ds p := hA0
  rw [Tryd.params3] at hA hval
  obtain ⟨v0, vs0, d0, ds0, p0, q0, hargs, rfl, rfl, h0, r0'⟩ := trodAll_cons hA
  obtain ⟨rfl, rfl, rfl⟩ := trodAll_nil r0'
  obtain rfl : args = #[v0] := by cases args; simp_all
  have hgs : ∃ g1, gs = [g1] := by
    obtain ⟨g, t, cs, fuel, d, p', rfl, _⟩ := trodVars_one (n := "loop.example/strideviews/impl.actCounts") hV
    exact ⟨d, rfl⟩
  obtain ⟨g1, rfl⟩ := hgs
  have k0 := h0
  have lt0 : ∀ x ∈ p0, x.block < W.heap.size := by obtain ⟨m, hm⟩ := k0; exact DataW.trod_lt m _ _ _ hm
  obtain ⟨cs0, rfl, hl0, hf0⟩ := openStruct Tryd.underlying24 (by kernel_rfl) (by kernel_rfl) (hval 0 24 v0 rfl rfl) h0
  obtain ⟨b0_0, b0_1, rfl⟩ := list2 hl0
  obtain ⟨_, n0_0, y0_0, e0_0, t0_0⟩ := hf0 0 _ rfl
  obtain rfl := Option.some.inj e0_0
  obtain ⟨a0_0, rfl, w0_0⟩ := fieldInt Tryd.underlying3 t0_0
  obtain ⟨_, n0_1, y0_1, e0_1, t0_1⟩ := hf0 1 _ rfl
  obtain rfl := Option.some.inj e0_1
  obtain ⟨A0_1, c0_1, x0_1, rfl, r0_1, l0_1, f0_1⟩ := openInts Tryd.underlying22 Tryd.underlying3 (by kernel_rfl) t0_1
  have tb := tab hL
  clear hA0 hval0
  refine (FnExactValidAct_walk a0_0 A0_1 c0_1 x0_1 W r0_1 l0_1 tb).mono fun e W' ⟨he, bel⟩ => ?_
  subst he
  exact ⟨_, rfl, _, _, _, [], _, _, hW', trodAll_mk1 (shut_bool Tryd.underlying4 _), (trodAll_cons_mk (Below.trod laidOut (by kernel_rfl) (of_decide_eq_true (by kernel_rfl)) k0 bel lt0) trodAll_mk0), Below.trodVars laidOut bel rowed hV, bel.frame _, fun h => by cases h⟩

/-- A world for the witness: the settled one, the table (block 0) holding what its initialiser lays. -/
noncomputable def laidWorld (os : Os) : World :=
  { World.holding Tryd.prog os ⟨#[], #[], []⟩ with heap := (World.holding Tryd.prog os ⟨#[], #[], []⟩).heap.modify 0 fun
      | .cells _ t frozen => .cells #[.int .i64 1, .int .i64 3, .int .i64 4, .int .i64 1, .int .i64 2, .int .i64 2, .int .i64 1, .int .i64 1] t frozen
      | o => o }
theorem laid_met (os : Os) : laidMet Tryd.prog Rows.fnExactValidActRow.laid ((laidWorld os).forCall (fun _ _ => 0) ⟨#[], #[.agg #[.int .i64 0, .slice none 0 0]], []⟩).memory :=
  laidMet_of_run' 8 (by kernel_rfl) (by kernel_rfl)
theorem reads (os : Os) {H : Type} (enc : TypeId × Value → H) : ∃ places, DataW.whole enc Tryd.prog ((laidWorld os).forCall (fun _ _ => 0) ⟨#[], #[.agg #[.int .i64 0, .slice none 0 0]], []⟩).memory Tryd.f3.params.toList Rows.fnExactValidActSpec.vars false #[Value.agg #[.int .i64 0, .slice none 0 0]].toList 8 = some ([.agg [.lit (.int .i64 0), .nil]], [Rows.laid_loop_example_strideviews_impl_actCounts], places) :=
  ⟨MemPlace.row ⟨0, 0, none⟩ 8, by kernel_rfl⟩

set_option maxRecDepth 100000 in
theorem lifted (os : Os) (started : os.Started) (H : Type) (enc : TypeId × Value → H) (F : Stop.Interp) :
    ReturnsInHanded {} Tryd.checked os 3 .any ((OpenSpec.ofChange Rows.fnExactValidActSpec).preRow enc Tryd.prog Tryd.f3 Rows.fnExactValidActRow.domain false Rows.fnExactValidActRow.laid) (((OpenSpec.ofChange Rows.fnExactValidActSpec).at F).post enc Tryd.prog Tryd.f3 false true false false) := by
  obtain ⟨places, hx⟩ := reads os enc
  refine returnsInHanded_of_row (C := Tryd.checked) (s := OpenSpec.ofChange Rows.fnExactValidActSpec) own started (by kernel_rfl) Tryd.func3
    (witness_row_at (enc := enc) (C := Tryd.checked) false (laidWorld os) #[.agg #[.int .i64 0, .slice none 0 0]] rfl (by kernel_rfl) (by kernel_rfl) (by kernel_rfl)
      (OpenSpec.preRow_of_cond 8 hx (by kernel_rfl) (fun k hk => by cases hk) (by kernel_rfl) (laid_met os))) ?_
  intro W base args ds gs before hval hW _ _ _ hL _ _
  exact contract H enc W base args ds gs before hval hW hL

theorem said : Rows.FnExactValidActSaid :=
  OpenClaim.holds_of_cond 3 Tryd.f3 rfl rfl rfl rfl rfl rfl rfl ⟨rfl, rfl, rfl, rfl, rfl⟩ rfl rfl rfl rfl rfl (by kernel_rfl) Tryd.func3 (by kernel_rfl)
    (of_decide_eq_true (by kernel_rfl)) (by unfold Func.isWrapper; first | (rw [if_pos (by decide +kernel)]; kernel_rfl) | (rw [if_neg (by decide +kernel)]; exact ⟨rfl, rfl⟩))
    (fun os started H enc _ F => by rw [OpenClaim.pre_eq_preRow]; exact lifted os started H enc F)

/-- No parameter wants a stand-in; the program's own looks are off: what the card asks. -/
theorem plain (f : FuncId) (fn : Func) (hf : Tryd.pinned.checked.prog.funcNamed "loop.example/strideviews/laws.FnExactValidAct" = some f) (hfn : Tryd.pinned.checked.prog.funcs[f]? = some fn) :
    false = Tryd.pinned.checked.prog.looks [] ∧ ∀ (j : Nat) t, fn.params[j]? = some t → Tryd.pinned.checked.prog.wantsStandIn t = false := by
  obtain rfl : f = 3 := Option.some.inj ((show Tryd.prog.funcNamed "loop.example/strideviews/laws.FnExactValidAct" = some 3 by kernel_rfl).symm.trans hf) |>.symm
  obtain rfl : fn = Tryd.f3 := (Option.some.inj (Tryd.func3.symm.trans hfn)).symm
  refine ⟨by kernel_rfl, fun j t ht => ?_⟩
  rw [Tryd.params3] at ht
  obtain rfl : t = 24 := by simpa using Array.mem_of_getElem? ht
  exact (show Tryd.prog.wantsStandIn 24 = false by kernel_rfl)

/-- The card. -/
theorem proved : Rows.FnExactValidActCardSaid :=
  Claim7.holds_tied_plain_at .later [] _ _ _ _ said (fun _ h => by cases h) (by kernel_rfl) (fun _ h => by cases h) fnExactValidAct_row_tie rfl ⟨rfl, rfl⟩ (by kernel_rfl) rfl plain (by kernel_rfl)
end Go.Proofs.YtlnmembbbaooaaaDoor.fnExactValidAct
