/- The card of the law ManifestRoots, proved: whatever is handed in (of at most 1048576 values and letters together), with the listed tables as the program lays them, it returns true, and the arguments read as they did. -/
import Derived.Test.YtdeobooblmjlfaaDoorMb6
namespace Go.Proofs.YtdeobooblmjlfaaDoor
set_option linter.unusedSimpArgs false
set_option linter.unusedVariables false
open Go.Tan Go.RowKit Go.ChangeShapes Go.WideShapes Go.ChangeAt

namespace manifestRootsUpto
def zArgs : Array Value := #[.agg (List.replicate 5 (.slice none 0 0) ++ List.replicate 9 (.int .u64 0) : List Value).toArray]
theorem laid_met (os : Os) : laidMet Tryd.prog Rows.manifestRootsUptoRow.laid ((laidWorld os).forCall (fun _ _ => 0) ⟨#[], zArgs, []⟩).memory :=
  laidMet_of_run' 8 (by kernel_rfl) (by kernel_rfl)
theorem reads (os : Os) {H : Type} (enc : TypeId × Value → H) : ∃ places, DataW.whole enc Tryd.prog ((laidWorld os).forCall (fun _ _ => 0) ⟨#[], zArgs, []⟩).memory Tryd.f3.params.toList Rows.manifestRootsSpec.vars false zArgs.toList 8 = some ([.agg [.agg (List.replicate 5 (.nil)), .lit (.int .u64 0), .lit (.int .u64 0), .lit (.int .u64 0), .lit (.int .u64 0), .agg (List.replicate 5 (.lit (.int .u64 0)))]], [], places) :=
  ⟨[], by kernel_rfl⟩
set_option maxRecDepth 100000 in
set_option maxHeartbeats 1000000 in
theorem lifted (os : Os) (started : os.Started) (H : Type) (enc : TypeId × Value → H) (F : Stop.Interp) :
    ReturnsInHanded {} Tryd.checked os 3 .any ((Rows.OpenSpec.upto Rows.manifestRootsSpec).preRow enc Tryd.prog Tryd.f3 Rows.manifestRootsUptoRow.domain false Rows.manifestRootsUptoRow.laid) (((Rows.OpenSpec.upto Rows.manifestRootsSpec).at F).post enc Tryd.prog Tryd.f3 false true false false) := by
  obtain ⟨places, hx⟩ := reads os enc
  refine returnsInHanded_of_row (C := Tryd.checked) (s := Rows.OpenSpec.upto Rows.manifestRootsSpec) tanOwn started (by kernel_rfl) Tryd.func3
    (witness_row_at (enc := enc) (C := Tryd.checked) false (laidWorld os) zArgs rfl (by kernel_rfl) (by kernel_rfl) (by kernel_rfl)
      (OpenSpec.preRow_of_cond 8 hx (by kernel_rfl) (fun k hk => by cases hk; kernel_rfl) (by kernel_rfl) (laid_met os))) ?_
  intro W base args ds gs before hval0 hW _ hcond hwt0 hL _ _
  have hval : ∀ (j : Nat) t v, Tryd.f3.params[j]? = some t → args[j]? = some v → Value.okWide Tryd.prog W .any base t v := hval0
  have hW2 : DataW.Whole enc Tryd.prog Tryd.f3.params.toList [] false W args.toList ds gs before := hW
  have hwt : (DataW.weightsEach Tryd.prog (Tryd.f3.params.toList ++ []) (ds ++ gs)).all (· ≤ reachBytes) = true := hwt0
  have hW3 : DataW.Whole enc Tryd.prog Tryd.f3.params.toList Rows.manifestRootsSpec.vars false W args.toList ds gs before := hW
  show Calls Tryd.prog 3 args W fun e W' => ∃ v, e = .returned v ∧ Rows.manifestRootsSpec.post enc Tryd.prog Tryd.f3 false true false false W args v W'
  have hK : RdNP (fun b => W.heap[b]?) 1 0 (wa 64 kW) := tabC hL
  have hR : RdNP (fun b => W.heap[b]?) 0 0 (wa 64 kW) := tabR hL
  have hup := hcond _ rfl
  obtain ⟨p, q, hA, hV, hq, hfz, hnd⟩ := hW2
  rw [Tryd.params3] at hA hval hwt
  obtain ⟨v0, vs0, d0, ds0, p0, q0, hargs, rfl, rfl, r0, rr⟩ := trodAll_cons hA
  obtain ⟨rfl, rfl, rfl⟩ := trodAll_nil rr
  obtain rfl : args = #[v0] := by cases args; simp_all
  obtain ⟨rfl, rfl⟩ := trodVars_none hV
  refine of_ct tanLaid hW3 rfl ?_ rfl (by kernel_rfl) Tryd.underlying4 ?_
  · rw [Tryd.params3]; exact (List.forall_mem_cons.2 ⟨⟨by kernel_rfl, of_decide_eq_true (by kernel_rfl)⟩, List.forall_mem_nil _⟩)
  · obtain ⟨s, hd, hs0, hst, hsu, hsq⟩ := state_of (by decide) (Rg.argU (i := 0) r0 hup rfl)
    obtain rfl := agg_of Tryd.underlying27 (hval 0 27 v0 rfl rfl) hs0
    exact ManifestRoots_ok s hd _ hst ⟨hsu.1, hsu.2.1, hsu.2.2.1, hsu.2.2.2.1, hsu.2.2.2.2⟩ (fun i hi m hm => by have := hsq i hi m hm; have a1 := this.2.1; have a2 := this.2.2; omega) hK hR
theorem said : Rows.ManifestRootsUptoSaid :=
  OpenClaim.holds_of_cond 3 Tryd.f3 rfl rfl rfl rfl rfl rfl rfl ⟨rfl, rfl, rfl, rfl, rfl⟩ rfl rfl rfl rfl rfl (by kernel_rfl) Tryd.func3 (by kernel_rfl)
    (of_decide_eq_true (by kernel_rfl)) (by unfold Func.isWrapper; first | (rw [if_pos (by decide +kernel)]; kernel_rfl) | (rw [if_neg (by decide +kernel)]; exact ⟨rfl, rfl⟩))
    (fun os started H enc _ F => by rw [OpenClaim.pre_eq_preRow]; exact lifted os started H enc F)
theorem plain (f : FuncId) (fn : Func) (hf : Tryd.pinned.checked.prog.funcNamed "tantalus/tantaluslaw19.ManifestRoots" = some f) (hfn : Tryd.pinned.checked.prog.funcs[f]? = some fn) :
    false = Tryd.pinned.checked.prog.looks [] ∧ ∀ (j : Nat) t, fn.params[j]? = some t → Tryd.pinned.checked.prog.wantsStandIn t = false := by
  obtain rfl : f = 3 := Option.some.inj ((show Tryd.prog.funcNamed "tantalus/tantaluslaw19.ManifestRoots" = some 3 by kernel_rfl).symm.trans hf) |>.symm
  obtain rfl : fn = Tryd.f3 := (Option.some.inj (Tryd.func3.symm.trans hfn)).symm
  refine ⟨by kernel_rfl, fun j t ht => ?_⟩
  rw [Tryd.params3] at ht
  have hm : t ∈ ([27] : List Nat) := by have := Array.mem_of_getElem? ht; simpa using this
  have hall : ∀ t ∈ ([27] : List Nat), Tryd.prog.wantsStandIn t = false := by
    intro t ht
    simp only [List.mem_cons, List.not_mem_nil, or_false] at ht
    rcases ht with rfl
    · kernel_rfl
  exact hall t hm
end manifestRootsUpto
theorem manifestRootsUpto_holds : Rows.ManifestRootsUptoCardSaid :=
  Claim7.holds_tied_plain_at .later [] _ _ _ _ manifestRootsUpto.said (fun _ h => by cases h) (by kernel_rfl) (fun _ h => by cases h) manifestRootsUpto_row_tie rfl ⟨rfl, rfl⟩ (by kernel_rfl) rfl manifestRootsUpto.plain (by kernel_rfl)
end Go.Proofs.YtdeobooblmjlfaaDoor
