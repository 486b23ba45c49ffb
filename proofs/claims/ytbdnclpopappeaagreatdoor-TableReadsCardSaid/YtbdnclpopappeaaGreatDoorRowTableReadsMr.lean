/- The card of the law TableReads, proved: whatever is handed in, with the listed tables as the program lays them, it returns true, and the arguments read as they did. -/
import Derived.Test.YtbdnclpopappeaaGreatDoorMr6
namespace Go.Proofs.YtbdnclpopappeaaGreatDoor
set_option linter.unusedSimpArgs false
set_option linter.unusedVariables false
open Go.Tan Go.RowKit Go.ChangeShapes Go.WideShapes Go.ChangeAt

namespace tableReads
def zArgs : Array Value := #[.agg (List.replicate 33 (.int .u8 0) ++ List.replicate 3 (.int .u64 0) ++ List.replicate 2 (.int .i64 0) ++ List.replicate 2 (.string ByteArray.empty) ++ List.replicate 32 (.int .u8 0) ++ [.slice none 0 0] : List Value).toArray]
theorem laid_met (os : Os) : laidMet Tryz.prog Rows.tableReadsRow.laid ((aDF os).forCall (fun _ _ => 0) ⟨#[], zArgs, []⟩).memory :=
  laidMet_of_run' 8 (by kernel_rfl) (by kernel_rfl)
theorem reads (os : Os) {H : Type} (enc : TypeId × Value → H) : ∃ places, DataW.whole enc Tryz.prog ((aDF os).forCall (fun _ _ => 0) ⟨#[], zArgs, []⟩).memory Tryz.f5.params.toList Rows.tableReadsSpec.vars false zArgs.toList 8 = some ([.agg [.agg (List.replicate 32 (.lit (.int .u8 0))), .agg [.lit (.int .u8 0), .lit (.int .u64 0), .lit (.int .u64 0), .lit (.int .u64 0), .lit (.int .i64 0), .lit (.int .i64 0), .lit (.string []), .lit (.string []), .agg (List.replicate 32 (.lit (.int .u8 0)))], .nil]], [], places) :=
  ⟨[], by kernel_rfl⟩
set_option maxRecDepth 100000 in
set_option maxHeartbeats 1000000 in
theorem lifted (os : Os) (started : os.Started) (H : Type) (enc : TypeId × Value → H) (F : Stop.Interp) :
    ReturnsInHanded {} Tryz.checked os 5 .any ((OpenSpec.ofChange Rows.tableReadsSpec).preRow enc Tryz.prog Tryz.f5 Rows.tableReadsRow.domain false Rows.tableReadsRow.laid) (((OpenSpec.ofChange Rows.tableReadsSpec).at F).post enc Tryz.prog Tryz.f5 false true false false) := by
  obtain ⟨places, hx⟩ := reads os enc
  refine returnsInHanded_of_row (C := Tryz.checked) (s := OpenSpec.ofChange Rows.tableReadsSpec) aRd started (by kernel_rfl) Tryz.func5
    (witness_row_at (enc := enc) (C := Tryz.checked) false (aDF os) zArgs rfl (by kernel_rfl) (by kernel_rfl) (by kernel_rfl)
      (OpenSpec.preRow_of_cond 8 hx (by kernel_rfl) (fun k hk => by cases hk) (by kernel_rfl) (laid_met os))) ?_
  intro W base args ds gs before hval0 hW _ hcond hwt0 hL _ _
  have hval : ∀ (j : Nat) t v, Tryz.f5.params[j]? = some t → args[j]? = some v → Value.okWide Tryz.prog W .any base t v := hval0
  have hW2 : DataW.Whole enc Tryz.prog Tryz.f5.params.toList [] false W args.toList ds gs before := hW
  have hwt : (DataW.weightsEach Tryz.prog (Tryz.f5.params.toList ++ []) (ds ++ gs)).all (· ≤ reachBytes) = true := hwt0
  have hW3 : DataW.Whole enc Tryz.prog Tryz.f5.params.toList Rows.tableReadsSpec.vars false W args.toList ds gs before := hW
  show Calls Tryz.prog 5 args W fun e W' => ∃ v, e = .returned v ∧ Rows.tableReadsSpec.post enc Tryz.prog Tryz.f5 false true false false W args v W'
  have hK : RdNP (fun b => W.heap[b]?) 1 0 (wa 64 kW) := aRP hL
  have hR : RdNP (fun b => W.heap[b]?) 0 0 (wa 64 kW) := aRQ hL
  obtain ⟨p, q, hA, hV, hq, hfz, hnd⟩ := hW2
  rw [Tryz.params5] at hA hval hwt
  obtain ⟨v0, vs0, d0, ds0, p0, q0, hargs, rfl, rfl, r0, rr⟩ := trodAll_cons hA
  obtain ⟨rfl, rfl, rfl⟩ := trodAll_nil rr
  obtain rfl : args = #[v0] := by cases args; simp_all
  obtain ⟨rfl, rfl⟩ := trodVars_none hV
  refine aOa aRc hW3 rfl ?_ rfl (by kernel_rfl) Tryz.underlying4 ?_
  · rw [Tryz.params5]; exact (List.forall_mem_cons.2 ⟨⟨by kernel_rfl, of_decide_eq_true (by kernel_rfl)⟩, List.forall_mem_nil _⟩)
  · obtain ⟨root, m, hx, xs, hb0, hw, hs⟩ := aMP (by decide) (Rg.arg (i := 0) r0 hwt rfl rfl)
    obtain rfl := aLO Tryz.underlying43 (hval 0 43 v0 rfl rfl) hb0
    exact aLJ root m xs hx _ hw hs hK hR
theorem said : Rows.TableReadsSaid :=
  OpenClaim.holds_of_cond 5 Tryz.f5 rfl rfl rfl rfl rfl rfl rfl ⟨rfl, rfl, rfl, rfl, rfl⟩ rfl rfl rfl rfl rfl (by kernel_rfl) Tryz.func5 (by kernel_rfl)
    (of_decide_eq_true (by kernel_rfl)) (by unfold Func.isWrapper; first | (rw [if_pos (by decide +kernel)]; kernel_rfl) | (rw [if_neg (by decide +kernel)]; exact ⟨rfl, rfl⟩))
    (fun os started H enc _ F => by rw [OpenClaim.pre_eq_preRow]; exact lifted os started H enc F)
theorem plain (f : FuncId) (fn : Func) (hf : Tryz.pinned.checked.prog.funcNamed "tantalus/tantaluslaw17.TableReads" = some f) (hfn : Tryz.pinned.checked.prog.funcs[f]? = some fn) :
    true = Tryz.pinned.checked.prog.looks [] ∧ ∀ (j : Nat) t, fn.params[j]? = some t → Tryz.pinned.checked.prog.wantsStandIn t = false := by
  obtain rfl : f = 5 := Option.some.inj ((show Tryz.prog.funcNamed "tantalus/tantaluslaw17.TableReads" = some 5 by kernel_rfl).symm.trans hf) |>.symm
  obtain rfl : fn = Tryz.f5 := (Option.some.inj (Tryz.func5.symm.trans hfn)).symm
  refine ⟨by kernel_rfl, fun j t ht => ?_⟩
  rw [Tryz.params5] at ht
  have hm : t ∈ ([43] : List Nat) := by have := Array.mem_of_getElem? ht; simpa using this
  have hall : ∀ t ∈ ([43] : List Nat), Tryz.prog.wantsStandIn t = false := by
    intro t ht
    simp only [List.mem_cons, List.not_mem_nil, or_false] at ht
    rcases ht with rfl
    · kernel_rfl
  exact hall t hm
end tableReads
theorem tableReads_holds : Rows.TableReadsCardSaid :=
  Claim7.holds_tied_plain_at .later [] _ _ _ _ tableReads.said (fun _ h => by cases h) (by kernel_rfl) (fun _ h => by cases h) tableReads_row_tie rfl ⟨rfl, rfl⟩ (by kernel_rfl) rfl tableReads.plain (by kernel_rfl)
end Go.Proofs.YtbdnclpopappeaaGreatDoor
