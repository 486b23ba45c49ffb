/- The card of the law WalReads, proved: whatever is handed in, with the listed tables as the program lays them, it returns true, and the arguments read as they did. -/
import Derived.Test.YtoogjfldgeiapaaDoorCardW
import Derived.Test.YtoogjfldgeiapaaDoorWalL
namespace Go.Proofs.YtoogjfldgeiapaaDoor
set_option linter.unusedSimpArgs false
set_option linter.unusedVariables false
open Go.Tan Go.RowKit Go.ChangeShapes Go.WideShapes Go.ChangeAt

namespace walReads
def zArgs : Array Value := #[.agg (List.replicate 32 (.int .u8 0) : List Value).toArray, .slice none 0 0]
theorem laid_met (os : Os) : laidMet Tryd.prog Rows.walReadsRow.laid ((laidWorld os).forCall (fun _ _ => 0) ⟨#[], zArgs, []⟩).memory :=
  laidMet_of_run' 8 (by kernel_rfl) (by kernel_rfl)
theorem reads (os : Os) {H : Type} (enc : TypeId × Value → H) : ∃ places, DataW.whole enc Tryd.prog ((laidWorld os).forCall (fun _ _ => 0) ⟨#[], zArgs, []⟩).memory Tryd.f10.params.toList Rows.walReadsSpec.vars false zArgs.toList 8 = some ([.agg (List.replicate 32 (.lit (.int .u8 0))), .nil], [], places) :=
  ⟨[], by kernel_rfl⟩
set_option maxRecDepth 100000 in
set_option maxHeartbeats 1000000 in
theorem lifted (os : Os) (started : os.Started) (H : Type) (enc : TypeId × Value → H) (F : Stop.Interp) :
    ReturnsInHanded {} Tryd.checked os 10 .any ((OpenSpec.ofChange Rows.walReadsSpec).preRow enc Tryd.prog Tryd.f10 Rows.walReadsRow.domain false Rows.walReadsRow.laid) (((OpenSpec.ofChange Rows.walReadsSpec).at F).post enc Tryd.prog Tryd.f10 false true false false) := by
  obtain ⟨places, hx⟩ := reads os enc
  refine returnsInHanded_of_row (C := Tryd.checked) (s := OpenSpec.ofChange Rows.walReadsSpec) tanOwn started (by kernel_rfl) Tryd.func10
    (witness_row_at (enc := enc) (C := Tryd.checked) false (laidWorld os) zArgs rfl (by kernel_rfl) (by kernel_rfl) (by kernel_rfl)
      (OpenSpec.preRow_of_cond 8 hx (by kernel_rfl) (fun k hk => by cases hk) (by kernel_rfl) (laid_met os))) ?_
  intro W base args ds gs before hval0 hW _ hcond hwt0 hL _ _
  have hval : ∀ (j : Nat) t v, Tryd.f10.params[j]? = some t → args[j]? = some v → Value.okWide Tryd.prog W .any base t v := hval0
  have hW2 : DataW.Whole enc Tryd.prog Tryd.f10.params.toList [] false W args.toList ds gs before := hW
  have hwt : (DataW.weightsEach Tryd.prog (Tryd.f10.params.toList ++ []) (ds ++ gs)).all (· ≤ reachBytes) = true := hwt0
  have hW3 : DataW.Whole enc Tryd.prog Tryd.f10.params.toList Rows.walReadsSpec.vars false W args.toList ds gs before := hW
  show Calls Tryd.prog 10 args W fun e W' => ∃ v, e = .returned v ∧ Rows.walReadsSpec.post enc Tryd.prog Tryd.f10 false true false false W args v W'
  have hK : RdNP (fun b => W.heap[b]?) 1 0 (wa 64 kW) := tabC hL
  have hR : RdNP (fun b => W.heap[b]?) 0 0 (wa 64 kW) := tabR hL
  obtain ⟨p, q, hA, hV, hq, hfz, hnd⟩ := hW2
  rw [Tryd.params10] at hA hval hwt
  obtain ⟨v0, v1, d0, d1, p0, p1, rfl, rfl, hp, r0, r1⟩ := trodAll_two hA
  obtain ⟨rfl, rfl⟩ := trodVars_none hV
  refine of_ct tanLaid hW3 rfl ?_ rfl (by kernel_rfl) Tryd.underlying4 ?_
  · rw [Tryd.params10]; exact (List.forall_mem_cons.2 ⟨⟨by kernel_rfl, of_decide_eq_true (by kernel_rfl)⟩, (List.forall_mem_cons.2 ⟨⟨by kernel_rfl, of_decide_eq_true (by kernel_rfl)⟩, List.forall_mem_nil _⟩)⟩)
  · obtain ⟨root, hr0⟩ := (Rg.arg (i := 0) r0 hwt rfl rfl).ba Tryd.underlying42 Tryd.underlying5 Fx.co5 Fx.co42
    obtain rfl := arr_of Tryd.underlying42 (hval 0 42 v0 rfl rfl) hr0
    obtain ⟨hx, xs, hx0, hsx, _, hl⟩ := (Rg.arg (i := 1) r1 hwt rfl rfl).bsl Tryd.underlying27 Tryd.underlying5 Fx.co5 Fx.by5
    obtain rfl := sl_of Tryd.underlying27 (hval 1 27 v1 rfl rfl) hx0 rfl
    exact WalReads_ok root xs hx _ hsx hK hR
theorem said : Rows.WalReadsSaid :=
  OpenClaim.holds_of_cond 10 Tryd.f10 rfl rfl rfl rfl rfl rfl rfl ⟨rfl, rfl, rfl, rfl, rfl⟩ rfl rfl rfl rfl rfl (by kernel_rfl) Tryd.func10 (by kernel_rfl)
    (of_decide_eq_true (by kernel_rfl)) (by unfold Func.isWrapper; first | (rw [if_pos (by decide +kernel)]; kernel_rfl) | (rw [if_neg (by decide +kernel)]; exact ⟨rfl, rfl⟩))
    (fun os started H enc _ F => by rw [OpenClaim.pre_eq_preRow]; exact lifted os started H enc F)
theorem plain (f : FuncId) (fn : Func) (hf : Tryd.pinned.checked.prog.funcNamed "tantalus/tantaluslaw16.WalReads" = some f) (hfn : Tryd.pinned.checked.prog.funcs[f]? = some fn) :
    false = Tryd.pinned.checked.prog.looks [] ∧ ∀ (j : Nat) t, fn.params[j]? = some t → Tryd.pinned.checked.prog.wantsStandIn t = false := by
  obtain rfl : f = 10 := Option.some.inj ((show Tryd.prog.funcNamed "tantalus/tantaluslaw16.WalReads" = some 10 by kernel_rfl).symm.trans hf) |>.symm
  obtain rfl : fn = Tryd.f10 := (Option.some.inj (Tryd.func10.symm.trans hfn)).symm
  refine ⟨by kernel_rfl, fun j t ht => ?_⟩
  rw [Tryd.params10] at ht
  have hm : t ∈ ([42, 27] : List Nat) := by have := Array.mem_of_getElem? ht; simpa using this
  have hall : ∀ t ∈ ([42, 27] : List Nat), Tryd.prog.wantsStandIn t = false := by
    intro t ht
    simp only [List.mem_cons, List.not_mem_nil, or_false] at ht
    rcases ht with rfl | rfl
    · kernel_rfl
    · kernel_rfl
  exact hall t hm
end walReads
theorem walReads_holds : Rows.WalReadsCardSaid :=
  Claim7.holds_tied_plain_at .later [] _ _ _ _ walReads.said (fun _ h => by cases h) (by kernel_rfl) (fun _ h => by cases h) walReads_row_tie rfl ⟨rfl, rfl⟩ (by kernel_rfl) rfl walReads.plain (by kernel_rfl)
end Go.Proofs.YtoogjfldgeiapaaDoor
