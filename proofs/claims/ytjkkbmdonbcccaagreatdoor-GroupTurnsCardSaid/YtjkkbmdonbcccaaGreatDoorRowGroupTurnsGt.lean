/- The card of the law GroupTurns, proved: whatever is handed in, with the listed tables as the program lays them, it returns true, and the arguments read as they did. -/
import Derived.Test.YtjkkbmdonbcccaaGreatDoorGt7
namespace Go.Proofs.YtjkkbmdonbcccaaGreatDoor
set_option linter.unusedSimpArgs false
set_option linter.unusedVariables false
open Go.Tan Go.RowKit Go.ChangeShapes Go.WideShapes Go.ChangeAt

namespace groupTurns
def zArgs : Array Value := #[.int .u8 0, .slice none 0 0]
theorem laid_met (os : Os) : laidMet Tryz.prog Rows.groupTurnsRow.laid ((aGS os).forCall (fun _ _ => 0) ⟨#[], zArgs, []⟩).memory :=
  laidMet_of_run' 8 (by kernel_rfl) (by kernel_rfl)
theorem reads (os : Os) {H : Type} (enc : TypeId × Value → H) : ∃ places, DataW.whole enc Tryz.prog ((aGS os).forCall (fun _ _ => 0) ⟨#[], zArgs, []⟩).memory Tryz.f3.params.toList Rows.groupTurnsSpec.vars false zArgs.toList 8 = some ([.lit (.int .u8 0), .nil], [], places) :=
  ⟨[], by kernel_rfl⟩
set_option maxRecDepth 100000 in
set_option maxHeartbeats 1000000 in
theorem lifted (os : Os) (started : os.Started) (H : Type) (enc : TypeId × Value → H) (F : Stop.Interp) :
    ReturnsInHanded {} Tryz.checked os 3 .any ((OpenSpec.ofChange Rows.groupTurnsSpec).preRow enc Tryz.prog Tryz.f3 Rows.groupTurnsRow.domain false Rows.groupTurnsRow.laid) (((OpenSpec.ofChange Rows.groupTurnsSpec).at F).post enc Tryz.prog Tryz.f3 false true false false) := by
  obtain ⟨places, hx⟩ := reads os enc
  refine returnsInHanded_of_row (C := Tryz.checked) (s := OpenSpec.ofChange Rows.groupTurnsSpec) bBz started (by kernel_rfl) Tryz.func3
    (witness_row_at (enc := enc) (C := Tryz.checked) false (aGS os) zArgs rfl (by kernel_rfl) (by kernel_rfl) (by kernel_rfl)
      (OpenSpec.preRow_of_cond 8 hx (by kernel_rfl) (fun k hk => by cases hk) (by kernel_rfl) (laid_met os))) ?_
  intro W base args ds gs before hval0 hW _ hcond hwt0 hL _ _
  have hval : ∀ (j : Nat) t v, Tryz.f3.params[j]? = some t → args[j]? = some v → Value.okWide Tryz.prog W .any base t v := hval0
  have hW2 : DataW.Whole enc Tryz.prog Tryz.f3.params.toList [] false W args.toList ds gs before := hW
  have hwt : (DataW.weightsEach Tryz.prog (Tryz.f3.params.toList ++ []) (ds ++ gs)).all (· ≤ reachBytes) = true := hwt0
  have hW3 : DataW.Whole enc Tryz.prog Tryz.f3.params.toList Rows.groupTurnsSpec.vars false W args.toList ds gs before := hW
  show Calls Tryz.prog 3 args W fun e W' => ∃ v, e = .returned v ∧ Rows.groupTurnsSpec.post enc Tryz.prog Tryz.f3 false true false false W args v W'
  have hK : RdNP (fun b => W.heap[b]?) 0 0 (wa 64 kW) := bBb hL
  obtain ⟨p, q, hA, hV, hq, hfz, hnd⟩ := hW2
  rw [Tryz.params3] at hA hval hwt
  obtain ⟨v0, v1, d0, d1, p0, p1, rfl, rfl, hp, r0, r1⟩ := trodAll_two hA
  obtain ⟨rfl, rfl⟩ := trodVars_none hV
  refine aXy aOe hW3 rfl ?_ rfl (by kernel_rfl) Tryz.underlying4 ?_
  · rw [Tryz.params3]; exact (List.forall_mem_cons.2 ⟨⟨by kernel_rfl, of_decide_eq_true (by kernel_rfl)⟩, (List.forall_mem_cons.2 ⟨⟨by kernel_rfl, of_decide_eq_true (by kernel_rfl)⟩, List.forall_mem_nil _⟩)⟩)
  · obtain ⟨m, hm0⟩ := (Rg.arg (i := 0) r0 hwt rfl rfl).uw rfl Tryz.underlying5
    obtain rfl := aVR Tryz.underlying5 (hval 0 5 v0 rfl rfl) hm0 rfl
    obtain ⟨hd, l, eT, hsl, hAl, hln⟩ := aTC (by decide) (Rg.arg (i := 1) r1 hwt rfl rfl)
    obtain rfl := bAa Tryz.underlying22 (hval 1 22 v1 rfl rfl) eT rfl
    exact bCT m hd l _ hsl hAl hln hK
theorem c10 : (Rows.groupTurnsRow.inPlace == Tryz.prog.inPlace 3) = true := by kernel_rfl
theorem c11 : (Rows.groupTurnsRow.unfollowed == Tryz.prog.unfollowed 3) = true := by kernel_rfl
theorem c12 : (Rows.groupTurnsRow.recurses == Tryz.prog.recurses 3) = true := by kernel_rfl
theorem c13 : (Rows.groupTurnsRow.named == Tryz.prog.varsNamed 3) = true := by kernel_rfl
theorem closed : joinedFacts Tryz.prog 3 Tryz.f3 (OpenSpec.ofChange Rows.groupTurnsSpec).bare Rows.groupTurnsRow = true :=
  (tab (tab (tab (tab (tab (tab (tab (tab (tab (tab (tab (tab (tab (tab (tab (tab (tab (tab (tab (tab (tab (tab (tab (tab (tab (tab (tab (tab (tab (tab (tab (by kernel_rfl) aOe) bB0) (by kernel_rfl)) (by kernel_rfl)) (by kernel_rfl)) (by kernel_rfl)) (by kernel_rfl)) (by kernel_rfl)) c10) c11) c12) c13) (by kernel_rfl)) (by kernel_rfl)) (by kernel_rfl)) (by kernel_rfl)) (by kernel_rfl)) (by kernel_rfl)) (by kernel_rfl)) (by kernel_rfl)) (by kernel_rfl)) bBy) (by kernel_rfl)) bBx) bBw) (by kernel_rfl)) (by kernel_rfl)) (by kernel_rfl)) (by kernel_rfl)) (by kernel_rfl)) (by kernel_rfl))
theorem said : Rows.GroupTurnsSaid :=
  OpenClaim.holds_of_cond 3 Tryz.f3 rfl rfl rfl rfl rfl rfl rfl ⟨rfl, rfl, rfl, rfl, rfl⟩ rfl rfl rfl rfl rfl (by kernel_rfl) Tryz.func3 closed
    (of_decide_eq_true (by kernel_rfl)) (by unfold Func.isWrapper; first | (rw [if_pos (by decide +kernel)]; kernel_rfl) | (rw [if_neg (by decide +kernel)]; exact ⟨rfl, rfl⟩))
    (fun os started H enc _ F => by rw [OpenClaim.pre_eq_preRow]; exact lifted os started H enc F)
theorem plain (f : FuncId) (fn : Func) (hf : Tryz.pinned.checked.prog.funcNamed "tantalus/tantaluslaw24.GroupTurns" = some f) (hfn : Tryz.pinned.checked.prog.funcs[f]? = some fn) :
    true = Tryz.pinned.checked.prog.looks [] ∧ ∀ (j : Nat) t, fn.params[j]? = some t → Tryz.pinned.checked.prog.wantsStandIn t = false := by
  obtain rfl : f = 3 := Option.some.inj ((show Tryz.prog.funcNamed "tantalus/tantaluslaw24.GroupTurns" = some 3 by kernel_rfl).symm.trans hf) |>.symm
  obtain rfl : fn = Tryz.f3 := (Option.some.inj (Tryz.func3.symm.trans hfn)).symm
  refine ⟨by kernel_rfl, fun j t ht => ?_⟩
  rw [Tryz.params3] at ht
  have hm : t ∈ ([5, 22] : List Nat) := by have := Array.mem_of_getElem? ht; simpa using this
  have hall : ∀ t ∈ ([5, 22] : List Nat), Tryz.prog.wantsStandIn t = false := by
    intro t ht
    simp only [List.mem_cons, List.not_mem_nil, or_false] at ht
    rcases ht with rfl | rfl
    · kernel_rfl
    · kernel_rfl
  exact hall t hm
end groupTurns
theorem groupTurns_holds : Rows.GroupTurnsCardSaid :=
  Claim7.holds_tied_plain_at .later [] _ _ _ _ groupTurns.said (fun _ h => by cases h) (by kernel_rfl) (fun _ h => by cases h) groupTurns_row_tie rfl ⟨rfl, rfl⟩ (by kernel_rfl) rfl groupTurns.plain (by kernel_rfl)
end Go.Proofs.YtjkkbmdonbcccaaGreatDoor
