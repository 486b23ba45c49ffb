/- The card of the law GroupAlone, proved: whatever is handed in, with the listed tables as the program lays them, it returns true, and the arguments read as they did. -/
import Derived.Test.YtjkkbmdonbcccaaGreatDoorGa9
namespace Go.Proofs.YtjkkbmdonbcccaaGreatDoor
set_option linter.unusedSimpArgs false
set_option linter.unusedVariables false
open Go.Tan Go.RowKit Go.ChangeShapes Go.WideShapes Go.ChangeAt

namespace groupAlone
def zArgs : Array Value := #[.slice none 0 0]
theorem laid_met (os : Os) : laidMet Tryz.prog Rows.groupAloneRow.laid ((aFs os).forCall (fun _ _ => 0) ⟨#[], zArgs, []⟩).memory :=
  laidMet_of_run' 8 (by kernel_rfl) (by kernel_rfl)
theorem reads (os : Os) {H : Type} (enc : TypeId × Value → H) : ∃ places, DataW.whole enc Tryz.prog ((aFs os).forCall (fun _ _ => 0) ⟨#[], zArgs, []⟩).memory Tryz.f4.params.toList Rows.groupAloneSpec.vars false zArgs.toList 8 = some ([.nil], [], places) :=
  ⟨[], by kernel_rfl⟩
set_option maxRecDepth 100000 in
set_option maxHeartbeats 1000000 in
theorem lifted (os : Os) (started : os.Started) (H : Type) (enc : TypeId × Value → H) (F : Stop.Interp) :
    ReturnsInHanded {} Tryz.checked os 4 .any ((OpenSpec.ofChange Rows.groupAloneSpec).preRow enc Tryz.prog Tryz.f4 Rows.groupAloneRow.domain false Rows.groupAloneRow.laid) (((OpenSpec.ofChange Rows.groupAloneSpec).at F).post enc Tryz.prog Tryz.f4 false true false false) := by
  obtain ⟨places, hx⟩ := reads os enc
  refine returnsInHanded_of_row (C := Tryz.checked) (s := OpenSpec.ofChange Rows.groupAloneSpec) bAS started (by kernel_rfl) Tryz.func4
    (witness_row_at (enc := enc) (C := Tryz.checked) false (aFs os) zArgs rfl (by kernel_rfl) (by kernel_rfl) (by kernel_rfl)
      (OpenSpec.preRow_of_cond 8 hx (by kernel_rfl) (fun k hk => by cases hk) (by kernel_rfl) (laid_met os))) ?_
  intro W base args ds gs before hval0 hW _ hcond hwt0 hL _ _
  have hval : ∀ (j : Nat) t v, Tryz.f4.params[j]? = some t → args[j]? = some v → Value.okWide Tryz.prog W .any base t v := hval0
  have hW2 : DataW.Whole enc Tryz.prog Tryz.f4.params.toList [] false W args.toList ds gs before := hW
  have hwt : (DataW.weightsEach Tryz.prog (Tryz.f4.params.toList ++ []) (ds ++ gs)).all (· ≤ reachBytes) = true := hwt0
  have hW3 : DataW.Whole enc Tryz.prog Tryz.f4.params.toList Rows.groupAloneSpec.vars false W args.toList ds gs before := hW
  show Calls Tryz.prog 4 args W fun e W' => ∃ v, e = .returned v ∧ Rows.groupAloneSpec.post enc Tryz.prog Tryz.f4 false true false false W args v W'
  have hK : RdNP (fun b => W.heap[b]?) 0 0 (wa 64 kW) := aZ3 hL
  obtain ⟨p, q, hA, hV, hq, hfz, hnd⟩ := hW2
  rw [Tryz.params4] at hA hval hwt
  obtain ⟨v0, vs0, d0, ds0, p0, q0, hargs, rfl, rfl, r0, rr⟩ := trodAll_cons hA
  obtain ⟨rfl, rfl, rfl⟩ := trodAll_nil rr
  obtain rfl : args = #[v0] := by cases args; simp_all
  obtain ⟨rfl, rfl⟩ := trodVars_none hV
  refine aWn aNU hW3 rfl ?_ rfl (by kernel_rfl) Tryz.underlying4 ?_
  · rw [Tryz.params4]; exact (List.forall_mem_cons.2 ⟨⟨by kernel_rfl, of_decide_eq_true (by kernel_rfl)⟩, List.forall_mem_nil _⟩)
  · obtain ⟨hd, l, eE, hsl, hAl, hln⟩ := aVa (by decide) (Rg.arg (i := 0) r0 hwt rfl rfl)
    obtain rfl := aY4 Tryz.underlying53 (hval 0 53 v0 rfl rfl) eE rfl
    exact aP6 hd l _ hsl hAl hln hK
theorem c10 : (Rows.groupAloneRow.inPlace == Tryz.prog.inPlace 4) = true := by kernel_rfl
theorem c11 : (Rows.groupAloneRow.unfollowed == Tryz.prog.unfollowed 4) = true := by kernel_rfl
theorem c12 : (Rows.groupAloneRow.recurses == Tryz.prog.recurses 4) = true := by kernel_rfl
theorem c13 : (Rows.groupAloneRow.named == Tryz.prog.varsNamed 4) = true := by kernel_rfl
theorem closed : joinedFacts Tryz.prog 4 Tryz.f4 (OpenSpec.ofChange Rows.groupAloneSpec).bare Rows.groupAloneRow = true :=
  (tab (tab (tab (tab (tab (tab (tab (tab (tab (tab (tab (tab (tab (tab (tab (tab (tab (tab (tab (tab (tab (tab (tab (tab (tab (tab (tab (tab (tab (tab (tab (by kernel_rfl) aNU) bAT) (by kernel_rfl)) (by kernel_rfl)) (by kernel_rfl)) (by kernel_rfl)) (by kernel_rfl)) (by kernel_rfl)) c10) c11) c12) c13) (by kernel_rfl)) (by kernel_rfl)) (by kernel_rfl)) (by kernel_rfl)) (by kernel_rfl)) (by kernel_rfl)) (by kernel_rfl)) (by kernel_rfl)) (by kernel_rfl)) bAR) (by kernel_rfl)) bAQ) bAP) (by kernel_rfl)) (by kernel_rfl)) (by kernel_rfl)) (by kernel_rfl)) (by kernel_rfl)) (by kernel_rfl))
theorem said : Rows.GroupAloneSaid :=
  OpenClaim.holds_of_cond 4 Tryz.f4 rfl rfl rfl rfl rfl rfl rfl ⟨rfl, rfl, rfl, rfl, rfl⟩ rfl rfl rfl rfl rfl (by kernel_rfl) Tryz.func4 closed
    (of_decide_eq_true (by kernel_rfl)) (by unfold Func.isWrapper; first | (rw [if_pos (by decide +kernel)]; kernel_rfl) | (rw [if_neg (by decide +kernel)]; exact ⟨rfl, rfl⟩))
    (fun os started H enc _ F => by rw [OpenClaim.pre_eq_preRow]; exact lifted os started H enc F)
theorem plain (f : FuncId) (fn : Func) (hf : Tryz.pinned.checked.prog.funcNamed "tantalus/tantaluslaw24.GroupAlone" = some f) (hfn : Tryz.pinned.checked.prog.funcs[f]? = some fn) :
    true = Tryz.pinned.checked.prog.looks [] ∧ ∀ (j : Nat) t, fn.params[j]? = some t → Tryz.pinned.checked.prog.wantsStandIn t = false := by
  obtain rfl : f = 4 := Option.some.inj ((show Tryz.prog.funcNamed "tantalus/tantaluslaw24.GroupAlone" = some 4 by kernel_rfl).symm.trans hf) |>.symm
  obtain rfl : fn = Tryz.f4 := (Option.some.inj (Tryz.func4.symm.trans hfn)).symm
  refine ⟨by kernel_rfl, fun j t ht => ?_⟩
  rw [Tryz.params4] at ht
  have hm : t ∈ ([53] : List Nat) := by have := Array.mem_of_getElem? ht; simpa using this
  have hall : ∀ t ∈ ([53] : List Nat), Tryz.prog.wantsStandIn t = false := by
    intro t ht
    simp only [List.mem_cons, List.not_mem_nil, or_false] at ht
    rcases ht with rfl
    · kernel_rfl
  exact hall t hm
end groupAlone
theorem groupAlone_holds : Rows.GroupAloneCardSaid :=
  Claim7.holds_tied_plain_at .later [] _ _ _ _ groupAlone.said (fun _ h => by cases h) (by kernel_rfl) (fun _ h => by cases h) groupAlone_row_tie rfl ⟨rfl, rfl⟩ (by kernel_rfl) rfl groupAlone.plain (by kernel_rfl)
end Go.Proofs.YtjkkbmdonbcccaaGreatDoor
