/- The card of the law GroupNil, proved: whatever is handed in, with the listed tables as the program lays them, it returns true, and the arguments read as they did. -/
import Derived.Test.YtggleibgadkodaaGreatDoorGa5
namespace Go.Proofs.YtggleibgadkodaaGreatDoor
set_option linter.unusedSimpArgs false
set_option linter.unusedVariables false
open Go.Tan Go.RowKit Go.ChangeShapes Go.WideShapes Go.ChangeAt

namespace groupNil
def zArgs : Array Value := #[.agg ([.int .u8 0] ++ [.int .i64 0] ++ [.slice none 0 0] ++ [.bool false] ++ [.int .i64 0] : List Value).toArray]
theorem laid_met (os : Os) : laidMet Tryz.prog Rows.groupNilRow.laid ((laidWorld os).forCall (fun _ _ => 0) ⟨#[], zArgs, []⟩).memory :=
  laidMet_of_run' 8 (by kernel_rfl) (by kernel_rfl)
theorem reads (os : Os) {H : Type} (enc : TypeId × Value → H) : ∃ places, DataW.whole enc Tryz.prog ((laidWorld os).forCall (fun _ _ => 0) ⟨#[], zArgs, []⟩).memory Tryz.f3.params.toList Rows.groupNilSpec.vars false zArgs.toList 8 = some ([.agg [.lit (.int .u8 0), .lit (.int .i64 0), .nil, .lit (.bool false), .lit (.int .i64 0)]], [], places) :=
  ⟨[], by kernel_rfl⟩
set_option maxRecDepth 100000 in
set_option maxHeartbeats 1000000 in
theorem lifted (os : Os) (started : os.Started) (H : Type) (enc : TypeId × Value → H) (F : Stop.Interp) :
    ReturnsInHanded {} Tryz.checked os 3 .any ((OpenSpec.ofChange Rows.groupNilSpec).preRow enc Tryz.prog Tryz.f3 Rows.groupNilRow.domain false Rows.groupNilRow.laid) (((OpenSpec.ofChange Rows.groupNilSpec).at F).post enc Tryz.prog Tryz.f3 false true false false) := by
  obtain ⟨places, hx⟩ := reads os enc
  refine returnsInHanded_of_row (C := Tryz.checked) (s := OpenSpec.ofChange Rows.groupNilSpec) tanOwn started (by kernel_rfl) Tryz.func3
    (witness_row_at (enc := enc) (C := Tryz.checked) false (laidWorld os) zArgs rfl (by kernel_rfl) (by kernel_rfl) (by kernel_rfl)
      (OpenSpec.preRow_of_cond 8 hx (by kernel_rfl) (fun k hk => by cases hk) (by kernel_rfl) (laid_met os))) ?_
  intro W base args ds gs before hval0 hW _ hcond hwt0 hL _ _
  have hval : ∀ (j : Nat) t v, Tryz.f3.params[j]? = some t → args[j]? = some v → Value.okWide Tryz.prog W .any base t v := hval0
  have hW2 : DataW.Whole enc Tryz.prog Tryz.f3.params.toList [] false W args.toList ds gs before := hW
  have hwt : (DataW.weightsEach Tryz.prog (Tryz.f3.params.toList ++ []) (ds ++ gs)).all (· ≤ reachBytes) = true := hwt0
  have hW3 : DataW.Whole enc Tryz.prog Tryz.f3.params.toList Rows.groupNilSpec.vars false W args.toList ds gs before := hW
  show Calls Tryz.prog 3 args W fun e W' => ∃ v, e = .returned v ∧ Rows.groupNilSpec.post enc Tryz.prog Tryz.f3 false true false false W args v W'
  have hK : RdNP (fun b => W.heap[b]?) 0 0 (wa 64 kW) := tabC hL
  obtain ⟨p, q, hA, hV, hq, hfz, hnd⟩ := hW2
  rw [Tryz.params3] at hA hval hwt
  obtain ⟨v0, vs0, d0, ds0, p0, q0, hargs, rfl, rfl, r0, rr⟩ := trodAll_cons hA
  obtain ⟨rfl, rfl, rfl⟩ := trodAll_nil rr
  obtain rfl : args = #[v0] := by cases args; simp_all
  obtain ⟨rfl, rfl⟩ := trodVars_none hV
  refine of_ct tanLaid hW3 rfl ?_ rfl (by kernel_rfl) Tryz.underlying4 ?_
  · rw [Tryz.params3]; exact (List.forall_mem_cons.2 ⟨⟨by kernel_rfl, of_decide_eq_true (by kernel_rfl)⟩, List.forall_mem_nil _⟩)
  · obtain ⟨k, c, ov, y, mo, ha0, ho⟩ := act_of (by decide) (Rg.arg (i := 0) r0 hwt rfl rfl)
    obtain rfl := agg_of Tryz.underlying24 (hval 0 24 v0 rfl rfl) ha0
    exact groupNil_ok k c mo ov y _ ho hK
theorem c10 : (Rows.groupNilRow.inPlace == Tryz.prog.inPlace 3) = true := by kernel_rfl
theorem c11 : (Rows.groupNilRow.unfollowed == Tryz.prog.unfollowed 3) = true := by kernel_rfl
theorem c12 : (Rows.groupNilRow.recurses == Tryz.prog.recurses 3) = true := by kernel_rfl
theorem c13 : (Rows.groupNilRow.named == Tryz.prog.varsNamed 3) = true := by kernel_rfl
theorem closed : joinedFacts Tryz.prog 3 Tryz.f3 (OpenSpec.ofChange Rows.groupNilSpec).bare Rows.groupNilRow = true :=
  (tab (tab (tab (tab (tab (tab (tab (tab (tab (tab (tab (tab (tab (tab (tab (tab (tab (tab (tab (tab (tab (tab (tab (tab (tab (tab (tab (tab (tab (tab (tab (by kernel_rfl) tanLaid) tanRowed) (by kernel_rfl)) (by kernel_rfl)) (by kernel_rfl)) (by kernel_rfl)) (by kernel_rfl)) (by kernel_rfl)) c10) c11) c12) c13) (by kernel_rfl)) (by kernel_rfl)) (by kernel_rfl)) (by kernel_rfl)) (by kernel_rfl)) (by kernel_rfl)) (by kernel_rfl)) (by kernel_rfl)) (by kernel_rfl)) tanKeys) (by kernel_rfl)) tanHeard) tanEnter) (by kernel_rfl)) (by kernel_rfl)) (by kernel_rfl)) (by kernel_rfl)) (by kernel_rfl)) (by kernel_rfl))
theorem said : Rows.GroupNilSaid :=
  OpenClaim.holds_of_cond 3 Tryz.f3 rfl rfl rfl rfl rfl rfl rfl ⟨rfl, rfl, rfl, rfl, rfl⟩ rfl rfl rfl rfl rfl (by kernel_rfl) Tryz.func3 closed
    (of_decide_eq_true (by kernel_rfl)) (by unfold Func.isWrapper; first | (rw [if_pos (by decide +kernel)]; kernel_rfl) | (rw [if_neg (by decide +kernel)]; exact ⟨rfl, rfl⟩))
    (fun os started H enc _ F => by rw [OpenClaim.pre_eq_preRow]; exact lifted os started H enc F)
theorem plain (f : FuncId) (fn : Func) (hf : Tryz.pinned.checked.prog.funcNamed "tantalus/tantaluslaw24.GroupNil" = some f) (hfn : Tryz.pinned.checked.prog.funcs[f]? = some fn) :
    true = Tryz.pinned.checked.prog.looks [] ∧ ∀ (j : Nat) t, fn.params[j]? = some t → Tryz.pinned.checked.prog.wantsStandIn t = false := by
  obtain rfl : f = 3 := Option.some.inj ((show Tryz.prog.funcNamed "tantalus/tantaluslaw24.GroupNil" = some 3 by kernel_rfl).symm.trans hf) |>.symm
  obtain rfl : fn = Tryz.f3 := (Option.some.inj (Tryz.func3.symm.trans hfn)).symm
  refine ⟨by kernel_rfl, fun j t ht => ?_⟩
  rw [Tryz.params3] at ht
  have hm : t ∈ ([24] : List Nat) := by have := Array.mem_of_getElem? ht; simpa using this
  have hall : ∀ t ∈ ([24] : List Nat), Tryz.prog.wantsStandIn t = false := by
    intro t ht
    simp only [List.mem_cons, List.not_mem_nil, or_false] at ht
    rcases ht with rfl
    · kernel_rfl
  exact hall t hm
end groupNil
theorem groupNil_holds : Rows.GroupNilCardSaid :=
  Claim7.holds_tied_plain_at .later [] _ _ _ _ groupNil.said (fun _ h => by cases h) (by kernel_rfl) (fun _ h => by cases h) groupNil_row_tie rfl ⟨rfl, rfl⟩ (by kernel_rfl) rfl groupNil.plain (by kernel_rfl)
end Go.Proofs.YtggleibgadkodaaGreatDoor
