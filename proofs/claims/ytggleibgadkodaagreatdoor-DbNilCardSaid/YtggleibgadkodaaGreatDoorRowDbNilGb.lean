/- The card of the law DbNil, proved: whatever is handed in, with the listed tables as the program lays them, it returns true, and the arguments read as they did. -/
import Derived.Test.YtggleibgadkodaaGreatDoorGb5
namespace Go.Proofs.YtggleibgadkodaaGreatDoor
set_option linter.unusedSimpArgs false
set_option linter.unusedVariables false
open Go.Tan Go.RowKit Go.ChangeShapes Go.WideShapes Go.ChangeAt

namespace dbNil
def zArgs : Array Value := #[.agg (List.replicate 7 (.int .i64 0) : List Value).toArray, .agg ([.int .u8 0] ++ [.slice none 0 0] ++ [.bool false] ++ List.replicate 2 (.string ByteArray.empty) ++ [.int .u64 0] ++ [.int .i64 0] ++ [.slice none 0 0] : List Value).toArray]
theorem laid_met (os : Os) : laidMet Tryz.prog Rows.dbNilRow.laid ((laidWorld os).forCall (fun _ _ => 0) ⟨#[], zArgs, []⟩).memory :=
  laidMet_of_run' 8 (by kernel_rfl) (by kernel_rfl)
theorem reads (os : Os) {H : Type} (enc : TypeId × Value → H) : ∃ places, DataW.whole enc Tryz.prog ((laidWorld os).forCall (fun _ _ => 0) ⟨#[], zArgs, []⟩).memory Tryz.f4.params.toList Rows.dbNilSpec.vars false zArgs.toList 8 = some ([.agg [.lit (.int .i64 0), .lit (.int .i64 0), .lit (.int .i64 0), .lit (.int .i64 0), .agg [.lit (.int .i64 0), .lit (.int .i64 0), .lit (.int .i64 0)]], .agg [.lit (.int .u8 0), .nil, .lit (.bool false), .lit (.string []), .lit (.string []), .lit (.int .u64 0), .lit (.int .i64 0), .nil]], [], places) :=
  ⟨[], by kernel_rfl⟩
set_option maxRecDepth 100000 in
set_option maxHeartbeats 1000000 in
theorem lifted (os : Os) (started : os.Started) (H : Type) (enc : TypeId × Value → H) (F : Stop.Interp) :
    ReturnsInHanded {} Tryz.checked os 4 .any ((OpenSpec.ofChange Rows.dbNilSpec).preRow enc Tryz.prog Tryz.f4 Rows.dbNilRow.domain false Rows.dbNilRow.laid) (((OpenSpec.ofChange Rows.dbNilSpec).at F).post enc Tryz.prog Tryz.f4 false true false false) := by
  obtain ⟨places, hx⟩ := reads os enc
  refine returnsInHanded_of_row (C := Tryz.checked) (s := OpenSpec.ofChange Rows.dbNilSpec) tanOwn started (by kernel_rfl) Tryz.func4
    (witness_row_at (enc := enc) (C := Tryz.checked) false (laidWorld os) zArgs rfl (by kernel_rfl) (by kernel_rfl) (by kernel_rfl)
      (OpenSpec.preRow_of_cond 8 hx (by kernel_rfl) (fun k hk => by cases hk) (by kernel_rfl) (laid_met os))) ?_
  intro W base args ds gs before hval0 hW _ hcond hwt0 hL _ _
  have hval : ∀ (j : Nat) t v, Tryz.f4.params[j]? = some t → args[j]? = some v → Value.okWide Tryz.prog W .any base t v := hval0
  have hW2 : DataW.Whole enc Tryz.prog Tryz.f4.params.toList [] false W args.toList ds gs before := hW
  have hwt : (DataW.weightsEach Tryz.prog (Tryz.f4.params.toList ++ []) (ds ++ gs)).all (· ≤ reachBytes) = true := hwt0
  have hW3 : DataW.Whole enc Tryz.prog Tryz.f4.params.toList Rows.dbNilSpec.vars false W args.toList ds gs before := hW
  show Calls Tryz.prog 4 args W fun e W' => ∃ v, e = .returned v ∧ Rows.dbNilSpec.post enc Tryz.prog Tryz.f4 false true false false W args v W'
  have hK : RdNP (fun b => W.heap[b]?) 0 0 (wa 64 kW) := tabC hL
  obtain ⟨p, q, hA, hV, hq, hfz, hnd⟩ := hW2
  rw [Tryz.params4] at hA hval hwt
  obtain ⟨v0, v1, d0, d1, p0, p1, rfl, rfl, hp, r0, r1⟩ := trodAll_two hA
  obtain ⟨rfl, rfl⟩ := trodVars_none hV
  refine of_ct tanLaid hW3 rfl ?_ rfl (by kernel_rfl) Tryz.underlying4 ?_
  · rw [Tryz.params4]; exact (List.forall_mem_cons.2 ⟨⟨by kernel_rfl, of_decide_eq_true (by kernel_rfl)⟩, (List.forall_mem_cons.2 ⟨⟨by kernel_rfl, of_decide_eq_true (by kernel_rfl)⟩, List.forall_mem_nil _⟩)⟩)
  · obtain ⟨o, ho0⟩ := opts_of (Rg.arg (i := 0) r0 hwt rfl rfl)
    obtain rfl := agg_of Tryz.underlying40 (hval 0 40 v0 rfl rfl) ho0
    obtain ⟨k, ov, kp9, y, lo, hi, m, n, ha0, ho, hk9⟩ := act3_of (by decide) (Rg.arg (i := 1) r1 hwt rfl rfl)
    obtain rfl := agg_of Tryz.underlying43 (hval 1 43 v1 rfl rfl) ha0
    exact dbNil_ok o k ov kp9 y lo hi m n _ ho hk9 hK
theorem c10 : (Rows.dbNilRow.inPlace == Tryz.prog.inPlace 4) = true := by kernel_rfl
theorem c11 : (Rows.dbNilRow.unfollowed == Tryz.prog.unfollowed 4) = true := by kernel_rfl
theorem c12 : (Rows.dbNilRow.recurses == Tryz.prog.recurses 4) = true := by kernel_rfl
theorem c13 : (Rows.dbNilRow.named == Tryz.prog.varsNamed 4) = true := by kernel_rfl
theorem closed : joinedFacts Tryz.prog 4 Tryz.f4 (OpenSpec.ofChange Rows.dbNilSpec).bare Rows.dbNilRow = true :=
  (tab (tab (tab (tab (tab (tab (tab (tab (tab (tab (tab (tab (tab (tab (tab (tab (tab (tab (tab (tab (tab (tab (tab (tab (tab (tab (tab (tab (tab (tab (tab (by kernel_rfl) tanLaid) tanRowed) (by kernel_rfl)) (by kernel_rfl)) (by kernel_rfl)) (by kernel_rfl)) (by kernel_rfl)) (by kernel_rfl)) c10) c11) c12) c13) (by kernel_rfl)) (by kernel_rfl)) (by kernel_rfl)) (by kernel_rfl)) (by kernel_rfl)) (by kernel_rfl)) (by kernel_rfl)) (by kernel_rfl)) (by kernel_rfl)) tanKeys) (by kernel_rfl)) tanHeard) tanEnter) (by kernel_rfl)) (by kernel_rfl)) (by kernel_rfl)) (by kernel_rfl)) (by kernel_rfl)) (by kernel_rfl))
theorem said : Rows.DbNilSaid :=
  OpenClaim.holds_of_cond 4 Tryz.f4 rfl rfl rfl rfl rfl rfl rfl ⟨rfl, rfl, rfl, rfl, rfl⟩ rfl rfl rfl rfl rfl (by kernel_rfl) Tryz.func4 closed
    (of_decide_eq_true (by kernel_rfl)) (by unfold Func.isWrapper; first | (rw [if_pos (by decide +kernel)]; kernel_rfl) | (rw [if_neg (by decide +kernel)]; exact ⟨rfl, rfl⟩))
    (fun os started H enc _ F => by rw [OpenClaim.pre_eq_preRow]; exact lifted os started H enc F)
theorem plain (f : FuncId) (fn : Func) (hf : Tryz.pinned.checked.prog.funcNamed "tantalus/tantaluslaw23.DbNil" = some f) (hfn : Tryz.pinned.checked.prog.funcs[f]? = some fn) :
    true = Tryz.pinned.checked.prog.looks [] ∧ ∀ (j : Nat) t, fn.params[j]? = some t → Tryz.pinned.checked.prog.wantsStandIn t = false := by
  obtain rfl : f = 4 := Option.some.inj ((show Tryz.prog.funcNamed "tantalus/tantaluslaw23.DbNil" = some 4 by kernel_rfl).symm.trans hf) |>.symm
  obtain rfl : fn = Tryz.f4 := (Option.some.inj (Tryz.func4.symm.trans hfn)).symm
  refine ⟨by kernel_rfl, fun j t ht => ?_⟩
  rw [Tryz.params4] at ht
  have hm : t ∈ ([40, 43] : List Nat) := by have := Array.mem_of_getElem? ht; simpa using this
  have hall : ∀ t ∈ ([40, 43] : List Nat), Tryz.prog.wantsStandIn t = false := by
    intro t ht
    simp only [List.mem_cons, List.not_mem_nil, or_false] at ht
    rcases ht with rfl | rfl
    · kernel_rfl
    · kernel_rfl
  exact hall t hm
end dbNil
theorem dbNil_holds : Rows.DbNilCardSaid :=
  Claim7.holds_tied_plain_at .later [] _ _ _ _ dbNil.said (fun _ h => by cases h) (by kernel_rfl) (fun _ h => by cases h) dbNil_row_tie rfl ⟨rfl, rfl⟩ (by kernel_rfl) rfl dbNil.plain (by kernel_rfl)
end Go.Proofs.YtggleibgadkodaaGreatDoor
