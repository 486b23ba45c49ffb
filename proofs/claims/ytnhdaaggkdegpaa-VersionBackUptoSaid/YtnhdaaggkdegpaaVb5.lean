/- Lemmas and contracts, joined: Contracts of functions, walked. The arguments of the laws as plain data: whatever is handed in reads so. No condition. What the bound of the second form gives: no slice, no text and no map that is met is longer than so much. No condition. Edits that are the same; what the laws of edits need. Plain data. No condition. -/
import Derived.Test.YtnhdaaggkdegpaaVb4
import Derived.OpenShut
import Derived.JoinedCond
set_option linter.unusedSimpArgs false
set_option linter.unusedVariables false
set_option linter.unusedSectionVars false
namespace Go.Proofs.Ytnhdaaggkdegpaa
set_option linter.unusedSimpArgs false
set_option linter.unusedVariables false
open Go.Tan Go.RowKit

namespace Fx
theorem go10 : goFn Try.prog 10 = true := by kernel_rfl
theorem go11 : goFn Try.prog 11 = true := by kernel_rfl
theorem go13 : goFn Try.prog 13 = true := by kernel_rfl
theorem bt4 : boolT Try.prog 4 = true := by kernel_rfl
theorem ar52 : arE Try.prog 52 = some (2, 9, 1) := by kernel_rfl
theorem go25 : goFn Try.prog 25 = true := by kernel_rfl
theorem go26 : goFn Try.prog 26 = true := by kernel_rfl
theorem go24 : goFn Try.prog 24 = true := by kernel_rfl
end Fx
theorem VersionRights_ok (s : State) (hd : Nat → Sh) (G : PM) (hs : StR G s hd) : Ct Try.prog 3 ([s.val hd] : List Value).toArray G [] (fun _ μ' u => μ' = [] ∧ u = .bool true) := by
  refine Ct.of Try.func3 rfl Try.ntmps3 rfl fun w0 hs0 => ?_
  refine .seq ?_
  refine Wk.rg [0, 1] rfl rfl ?_
  refine bx rfl (.u rfl) rfl ?_; intro b1
  refine asg rfl .no (.u rfl) ?_
  refine .nil ?_
  refine .code ?_
  refine .seq ?_
  refine Wk.rg [0, 1] rfl rfl ?_
  refine kv rfl .no Fx.go10 Eva.nil (fun _ => shown18_ok _) ?_
  refine asg rfl .no (.u rfl) ?_
  refine .nil ?_
  refine .code ?_
  refine .seq ?_
  refine .seq ?_
  refine Wk.rg [0, 1, 2] rfl rfl ?_
  refine lA rfl .no Fx.ag27 (.u rfl) (fun _ => RdN.own .here) (fun _ => (by first | exact State.len | exact State.len.trans State.len.symm | exact Edit.len | exact Edit.len.trans Edit.len.symm | exact nine2_len | exact nine2_len.trans State.len.symm | rfl)) ?_
  refine kv rfl .no Fx.go11 (Eva.cons (.u rfl) Eva.nil) (fun _ => light_ok s hd _ hs) ?_
  refine nt rfl .no (.u rfl) ?_
  refine .nil ?_
  refine .code ?_
  refine .cond rfl (fun c1 => ?_) (fun c1 => ?_)
  · have c1k := c1
    try simp only [decide_eq_true_eq, decide_eq_false_iff_not, Int.not_lt, Int.not_le, gt_iff_lt, ge_iff_le, Bool.or_eq_true, Bool.and_eq_true, Bool.or_eq_false_iff, Bool.not_eq_true', Bool.not_eq_false', Int.toNat_natCast, bne_iff_ne, beq_iff_eq, bne_eq_false_iff_eq, beq_eq_false_iff_ne, ne_eq] at c1
    refine .seq ?_
    refine Wk.rg [0, 1] rfl rfl ?_
    refine mv rfl .no (.u rfl) ?_
    refine asg rfl .no (.u rfl) ?_
    refine .nil ?_
    refine .code ?_
    refine .ret ?_
    refine We.fin0 Try.results3 (.tmp rfl .nil) ?_
    exact ⟨rfl, rfl⟩
  · have c1k := c1
    try simp only [decide_eq_true_eq, decide_eq_false_iff_not, Int.not_lt, Int.not_le, gt_iff_lt, ge_iff_le, Bool.or_eq_true, Bool.and_eq_true, Bool.or_eq_false_iff, Bool.not_eq_true', Bool.not_eq_false', Int.toNat_natCast, bne_iff_ne, beq_iff_eq, bne_eq_false_iff_eq, beq_eq_false_iff_ne, ne_eq] at c1
    refine .skip ?_
    refine .code ?_
    refine .seq ?_
    refine Wk.draw (mc := ⟨false, false⟩) [0, 1, 2, 4, 3, 5, 6, 7, 8] Fx.mix (by kernel_rfl) ?_
    refine mv rfl .no (.u rfl) ?_
    refine mv rfl .no (.u rfl) ?_
    refine lA rfl (.t rfl rfl) Fx.ag27 (.u rfl) (fun _ => RdN.own .here) (fun _ => (by first | exact State.len | exact State.len.trans State.len.symm | exact Edit.len | exact Edit.len.trans Edit.len.symm | exact nine2_len | exact nine2_len.trans State.len.symm | rfl)) ?_
    refine lA rfl (.t rfl rfl) Fx.ag27 (.u rfl) (fun _ => RdN.own .here) (fun _ => (by first | exact State.len | exact State.len.trans State.len.symm | exact Edit.len | exact Edit.len.trans Edit.len.symm | exact nine2_len | exact nine2_len.trans State.len.symm | rfl)) ?_
    refine kv rfl (.t rfl rfl) Fx.go12 (Eva.cons (.u rfl) Eva.nil) (fun _ => vRight_ok s hd _ hs) ?_
    refine kv rfl (.t rfl rfl) Fx.go13 (Eva.cons (.u rfl) Eva.nil) (fun _ => rRight_ok s hd _ hs) ?_
    refine eb rfl (.t rfl rfl) Fx.bt4 (.u rfl) (.u rfl) ?_
    refine pkA rfl .no (.u rfl) (.u rfl) ?_
    refine asg rfl .no (.u rfl) ?_
    refine .nil ?_
    refine .code ?_
    refine .ret ?_
    refine We.fin0 Try.results3 (.tmp rfl .nil) ?_
    exact ⟨rfl, congrArg Value.bool (by simp)⟩

theorem VersionLooks_ok (s : State) (hd : Nat → Sh) (G : PM) (hs : StR G s hd) (level : Int) (k1 k2 : ByteArray) : Ct Try.prog 8 ([s.val hd, .int .i64 level, .agg #[.string k1, .string k2]] : List Value).toArray G [] (fun _ μ' u => μ' = [] ∧ u = .bool true) := by
  refine Ct.of Try.func8 rfl Try.ntmps8 rfl fun w0 hs0 => ?_
  refine .seq ?_
  refine Wk.rg [0, 1, 2] rfl rfl ?_
  refine bx rfl (.u rfl) rfl ?_; intro b3
  refine bx rfl (.u rfl) rfl ?_; intro b5
  refine asg rfl .no (.u rfl) ?_
  refine .nil ?_
  refine .code ?_
  refine .seq ?_
  refine Wk.rg [0, 1] rfl rfl ?_
  refine kv rfl .no Fx.go10 Eva.nil (fun _ => shown18_ok _) ?_
  refine asg rfl .no (.u rfl) ?_
  refine .nil ?_
  refine .code ?_
  refine .seq ?_
  refine .seq ?_
  refine Wk.rg [0, 1, 2] rfl rfl ?_
  refine lA rfl .no Fx.ag27 (.u rfl) (fun _ => RdN.own (.there .here)) (fun _ => (by first | exact State.len | exact State.len.trans State.len.symm | exact Edit.len | exact Edit.len.trans Edit.len.symm | exact nine2_len | exact nine2_len.trans State.len.symm | rfl)) ?_
  refine kv rfl .no Fx.go11 (Eva.cons (.u rfl) Eva.nil) (fun _ => light_ok s hd _ hs) ?_
  refine nt rfl .no (.u rfl) ?_
  refine .nil ?_
  refine .code ?_
  refine .cond rfl (fun c1 => ?_) (fun c1 => ?_)
  · have c1k := c1
    try simp only [decide_eq_true_eq, decide_eq_false_iff_not, Int.not_lt, Int.not_le, gt_iff_lt, ge_iff_le, Bool.or_eq_true, Bool.and_eq_true, Bool.or_eq_false_iff, Bool.not_eq_true', Bool.not_eq_false', Int.toNat_natCast, bne_iff_ne, beq_iff_eq, bne_eq_false_iff_eq, beq_eq_false_iff_ne, ne_eq] at c1
    refine .seq ?_
    refine Wk.rg [0, 1] rfl rfl ?_
    refine mv rfl .no (.u rfl) ?_
    refine asg rfl .no (.u rfl) ?_
    refine .nil ?_
    refine .code ?_
    refine .ret ?_
    refine We.fin0 Try.results8 (.tmp rfl .nil) ?_
    exact ⟨rfl, rfl⟩
  · have c1k := c1
    try simp only [decide_eq_true_eq, decide_eq_false_iff_not, Int.not_lt, Int.not_le, gt_iff_lt, ge_iff_le, Bool.or_eq_true, Bool.and_eq_true, Bool.or_eq_false_iff, Bool.not_eq_true', Bool.not_eq_false', Int.toNat_natCast, bne_iff_ne, beq_iff_eq, bne_eq_false_iff_eq, beq_eq_false_iff_ne, ne_eq] at c1
    refine .skip ?_
    refine .code ?_
    refine .seq ?_
    refine Wk.draw (mc := ⟨false, false⟩) [0, 1, 2, 3, 4, 6, 7, 8, 5, 9, 10, 11, 12, 13, 14, 15, 16, 17, 18, 20, 21, 22, 23, 24, 25, 19, 26, 27, 28, 29] Fx.mix (by kernel_rfl) ?_
    have hl1 := lookM_len s k1 5; have hl2 := ovl_tot s level k1 k2
    refine mv rfl .no (.u rfl) ?_
    refine mv rfl .no (.u rfl) ?_
    refine lA rfl (.t rfl rfl) Fx.ag27 (.u rfl) (fun _ => RdN.own (.there .here)) (fun _ => (by first | exact State.len | exact State.len.trans State.len.symm | exact Edit.len | exact Edit.len.trans Edit.len.symm | exact nine2_len | exact nine2_len.trans State.len.symm | rfl)) ?_
    refine iA rfl (.t rfl rfl) Fx.ar52 (.u rfl) (.u rfl) (fun _ => by decide) (fun _ => by decide) ?_
    refine ld rfl (.t rfl rfl) Fx.ag9 (.u rfl) (fun _ => Rd.own .here (by first | exact wa_at1 (0) (by omega) (by omega) | exact ba_at1 (0) (by omega) (by omega) | exact wap_at1 (0) (by omega) (by omega) | rfl)) ?_
    refine lA rfl (.t rfl rfl) Fx.ag27 (.u rfl) (fun _ => RdN.own (.there .here)) (fun _ => (by first | exact State.len | exact State.len.trans State.len.symm | exact Edit.len | exact Edit.len.trans Edit.len.symm | exact nine2_len | exact nine2_len.trans State.len.symm | rfl)) ?_
    refine iA rfl (.t rfl rfl) Fx.ar52 (.u rfl) (.u rfl) (fun _ => by decide) (fun _ => by decide) ?_
    refine ld rfl (.t rfl rfl) Fx.ag9 (.u rfl) (fun _ => Rd.own .here (by first | exact wa_at1 (0) (by omega) (by omega) | exact ba_at1 (0) (by omega) (by omega) | exact wap_at1 (0) (by omega) (by omega) | rfl)) ?_
    refine kcg rfl (.t rfl rfl) Fx.go25 (Eva.cons (.u rfl) (Eva.cons (.u rfl) Eva.nil)) (look_ok s hd _ hs (by omega) k1) ?_
    rintro _ G18 μ18 hG18 ⟨rfl, h18, rfl, hs18⟩
    have hs := hs.mono hG18
    refine kcg rfl (.t rfl rfl) Fx.go26 (Eva.cons (.u rfl) (Eva.cons (.u rfl) Eva.nil)) (rlook_ok s hd _ hs (by omega) k1) ?_
    rintro _ G22 μ22 hG22 ⟨rfl, h22, rfl, hs22⟩
    have hs := hs.mono hG22
    have hs18 := hs18.mono hG22
    refine kv rfl (.t rfl rfl) Fx.go24 (Eva.cons (.u rfl) (Eva.cons (.u rfl) Eva.nil)) (fun _ => sameMetas_ok h18 h22 _ _ _ hs18 hs22 (lookM_wf hs) (lookM_wf hs) (by omega)) ?_
    refine wo_b true (sameM_refl _) ?_
    refine pkA rfl .no (.u rfl) (.u rfl) ?_
    refine mv rfl .no (.u rfl) ?_
    refine lA rfl (.t rfl rfl) Fx.ag27 (.u rfl) (fun _ => RdN.own (.there .here)) (fun _ => (by first | exact State.len | exact State.len.trans State.len.symm | exact Edit.len | exact Edit.len.trans Edit.len.symm | exact nine2_len | exact nine2_len.trans State.len.symm | rfl)) ?_
    refine mv rfl (.t rfl rfl) (.u rfl) ?_
    refine iA rfl (.t rfl rfl) Fx.ar52 (.u rfl) (.u rfl) (fun _ => by decide) (fun _ => by decide) ?_
    refine ld rfl (.t rfl rfl) Fx.ag9 (.u rfl) (fun _ => Rd.own .here (by first | exact wa_at1 (0) (by omega) (by omega) | exact ba_at1 (0) (by omega) (by omega) | exact wap_at1 (0) (by omega) (by omega) | rfl)) ?_
    refine iA rfl (.t rfl rfl) Fx.ar52 (.u rfl) (.u rfl) (fun _ => by decide) (fun _ => by decide) ?_
    refine ld rfl (.t rfl rfl) Fx.ag9 (.u rfl) (fun _ => Rd.own .here (by first | exact wa_at1 (1) (by omega) (by omega) | exact ba_at1 (1) (by omega) (by omega) | exact wap_at1 (1) (by omega) (by omega) | rfl)) ?_
    refine lA rfl (.t rfl rfl) Fx.ag27 (.u rfl) (fun _ => RdN.own (.there .here)) (fun _ => (by first | exact State.len | exact State.len.trans State.len.symm | exact Edit.len | exact Edit.len.trans Edit.len.symm | exact nine2_len | exact nine2_len.trans State.len.symm | rfl)) ?_
    refine mv rfl (.t rfl rfl) (.u rfl) ?_
    refine iA rfl (.t rfl rfl) Fx.ar52 (.u rfl) (.u rfl) (fun _ => by decide) (fun _ => by decide) ?_
    refine ld rfl (.t rfl rfl) Fx.ag9 (.u rfl) (fun _ => Rd.own .here (by first | exact wa_at1 (0) (by omega) (by omega) | exact ba_at1 (0) (by omega) (by omega) | exact wap_at1 (0) (by omega) (by omega) | rfl)) ?_
    refine iA rfl (.t rfl rfl) Fx.ar52 (.u rfl) (.u rfl) (fun _ => by decide) (fun _ => by decide) ?_
    refine ld rfl (.t rfl rfl) Fx.ag9 (.u rfl) (fun _ => Rd.own .here (by first | exact wa_at1 (1) (by omega) (by omega) | exact ba_at1 (1) (by omega) (by omega) | exact wap_at1 (1) (by omega) (by omega) | rfl)) ?_
    refine kcg rfl (.t rfl rfl) Fx.go27 (Eva.cons (.u rfl) (Eva.cons (.u rfl) (Eva.cons (.u rfl) (Eva.cons (.u rfl) Eva.nil)))) (over_ok s hd _ hs level k1 k2) ?_
    rintro _ G32 μ32 hG32 ⟨rfl, h32, rfl, hs32⟩
    have hs := hs.mono hG32
    have hs18 := hs18.mono hG32
    have hs22 := hs22.mono hG32
    refine kcg rfl (.t rfl rfl) Fx.go28 (Eva.cons (.u rfl) (Eva.cons (.u rfl) (Eva.cons (.u rfl) (Eva.cons (.u rfl) Eva.nil)))) (rover_ok s hd _ hs level k1 k2) ?_
    rintro _ G39 μ39 hG39 ⟨rfl, h39, rfl, hs39⟩
    have hs := hs.mono hG39
    have hs18 := hs18.mono hG39
    have hs22 := hs22.mono hG39
    have hs32 := hs32.mono hG39
    refine kv rfl (.t rfl rfl) Fx.go24 (Eva.cons (.u rfl) (Eva.cons (.u rfl) Eva.nil)) (fun _ => sameMetas_ok h32 h39 _ _ _ hs32 hs39 (ovl_wf hs) (ovl_wf hs) (by omega)) ?_
    refine pkA rfl .no (.u rfl) (.u rfl) ?_
    refine asg rfl .no (.u rfl) ?_
    refine .nil ?_
    refine .code ?_
    refine .ret ?_
    refine We.fin0 Try.results8 (.tmp rfl .nil) ?_
    exact ⟨rfl, congrArg Value.bool (by rw [sameM_refl]; rfl)⟩

theorem VersionMay_ok (s : State) (hd : Nat → Sh) (G : PM) (hs : StR G s hd) (us : ByteArray) : Ct Try.prog 9 ([s.val hd, .string us] : List Value).toArray G [] (fun _ μ' u => μ' = [] ∧ u = .bool true) := by
  refine Ct.of Try.func9 rfl Try.ntmps9 rfl fun w0 hs0 => ?_
  refine .seq ?_
  refine Wk.rg [0, 1] rfl rfl ?_
  refine bx rfl (.u rfl) rfl ?_; intro b2
  refine asg rfl .no (.u rfl) ?_
  refine .nil ?_
  refine .code ?_
  refine .seq ?_
  refine Wk.rg [0, 1] rfl rfl ?_
  refine kv rfl .no Fx.go10 Eva.nil (fun _ => shown18_ok _) ?_
  refine asg rfl .no (.u rfl) ?_
  refine .nil ?_
  refine .code ?_
  refine .seq ?_
  refine .seq ?_
  refine Wk.rg [0, 1, 2, 3, 4, 5, 6, 7] rfl rfl ?_
  refine lA rfl .no Fx.ag27 (.u rfl) (fun _ => RdN.own .here) (fun _ => (by first | exact State.len | exact State.len.trans State.len.symm | exact Edit.len | exact Edit.len.trans Edit.len.symm | exact nine2_len | exact nine2_len.trans State.len.symm | rfl)) ?_
  refine kv rfl .no Fx.go11 (Eva.cons (.u rfl) Eva.nil) (fun _ => light_ok s hd _ hs) ?_
  refine nt rfl .no (.u rfl) ?_
  refine mv rfl .no (.u rfl) ?_
  refine lA rfl (.f rfl rfl) Fx.ag27 (.u rfl) (fun _ => RdN.own .here) (fun _ => (by first | exact State.len | exact State.len.trans State.len.symm | exact Edit.len | exact Edit.len.trans Edit.len.symm | exact nine2_len | exact nine2_len.trans State.len.symm | rfl)) ?_
  refine kv rfl (.f rfl rfl) Fx.go12 (Eva.cons (.s rfl) Eva.nil) (fun hc => vRight_ok s hd _ hs) ?_
  refine nt rfl (.f rfl rfl) (.s rfl) ?_
  refine pkO rfl .no (.u rfl) (.s rfl) ?_
  refine .nil ?_
  refine .code ?_
  refine .cond rfl (fun c1 => ?_) (fun c1 => ?_)
  · have c1k := c1
    try simp only [decide_eq_true_eq, decide_eq_false_iff_not, Int.not_lt, Int.not_le, gt_iff_lt, ge_iff_le, Bool.or_eq_true, Bool.and_eq_true, Bool.or_eq_false_iff, Bool.and_eq_false_iff, Bool.not_eq_true', Bool.not_eq_false', Int.toNat_natCast, bne_iff_ne, beq_iff_eq, bne_eq_false_iff_eq, beq_eq_false_iff_ne, ne_eq] at c1
    refine .seq ?_
    refine Wk.rg [0, 1] rfl rfl ?_
    refine mv rfl .no (.u rfl) ?_
    refine asg rfl .no (.u rfl) ?_
    refine .nil ?_
    refine .code ?_
    refine .ret ?_
    refine We.fin0 Try.results9 (.tmp rfl .nil) ?_
    exact ⟨rfl, rfl⟩
  · have c1k := c1
    try simp only [decide_eq_true_eq, decide_eq_false_iff_not, Int.not_lt, Int.not_le, gt_iff_lt, ge_iff_le, Bool.or_eq_true, Bool.and_eq_true, Bool.or_eq_false_iff, Bool.and_eq_false_iff, Bool.not_eq_true', Bool.not_eq_false', Int.toNat_natCast, bne_iff_ne, beq_iff_eq, bne_eq_false_iff_eq, beq_eq_false_iff_ne, ne_eq] at c1
    refine .skip ?_
    refine .code ?_
    refine .seq ?_
    refine Wk.rg [0, 1, 2, 3] rfl rfl ?_
    have hr := rightP_of c1.2; have hlt := lookM_len s us 5
    refine lA rfl .no Fx.ag27 (.u rfl) (fun _ => RdN.own .here) (fun _ => (by first | exact State.len | exact State.len.trans State.len.symm | exact Edit.len | exact Edit.len.trans Edit.len.symm | exact nine2_len | exact nine2_len.trans State.len.symm | rfl)) ?_
    refine mv rfl .no (.u rfl) ?_
    refine kc rfl Fx.go25 (Eva.cons (.u rfl) (Eva.cons (.u rfl) Eva.nil)) (look_ok s hd _ hs (by omega) us) ?_
    rintro _ G25 μ25 hG25 ⟨rfl, h25, rfl, hs25⟩
    have hs := hs.mono hG25
    refine asg rfl .no (.u rfl) ?_
    refine .nil ?_
    refine .code ?_
    refine .seq ?_
    refine Wk.rg [0] rfl rfl ?_
    refine asg rfl .no (.u rfl) ?_
    refine .nil ?_
    refine .code ?_
    refine .seq ?_
    refine .seq ?_
    refine Wk.rg [0] rfl rfl ?_
    refine mv rfl .no (.u rfl) ?_
    refine .nil ?_
    refine .code ?_
    refine .block ?_
    refine Wk.lop (α := Nat) (fun i => [(7, true, .int .i64 ((lookM s us i).length : Int)), (26, true, .int .i64 (i : Int))]) (fun _ => [])
      (fun i Gl => (i ≤ 5)) (fun i => 5 - i) 0 [(1, true, _), (2, true, _), (5, true, _), (6, true, _)] [_]
      (ESub.cons rfl (by first | rfl | exact evi (by omega)) (ESub.cons rfl (by first | rfl | exact evi (by omega)) (ESub.cons rfl rfl (ESub.cons rfl rfl (ESub.cons rfl rfl (ESub.cons rfl rfl ESub.nil))))))
      (MSub.cons .here rfl MSub.nil) ?_ ?_
    · (try dsimp only) <;> (first | omega | rfl | assumption | (simp; done))
    intro i N0 Gl0 hN0 hGl0 hF0
    try dsimp only at hF0 hN0 ⊢
    have hi5 := hF0
    have hs := hs.mono hGl0
    have hs25 := hs25.mono hGl0
    have hli := lookM_len s us i; have hti := tot_mono s hi5
    refine .seq ?_
    refine Wk.rg [0] rfl rfl ?_
    refine cp rfl .no (.u rfl) (.u rfl) rfl ?_
    refine .nil ?_
    refine .code ?_
    refine .seq ?_
    refine .cond rfl (fun c2 => ?_) (fun c2 => ?_)
    · have c2k := c2
      try simp only [decide_eq_true_eq, decide_eq_false_iff_not, Int.not_lt, Int.not_le, gt_iff_lt, ge_iff_le, Bool.or_eq_true, Bool.and_eq_true, Bool.or_eq_false_iff, Bool.and_eq_false_iff, Bool.not_eq_true', Bool.not_eq_false', Int.toNat_natCast, bne_iff_ne, beq_iff_eq, bne_eq_false_iff_eq, beq_eq_false_iff_ne, ne_eq] at c2
      refine .skip ?_
      refine .code ?_
      refine .seq ?_
      refine .block ?_
      refine .seq ?_
      refine Wk.rg [0, 1] rfl rfl ?_
      refine mv rfl .no (.u rfl) ?_
      refine asg rfl .no (.u rfl) ?_
      refine .nil ?_
      refine .code ?_
      refine .seq ?_
      refine Wk.rg [0] rfl rfl ?_
      refine asg rfl .no (.u rfl) ?_
      refine .nil ?_
      refine .code ?_
      refine .seq ?_
      refine .seq ?_
      have hlv := hs.lv i (by omega)
      refine Wk.rg [0, 1, 2, 3, 4, 5] rfl rfl ?_
      refine mv rfl .no (.u rfl) ?_
      refine fz rfl .no Fx.fo27_0 (.u rfl) ?_
      refine iA rfl .no Fx.ar23 (.u rfl) (.u rfl) (fun _ => by omega) (fun _ => by omega) ?_
      refine ld rfl .no Fx.ag22 (.u rfl) (fun _ => Rd.own .here (s.cell_lv hd (k := i) (by omega))) ?_
      refine ln rfl .no Fx.sn22 (.u rfl) ?_
      refine mv rfl .no (.u rfl) ?_
      refine .nil ?_
      refine .code ?_
      refine .block ?_
      refine Wk.lop (α := Nat) (fun k => [(7, true, .int .i64 (((lookM s us i).length + ofN s us i k : Nat) : Int)), (9, true, .int .i64 (ofN s us i k : Int)), (34, true, .int .i64 (k : Int))]) (fun _ => [])
        (fun k Gl => (k ≤ (s.lv i).length)) (fun k => (s.lv i).length - k) 0 [(1, true, _), (2, true, _), (5, true, _), (6, true, _), (8, true, _), (26, true, _), (32, true, _), (33, true, _)] [_]
        (ESub.cons rfl (evi (by rw [ofN_zero]; rfl)) (ESub.cons rfl (evi (by rw [ofN_zero]; rfl)) (ESub.cons rfl (by first | rfl | exact evi (by omega)) (ESub.cons rfl rfl (ESub.cons rfl rfl (ESub.cons rfl rfl (ESub.cons rfl rfl (ESub.cons rfl rfl (ESub.cons rfl rfl (ESub.cons rfl rfl (ESub.cons rfl rfl ESub.nil)))))))))))
        (MSub.cons .here rfl MSub.nil) ?_ ?_
      · (try dsimp only) <;> (first | omega | rfl | assumption | (simp; done))
      intro k N1 Gl1 hN1 hGl1 hF1
      try dsimp only at hF1 hN1 ⊢
      have hk := hF1
      have hs := hs.mono hGl1
      have hs25 := hs25.mono hGl1
      have hlv := hlv.mono hGl1
      have hof := ofN_le s us i k; have hlt2 := lv_tot s (i := i) (by omega)
      refine .seq ?_
      refine Wk.rg [0] rfl rfl ?_
      refine cp rfl .no (.u rfl) (.u rfl) rfl ?_
      refine .nil ?_
      refine .code ?_
      refine .seq ?_
      refine .cond rfl (fun c3 => ?_) (fun c3 => ?_)
      · have c3k := c3
        try simp only [decide_eq_true_eq, decide_eq_false_iff_not, Int.not_lt, Int.not_le, gt_iff_lt, ge_iff_le, Bool.or_eq_true, Bool.and_eq_true, Bool.or_eq_false_iff, Bool.and_eq_false_iff, Bool.not_eq_true', Bool.not_eq_false', Int.toNat_natCast, bne_iff_ne, beq_iff_eq, bne_eq_false_iff_eq, beq_eq_false_iff_ne, ne_eq] at c3
        refine .skip ?_
        refine .code ?_
        refine .seq ?_
        refine .block ?_
        refine .seq ?_
        refine Wk.rg [0, 1, 2, 3] rfl rfl ?_
        refine ih rfl .no Fx.se22 (.u rfl) (.u rfl) (fun _ => by omega) (fun _ => by omega) (fun _ => hlv.nn (k := k) (by first | omega | (simp only [List.length_cons, List.length_nil]; omega))) ?_
        refine lA rfl .no Fx.ag48 (.u rfl) (fun _ => (hlv.gat k (by omega) (by omega)).rd) (fun _ => Meta.len _) ?_
        refine al rfl Fx.zr48 ?_; intro b11
        refine sw rfl (.u rfl) (.u rfl) rfl Fx.sz48 .here (by first | exact State.len | exact State.len.trans State.len.symm | exact Edit.len | exact Edit.len.trans Edit.len.symm | exact nine2_len | exact nine2_len.trans State.len.symm | rfl) (Meta.one _) ?_
        refine .nil ?_
        refine .code ?_
        refine .seq ?_
        refine Wk.rg [0, 1, 2, 3, 4, 5, 6, 7, 8, 9] rfl rfl ?_
        refine fz rfl .no Fx.fo48_6 (.u rfl) ?_
        refine ld rfl .no Fx.ag9 (.u rfl) (fun _ => Rd.own .here (by first | exact wap_f rfl | rfl)) ?_
        refine mv rfl .no (.u rfl) ?_
        refine cs rfl .no (.u rfl) (.u rfl) rfl ?_
        refine mv rfl .no (.u rfl) ?_
        refine mv rfl (.t rfl rfl) (.u rfl) ?_
        refine fz rfl (.t rfl rfl) Fx.fo48_7 (.u rfl) ?_
        refine ld rfl (.t rfl rfl) Fx.ag9 (.s rfl) (fun hc => Rd.own .here (by first | exact wap_f rfl | rfl)) ?_
        refine cs rfl (.t rfl rfl) (.s rfl) (.s rfl) rfl ?_
        refine pkA rfl .no (.u rfl) (.s rfl) ?_
        refine .nil ?_
        refine .code ?_
        refine .cond rfl (fun c4 => ?_) (fun c4 => ?_)
        · have c4k := c4
          try simp only [decide_eq_true_eq, decide_eq_false_iff_not, Int.not_lt, Int.not_le, gt_iff_lt, ge_iff_le, Bool.or_eq_true, Bool.and_eq_true, Bool.or_eq_false_iff, Bool.and_eq_false_iff, Bool.not_eq_true', Bool.not_eq_false', Int.toNat_natCast, bne_iff_ne, beq_iff_eq, bne_eq_false_iff_eq, beq_eq_false_iff_ne, ne_eq] at c4
          refine .seq ?_
          refine Wk.rg [0, 1, 2] rfl rfl ?_
          refine mv rfl .no (.u rfl) ?_
          refine arn ((((ofN s us i k) + 1) : Nat) : Int) rfl .no (.u rfl) (.u rfl) rfl (fun _ => by omega) (fun _ => wrap_i64 (by omega) (by omega)) ?_
          refine asg rfl .no (.u rfl) ?_
          refine .nil ?_
          refine .code ?_
          refine Wk.rg [0, 1, 2] rfl rfl ?_
          refine mv rfl .no (.u rfl) ?_
          refine arn ((((((lookM s us i).length + ofN s us i k : Nat)) + 1) : Nat) : Int) rfl .no (.u rfl) (.u rfl) rfl (fun _ => by omega) (fun _ => wrap_i64 (by omega) (by omega)) ?_
          refine asg rfl .no (.u rfl) ?_
          refine .nil ?_
          refine .blk ?_
          refine .code ?_
          refine Wk.rg [0, 1] rfl rfl ?_
          refine arn (((k + 1) : Nat) : Int) rfl .no (.u rfl) (.u rfl) rfl (fun _ => by omega) (fun _ => wrap_i64 (by omega) (by omega)) ?_
          refine mv rfl .no (.u rfl) ?_
          refine .nil ?_
          refine We.lpo (k + 1) ?_ ?_ ?_ ?_ ?_
          · exact (ESub.cons rfl (evi (by have := ofN_yes (by omega) c4k; omega)) (ESub.cons rfl (evi (by have := ofN_yes (by omega) c4k; omega)) (ESub.cons rfl (by first | rfl | exact evi (by omega)) (ESub.cons rfl rfl (ESub.cons rfl rfl (ESub.cons rfl rfl (ESub.cons rfl rfl (ESub.cons rfl rfl (ESub.cons rfl rfl (ESub.cons rfl rfl (ESub.cons rfl rfl ESub.nil)))))))))))
          · exact (MSub.cons (.there .here) rfl MSub.nil)
          · first | omega | (dsimp only; omega)
          · exact hGl1
          · (try dsimp only) <;> (first | omega | rfl | assumption | (simp; done))
        · have c4k := c4
          try simp only [decide_eq_true_eq, decide_eq_false_iff_not, Int.not_lt, Int.not_le, gt_iff_lt, ge_iff_le, Bool.or_eq_true, Bool.and_eq_true, Bool.or_eq_false_iff, Bool.and_eq_false_iff, Bool.not_eq_true', Bool.not_eq_false', Int.toNat_natCast, bne_iff_ne, beq_iff_eq, bne_eq_false_iff_eq, beq_eq_false_iff_ne, ne_eq] at c4
          refine .skip ?_
          refine .blk ?_
          refine .code ?_
          refine Wk.rg [0, 1] rfl rfl ?_
          refine arn (((k + 1) : Nat) : Int) rfl .no (.u rfl) (.u rfl) rfl (fun _ => by omega) (fun _ => wrap_i64 (by omega) (by omega)) ?_
          refine mv rfl .no (.u rfl) ?_
          refine .nil ?_
          refine We.lpo (k + 1) ?_ ?_ ?_ ?_ ?_
          · exact (ESub.cons rfl (evi (by rw [ofN_no (by omega) c4k])) (ESub.cons rfl (evi (by rw [ofN_no (by omega) c4k])) (ESub.cons rfl (by first | rfl | exact evi (by omega)) (ESub.cons rfl rfl (ESub.cons rfl rfl (ESub.cons rfl rfl (ESub.cons rfl rfl (ESub.cons rfl rfl (ESub.cons rfl rfl (ESub.cons rfl rfl (ESub.cons rfl rfl ESub.nil)))))))))))
          · exact (MSub.cons (.there .here) rfl MSub.nil)
          · first | omega | (dsimp only; omega)
          · exact hGl1
          · (try dsimp only) <;> (first | omega | rfl | assumption | (simp; done))
      · have c3k := c3
        try simp only [decide_eq_true_eq, decide_eq_false_iff_not, Int.not_lt, Int.not_le, gt_iff_lt, ge_iff_le, Bool.or_eq_true, Bool.and_eq_true, Bool.or_eq_false_iff, Bool.and_eq_false_iff, Bool.not_eq_true', Bool.not_eq_false', Int.toNat_natCast, bne_iff_ne, beq_iff_eq, bne_eq_false_iff_eq, beq_eq_false_iff_ne, ne_eq] at c3
        refine .exit ?_
        refine .xcode ?_
        refine .xlp ?_
        refine .xblk ?_
        refine .code ?_
        refine .seq ?_
        refine Wk.rg [0, 1, 2, 3, 4, 5] rfl rfl ?_
        refine mv rfl .no (.u rfl) ?_
        refine cp rfl .no (.u rfl) (.u rfl) rfl ?_
        refine mv rfl .no (.u rfl) ?_
        refine mv rfl (.t rfl rfl) (.u rfl) ?_
        refine cp rfl (.t rfl rfl) (.s rfl) (.u rfl) rfl ?_
        refine pkA rfl .no (.u rfl) (.s rfl) ?_
        refine .nil ?_
        refine .code ?_
        refine .cond rfl (fun c5 => ?_) (fun c5 => ?_)
        · have c5k := c5
          exfalso; have hk5 := c5; simp at hk5; have := ofN_one (u := us) hr (show 0 < i by omega) (by omega); rw [ofN_all (k := k) (by omega)] at hk5; omega
        · have c5k := c5
          try simp only [decide_eq_true_eq, decide_eq_false_iff_not, Int.not_lt, Int.not_le, gt_iff_lt, ge_iff_le, Bool.or_eq_true, Bool.and_eq_true, Bool.or_eq_false_iff, Bool.and_eq_false_iff, Bool.not_eq_true', Bool.not_eq_false', Int.toNat_natCast, bne_iff_ne, beq_iff_eq, bne_eq_false_iff_eq, beq_eq_false_iff_ne, ne_eq] at c5
          refine .skip ?_
          refine .blk ?_
          refine .code ?_
          refine Wk.rg [0, 1] rfl rfl ?_
          refine arn (((i + 1) : Nat) : Int) rfl .no (.u rfl) (.u rfl) rfl (fun _ => by omega) (fun _ => wrap_i64 (by omega) (by omega)) ?_
          refine mv rfl .no (.u rfl) ?_
          refine .nil ?_
          refine We.lpo (i + 1) ?_ ?_ ?_ ?_ ?_
          · exact (ESub.cons rfl (evi (by rw [lookM_next (by omega), ← ofN_all (k := k) (by omega)])) (ESub.cons rfl (by first | rfl | exact evi (by omega)) (ESub.cons rfl rfl (ESub.cons rfl rfl (ESub.cons rfl rfl (ESub.cons rfl rfl ESub.nil))))))
          · exact (MSub.cons .here rfl MSub.nil)
          · first | omega | (dsimp only; omega)
          · exact (hGl0).trans hGl1
          · (try dsimp only) <;> (first | omega | rfl | assumption | (simp; done))
    · have c2k := c2
      try simp only [decide_eq_true_eq, decide_eq_false_iff_not, Int.not_lt, Int.not_le, gt_iff_lt, ge_iff_le, Bool.or_eq_true, Bool.and_eq_true, Bool.or_eq_false_iff, Bool.and_eq_false_iff, Bool.not_eq_true', Bool.not_eq_false', Int.toNat_natCast, bne_iff_ne, beq_iff_eq, bne_eq_false_iff_eq, beq_eq_false_iff_ne, ne_eq] at c2
      refine .exit ?_
      refine .xcode ?_
      refine .xlp ?_
      refine .xblk ?_
      refine .code ?_
      refine .seq ?_
      refine .seq ?_
      refine Wk.rg [0, 1, 2] rfl rfl ?_
      refine mv rfl .no (.u rfl) ?_
      refine ln rfl .no Fx.sn22 (.u rfl) ?_
      refine mv rfl .no (.u rfl) ?_
      refine .nil ?_
      refine .code ?_
      refine .block ?_
      refine Wk.lop (α := Nat) (fun j => [(62, true, .int .i64 (j : Int))]) (fun _ => [])
        (fun j Gl => (j ≤ (lookM s us 5).length)) (fun j => (lookM s us 5).length - j) 0 [(1, true, _), (5, true, _), (6, true, _), (7, true, _), (61, true, _)] [_]
        (ESub.cons rfl (by first | rfl | exact evi (by omega)) (ESub.cons rfl rfl (ESub.cons rfl rfl (ESub.cons rfl rfl (ESub.cons rfl rfl (ESub.cons rfl rfl ESub.nil))))))
        (MSub.cons .here rfl MSub.nil) ?_ ?_
      · (try dsimp only) <;> (first | omega | rfl | assumption | (simp; done))
      intro j N2 Gl2 hN2 hGl2 hF2
      try dsimp only at hF2 hN2 ⊢
      have hj := hF2
      have hs := hs.mono hGl2
      have hs25 := hs25.mono hGl2
      refine .seq ?_
      refine Wk.rg [0] rfl rfl ?_
      refine cp rfl .no (.u rfl) (.u rfl) rfl ?_
      refine .nil ?_
      refine .code ?_
      refine .seq ?_
      refine .cond rfl (fun c6 => ?_) (fun c6 => ?_)
      · have c6k := c6
        try simp only [decide_eq_true_eq, decide_eq_false_iff_not, Int.not_lt, Int.not_le, gt_iff_lt, ge_iff_le, Bool.or_eq_true, Bool.and_eq_true, Bool.or_eq_false_iff, Bool.and_eq_false_iff, Bool.not_eq_true', Bool.not_eq_false', Int.toNat_natCast, bne_iff_ne, beq_iff_eq, bne_eq_false_iff_eq, beq_eq_false_iff_ne, ne_eq] at c6
        refine .skip ?_
        refine .code ?_
        refine .seq ?_
        refine .block ?_
        refine .seq ?_
        refine Wk.rg [0, 1] rfl rfl ?_
        refine mv rfl .no (.u rfl) ?_
        refine asg rfl .no (.u rfl) ?_
        refine .nil ?_
        refine .code ?_
        refine .seq ?_
        refine Wk.draw (mc := ⟨false, false⟩) [0, 1, 2, 3, 4, 5, 6, 7, 8, 9, 10, 11, 12, 13, 14, 15, 16, 17, 18, 19, 20, 21, 22, 23, 24, 25, 26, 27, 28, 29, 30, 31, 32, 33] Fx.mix (by kernel_rfl) ?_
        have hmy := lookM_may (s := s) (u := us) (k := j) (by omega)
        unfold mayP at hmy; rw [Bool.and_eq_true] at hmy
        refine mv rfl .no (.u rfl) ?_
        refine mv rfl .no (.u rfl) ?_
        refine ih rfl .no Fx.se22 (.u rfl) (.u rfl) (fun _ => by omega) (fun _ => by omega) (fun _ => hs25.nn (k := j) (by first | omega | (simp only [List.length_cons, List.length_nil]; omega))) ?_
        refine fa rfl .no Fx.fo48_6 (.u rfl) ?_
        refine ld rfl .no Fx.ag9 (.u rfl) (fun _ => (hs25.gat j (by omega) (by omega) 6 _ rfl).rd) ?_
        refine mv rfl .no (.u rfl) ?_
        refine cs rfl .no (.u rfl) (.u rfl) rfl ?_
        refine mv rfl .no (.u rfl) ?_
        refine mv rfl (.f rfl rfl) (.u rfl) ?_
        refine mv rfl (.f rfl rfl) (.u rfl) ?_
        refine ih rfl (.f rfl rfl) Fx.se22 (.s rfl) (.s rfl) (fun hc => by omega) (fun hc => by omega) (fun hc => hs25.nn (k := j) (by first | omega | (simp only [List.length_cons, List.length_nil]; omega))) ?_
        refine fa rfl (.f rfl rfl) Fx.fo48_7 (.s rfl) ?_
        refine ld rfl (.f rfl rfl) Fx.ag9 (.s rfl) (fun hc => (hs25.gat j (by omega) (by omega) 7 _ rfl).rd) ?_
        refine mv rfl (.f rfl rfl) (.u rfl) ?_
        refine cs rfl (.f rfl rfl) (.s rfl) (.s rfl) rfl ?_
        refine pkO rfl .no (.u rfl) (.s rfl) ?_
        refine mv rfl .no (.u rfl) ?_
        refine mv rfl (.f rfl rfl) (.u rfl) ?_
        refine cp rfl (.f rfl rfl) (.s rfl) (.u rfl) rfl ?_
        refine mv rfl (.f rfl rfl) (.s rfl) ?_
        refine mv rfl (.tc rfl rfl) (.u rfl) ?_
        refine mv rfl (.tc rfl rfl) (.u rfl) ?_
        refine ih rfl (.tc rfl rfl) Fx.se22 (.s rfl) (.s rfl) (fun hc => by omega) (fun hc => by omega) (fun hc => hs25.nn (k := j) (by first | omega | (simp only [List.length_cons, List.length_nil]; omega))) ?_
        refine fa rfl (.tc rfl rfl) Fx.fo48_0 (.s rfl) ?_
        refine ld rfl (.tc rfl rfl) Fx.ag5 (.s rfl) (fun hc => (hs25.gat j (by omega) (by omega) 0 _ rfl).rd) ?_
        refine mv rfl (.tc rfl rfl) (.u rfl) ?_
        refine mv rfl (.tc rfl rfl) (.u rfl) ?_
        refine ar rfl (.tc rfl rfl) (.s rfl) (.u rfl) rfl (fun hc => wrap_i64 (by omega) (by omega)) ?_
        refine ih rfl (.tc rfl rfl) Fx.se22 (.s rfl) (.s rfl) (fun hc => by simp only [Bool.and_eq_true, decide_eq_true_eq] at hc; omega) (fun hc => by simp only [Bool.and_eq_true, decide_eq_true_eq] at hc; omega) (fun hc => hs25.nn (k := j) (by omega)) ?_
        refine fa rfl (.tc rfl rfl) Fx.fo48_0 (.s rfl) ?_
        refine ld rfl (.tc rfl rfl) Fx.ag5 (.s rfl) (fun hc => (hs25.gat (j - 1) (by simp only [Bool.and_eq_true, decide_eq_true_eq] at hc; omega) (by simp only [Bool.and_eq_true, decide_eq_true_eq] at hc; omega) 0 _ rfl).rd) ?_
        refine cp rfl (.tc rfl rfl) (.s rfl) (.s rfl) rfl ?_
        refine pkA rfl (.f rfl rfl) (.s rfl) (.s rfl) ?_
        refine pkO rfl .no (.u rfl) (.s rfl) ?_
        refine .nil ?_
        refine .code ?_
        refine .cond rfl (fun c7 => ?_) (fun c7 => ?_)
        · have c7k := c7
          exact (lookM_bad hr (by omega) hmy c7k).elim
        · have c7k := c7
          try simp only [decide_eq_true_eq, decide_eq_false_iff_not, Int.not_lt, Int.not_le, gt_iff_lt, ge_iff_le, Bool.or_eq_true, Bool.and_eq_true, Bool.or_eq_false_iff, Bool.and_eq_false_iff, Bool.not_eq_true', Bool.not_eq_false', Int.toNat_natCast, bne_iff_ne, beq_iff_eq, bne_eq_false_iff_eq, beq_eq_false_iff_ne, ne_eq] at c7
          refine .skip ?_
          refine .blk ?_
          refine .code ?_
          refine Wk.rg [0, 1] rfl rfl ?_
          refine arn (((j + 1) : Nat) : Int) rfl .no (.u rfl) (.u rfl) rfl (fun _ => by omega) (fun _ => wrap_i64 (by omega) (by omega)) ?_
          refine mv rfl .no (.u rfl) ?_
          refine .nil ?_
          refine We.lpo (j + 1) ?_ ?_ ?_ ?_ ?_
          · exact (ESub.cons rfl (by first | rfl | exact evi (by omega)) (ESub.cons rfl rfl (ESub.cons rfl rfl (ESub.cons rfl rfl (ESub.cons rfl rfl (ESub.cons rfl rfl ESub.nil))))))
          · exact (MSub.cons .here rfl MSub.nil)
          · first | omega | (dsimp only; omega)
          · exact hGl2
          · (try dsimp only) <;> (first | omega | rfl | assumption | (simp; done))
      · have c6k := c6
        try simp only [decide_eq_true_eq, decide_eq_false_iff_not, Int.not_lt, Int.not_le, gt_iff_lt, ge_iff_le, Bool.or_eq_true, Bool.and_eq_true, Bool.or_eq_false_iff, Bool.and_eq_false_iff, Bool.not_eq_true', Bool.not_eq_false', Int.toNat_natCast, bne_iff_ne, beq_iff_eq, bne_eq_false_iff_eq, beq_eq_false_iff_ne, ne_eq] at c6
        refine .exit ?_
        refine .xcode ?_
        refine .xlp ?_
        refine .xblk ?_
        refine .code ?_
        refine .seq ?_
        refine Wk.rg [0, 1, 2, 3, 4, 5, 6, 7] rfl rfl ?_
        refine mv rfl .no (.u rfl) ?_
        refine mv rfl .no (.u rfl) ?_
        refine mv rfl (.t rfl rfl) (.u rfl) ?_
        refine ln rfl (.t rfl rfl) Fx.sn22 (.u rfl) ?_
        refine mv rfl (.t rfl rfl) (.u rfl) ?_
        refine cp rfl (.t rfl rfl) (.u rfl) (.u rfl) rfl ?_
        refine pkA rfl .no (.u rfl) (.u rfl) ?_
        refine asg rfl .no (.u rfl) ?_
        refine .nil ?_
        refine .code ?_
        refine .ret ?_
        refine We.fin0 Try.results9 (.tmp rfl .nil) ?_
        obtain rfl : i = 5 := by omega
        exact ⟨rfl, congrArg Value.bool (by simp)⟩

end Go.Proofs.Ytnhdaaggkdegpaa

namespace Go.Proofs.Ytnhdaaggkdegpaa
set_option linter.unusedSimpArgs false
set_option linter.unusedVariables false
open Go.Tan Go.RowKit
set_option maxRecDepth 100000
namespace FxVerOa
theorem co48 : Try.prog.cellsOf 48 = 40 := by kernel_rfl
theorem co5 : Try.prog.cellsOf 5 = 1 := by kernel_rfl
theorem co24 : Try.prog.cellsOf 24 = 1 := by kernel_rfl
theorem co3 : Try.prog.cellsOf 3 = 1 := by kernel_rfl
theorem co9 : Try.prog.cellsOf 9 = 1 := by kernel_rfl
theorem co46 : Try.prog.cellsOf 46 = 32 := by kernel_rfl
theorem co51 : Try.prog.cellsOf 51 = 2 := by kernel_rfl
theorem co27 : Try.prog.cellsOf 27 = 14 := by kernel_rfl
theorem co25 : Try.prog.cellsOf 25 = 5 := by kernel_rfl
theorem co23 : Try.prog.cellsOf 23 = 5 := by kernel_rfl
theorem co22 : Try.prog.cellsOf 22 = 1 := by kernel_rfl
theorem co32 : Try.prog.cellsOf 32 = 11 := by kernel_rfl
theorem co30 : Try.prog.cellsOf 30 = 1 := by kernel_rfl
end FxVerOa
namespace Fx
theorem by48 : Try.prog.bytesOf 48 = 112 := by kernel_rfl
theorem by51 : Try.prog.bytesOf 51 = 16 := by kernel_rfl
end Fx
section
variable {H : Type} {R : Nat} {enc : TypeId × Value → H} {W : World} {cs : List Value}
def mQ (R : Nat) (m : Meta) : Prop := m.wf ∧ m.min.size ≤ R ∧ m.max.size ≤ R
theorem meta_of (hR : R ≤ 140737488351232) (h : Rg R enc Try.prog W 48 cs) : ∃ m : Meta, cs = m.cells ∧ mQ R m := by
  have hl := h.len Try.underlying48
  rw [FxVerOa.co48] at hl
  obtain ⟨n0, h0, w0⟩ := h.intAt Try.underlying48 0 5 0 rfl Try.underlying5 FxVerOa.co5
  obtain ⟨n1, h1, w1⟩ := h.intAt Try.underlying48 1 24 1 rfl Try.underlying24 FxVerOa.co24
  obtain ⟨n2, h2, w2⟩ := h.intAt Try.underlying48 2 24 2 rfl Try.underlying24 FxVerOa.co24
  obtain ⟨n3, h3, w3⟩ := h.intAt Try.underlying48 3 24 3 rfl Try.underlying24 FxVerOa.co24
  obtain ⟨n4, h4, w4⟩ := h.intAt Try.underlying48 4 3 4 rfl Try.underlying3 FxVerOa.co3
  obtain ⟨n5, h5, w5⟩ := h.intAt Try.underlying48 5 3 5 rfl Try.underlying3 FxVerOa.co3
  obtain ⟨s6, h6, w6⟩ := h.strAt Try.underlying48 6 9 6 rfl Try.underlying9 FxVerOa.co9
  obtain ⟨s7, h7, w7⟩ := h.strAt Try.underlying48 7 9 7 rfl Try.underlying9 FxVerOa.co9
  obtain ⟨r, hr⟩ := (h.fld Try.underlying48 8 46 8 rfl FxVerOa.co46).ints Try.underlying46 Try.underlying5 FxVerOa.co5
  rw [show IntKind.u8.min = 0 by decide, show IntKind.u8.max = 255 by decide] at w0
  rw [show IntKind.u64.min = 0 by decide, show IntKind.u64.max = 18446744073709551615 by decide] at w1
  rw [show IntKind.u64.min = 0 by decide, show IntKind.u64.max = 18446744073709551615 by decide] at w2
  rw [show IntKind.u64.min = 0 by decide, show IntKind.u64.max = 18446744073709551615 by decide] at w3
  rw [show IntKind.i64.min = -9223372036854775808 by decide, show IntKind.i64.max = 9223372036854775807 by decide] at w4
  rw [show IntKind.i64.min = -9223372036854775808 by decide, show IntKind.i64.max = 9223372036854775807 by decide] at w5
  refine ⟨⟨n0, n1, n2, n3, n4, n5, s6, s7, r⟩, list_eq hl fun i hi => ?_, ⟨⟨w0.1, by show n0 < _; omega⟩, ⟨w3.1, by show n3 < _; omega⟩, w4, Nat.le_trans w6 (by omega), Nat.le_trans w7 (by omega), w1, w2, w5, fun j hj => ?_⟩, w6, w7⟩
  · match i, hi with
    | 0, _ => exact h0
    | 1, _ => exact h1
    | 2, _ => exact h2
    | 3, _ => exact h3
    | 4, _ => exact h4
    | 5, _ => exact h5
    | 6, _ => exact h6
    | 7, _ => exact h7
    | n + 8, hi =>
      have hn : n < 32 := by have : n + 8 < 40 := hi; omega
      rw [show n + 8 = 8 + n by omega, take_at (hr n hn).1]
      rw [Meta.cells, List.getElem?_append_right (by simp)]
      simp [hn]
  · have w8 := (hr j hj).2; rw [show IntKind.u8.min = 0 by decide, show IntKind.u8.max = 255 by decide] at w8; exact w8
theorem gone_of (h : Rg R enc Try.prog W 51 cs) : ∃ g : Gone, cs = g.cells ∧ g.wf := by
  have hl := h.len Try.underlying51
  rw [FxVerOa.co51] at hl
  obtain ⟨n0, h0, w0⟩ := h.intAt Try.underlying51 0 5 0 rfl Try.underlying5 FxVerOa.co5
  obtain ⟨n1, h1, w1⟩ := h.intAt Try.underlying51 1 24 1 rfl Try.underlying24 FxVerOa.co24
  rw [show IntKind.u8.min = 0 by decide, show IntKind.u8.max = 255 by decide] at w0
  rw [show IntKind.u64.min = 0 by decide, show IntKind.u64.max = 18446744073709551615 by decide] at w1
  refine ⟨⟨n0, n1⟩, list_eq hl fun i hi => ?_, ⟨w0.1, by show n0 < _; omega⟩, ⟨w1.1, by show n1 < _; omega⟩⟩
  match i, hi with
  | 0, _ => exact h0
  | 1, _ => exact h1
  | n + 2, hi => exact absurd hi (by show ¬ n + 2 < 2; omega)
theorem state_of (hR : R ≤ 140737488351232) (h : Rg R enc Try.prog W 27 cs) : ∃ (s : State) (hd : Nat → Sh), cs = s.cells hd ∧ StR (fun b => W.heap[b]?) s hd ∧ (u64 s.log ∧ u64 s.next ∧ u64 s.seq ∧ u64 s.least ∧ ∀ i, i < 5 → u64 (s.gens i)) ∧ ∀ i, i < 5 → ∀ m ∈ s.lv i, mQ R m := by
  have hl := h.len Try.underlying27
  rw [FxVerOa.co27] at hl
  obtain ⟨n1, h1, w1⟩ := h.intAt Try.underlying27 1 24 5 rfl Try.underlying24 FxVerOa.co24
  obtain ⟨n2, h2, w2⟩ := h.intAt Try.underlying27 2 24 6 rfl Try.underlying24 FxVerOa.co24
  obtain ⟨n3, h3, w3⟩ := h.intAt Try.underlying27 3 24 7 rfl Try.underlying24 FxVerOa.co24
  obtain ⟨n4, h4, w4⟩ := h.intAt Try.underlying27 4 24 8 rfl Try.underlying24 FxVerOa.co24
  obtain ⟨r, hr⟩ := (h.fld Try.underlying27 5 25 9 rfl FxVerOa.co25).ints Try.underlying25 Try.underlying24 FxVerOa.co24
  rw [show IntKind.u64.min = 0 by decide, show IntKind.u64.max = 18446744073709551615 by decide] at w1
  rw [show IntKind.u64.min = 0 by decide, show IntKind.u64.max = 18446744073709551615 by decide] at w2
  rw [show IntKind.u64.min = 0 by decide, show IntKind.u64.max = 18446744073709551615 by decide] at w3
  rw [show IntKind.u64.min = 0 by decide, show IntKind.u64.max = 18446744073709551615 by decide] at w4
  have hlv : ∀ i, ∃ (y : Sh × List Meta), i < 5 → cs[i]? = some (y.1.val y.2.length) ∧ SlR (fun b => W.heap[b]?) 40 Meta.cells y.1 y.2 ∧ y.2.length * 112 ≤ R ∧ ∀ m ∈ y.2, mQ R m := by
    intro i
    by_cases hi : i < 5
    · obtain ⟨hd, l, e, hs, hc, hq⟩ := ((h.fld Try.underlying27 0 23 0 rfl FxVerOa.co23).elm Try.underlying23 hi FxVerOa.co22).sl Meta.cells (mQ R) Try.underlying22 FxVerOa.co48 (by decide) Fx.by48 (fun cs' h' => meta_of hR h')
      have := take_at (take1 e)
      refine ⟨(hd, l), fun _ => ⟨by simpa using this, hs, Nat.le_trans (Nat.mul_le_mul_right _ hs.le) hc, hq⟩⟩
    · exact ⟨(⟨none, 0⟩, []), fun h => absurd h hi⟩
  obtain ⟨M, hM⟩ : ∃ M : Nat → Sh × List Meta, ∀ i, i < 5 → cs[i]? = some ((M i).1.val (M i).2.length) ∧ SlR (fun b => W.heap[b]?) 40 Meta.cells (M i).1 (M i).2 ∧ (M i).2.length * 112 ≤ R ∧ ∀ m ∈ (M i).2, mQ R m := ⟨fun i => Classical.choose (hlv i), fun i => Classical.choose_spec (hlv i)⟩
  refine ⟨⟨fun i => (M i).2, n1, n2, n3, n4, r⟩, fun i => (M i).1, list_eq hl fun i hi => ?_, ⟨fun i hi => (hM i hi).2.1, fun i hi => Nat.le_trans (hM i hi).2.2.1 hR, fun i hi m hm => ((hM i hi).2.2.2 m hm).1⟩, ⟨⟨w1.1, by show n1 < _; omega⟩, ⟨w2.1, by show n2 < _; omega⟩, ⟨w3.1, by show n3 < _; omega⟩, ⟨w4.1, by show n4 < _; omega⟩, fun j hj => by
    have w8 := (hr j hj).2; rw [show IntKind.u64.min = 0 by decide, show IntKind.u64.max = 18446744073709551615 by decide] at w8; exact ⟨w8.1, by show r j < _; omega⟩⟩, fun i hi => (hM i hi).2.2.2⟩
  match i, hi with
  | 0, _ => exact (hM 0 (by decide)).1
  | 1, _ => exact (hM 1 (by decide)).1
  | 2, _ => exact (hM 2 (by decide)).1
  | 3, _ => exact (hM 3 (by decide)).1
  | 4, _ => exact (hM 4 (by decide)).1
  | 5, _ => exact h1
  | 6, _ => exact h2
  | 7, _ => exact h3
  | 8, _ => exact h4
  | 9, _ => exact take_at (hr 0 (by decide)).1
  | 10, _ => exact take_at (hr 1 (by decide)).1
  | 11, _ => exact take_at (hr 2 (by decide)).1
  | 12, _ => exact take_at (hr 3 (by decide)).1
  | 13, _ => exact take_at (hr 4 (by decide)).1
  | n + 14, hi => exact absurd hi (by show ¬ n + 14 < 14; omega)
theorem edit_of (hR : R ≤ 140737488351232) (h : Rg R enc Try.prog W 32 cs) : ∃ (e : Edit) (ha hd : Sh), cs = e.cells ha hd ∧ EdR (fun b => W.heap[b]?) e ha hd ∧ e.add.length * 112 ≤ R ∧ e.drop.length * 16 ≤ R ∧ ∀ m ∈ e.add, mQ R m := by
  have hl := h.len Try.underlying32
  rw [FxVerOa.co32] at hl
  obtain ⟨n0, h0, w0⟩ := h.intAt Try.underlying32 0 24 0 rfl Try.underlying24 FxVerOa.co24
  obtain ⟨n1, h1, w1⟩ := h.intAt Try.underlying32 1 24 1 rfl Try.underlying24 FxVerOa.co24
  obtain ⟨n2, h2, w2⟩ := h.intAt Try.underlying32 2 24 2 rfl Try.underlying24 FxVerOa.co24
  obtain ⟨n3, h3, w3⟩ := h.intAt Try.underlying32 3 24 3 rfl Try.underlying24 FxVerOa.co24
  obtain ⟨r, hr⟩ := (h.fld Try.underlying32 4 25 4 rfl FxVerOa.co25).ints Try.underlying25 Try.underlying24 FxVerOa.co24
  rw [show IntKind.u64.min = 0 by decide, show IntKind.u64.max = 18446744073709551615 by decide] at w0
  rw [show IntKind.u64.min = 0 by decide, show IntKind.u64.max = 18446744073709551615 by decide] at w1
  rw [show IntKind.u64.min = 0 by decide, show IntKind.u64.max = 18446744073709551615 by decide] at w2
  rw [show IntKind.u64.min = 0 by decide, show IntKind.u64.max = 18446744073709551615 by decide] at w3
  obtain ⟨ha, la, ea, hsa, hca, hqa⟩ := (h.fld Try.underlying32 5 22 9 rfl FxVerOa.co22).sl Meta.cells (mQ R) Try.underlying22 FxVerOa.co48 (by decide) Fx.by48 (fun cs' h' => meta_of hR h')
  obtain ⟨hd, ld, ed, hsd, hcd, hqd⟩ := (h.fld Try.underlying32 6 30 10 rfl FxVerOa.co30).sl Gone.cells Gone.wf Try.underlying30 FxVerOa.co51 (by decide) Fx.by51 (fun cs' h' => gone_of h')
  refine ⟨⟨n0, n1, n2, n3, r, la, ld⟩, ha, hd, list_eq hl fun i hi => ?_, ⟨hsa, hsd, ⟨w0.1, by show n0 < _; omega⟩, ⟨w1.1, by show n1 < _; omega⟩, ⟨w2.1, by show n2 < _; omega⟩, ⟨w3.1, by show n3 < _; omega⟩, fun j hj => ?_, fun m hm => (hqa m hm).1, hqd⟩, Nat.le_trans (Nat.mul_le_mul_right _ hsa.le) hca, Nat.le_trans (Nat.mul_le_mul_right _ hsd.le) hcd, hqa⟩
  rotate_left
  · have w8 := (hr j hj).2; rw [show IntKind.u64.min = 0 by decide, show IntKind.u64.max = 18446744073709551615 by decide] at w8; exact ⟨w8.1, by show r j < _; omega⟩
  match i, hi with
  | 0, _ => exact h0
  | 1, _ => exact h1
  | 2, _ => exact h2
  | 3, _ => exact h3
  | 4, _ => exact take_at (hr 0 (by decide)).1
  | 5, _ => exact take_at (hr 1 (by decide)).1
  | 6, _ => exact take_at (hr 2 (by decide)).1
  | 7, _ => exact take_at (hr 3 (by decide)).1
  | 8, _ => exact take_at (hr 4 (by decide)).1
  | 9, _ => exact take1 ea
  | 10, _ => exact take1 ed
  | n + 11, hi => exact absurd hi (by show ¬ n + 11 < 11; omega)
theorem agg_of {t : TypeId} {fs : Array Field} {base : Nat} {v : Value} (ht : Try.prog.underlying t = some (.struct fs)) (h : Value.okWide Try.prog W .any base t v) {l : List Value} (hl : v.cells.toList = l) : v = .agg l.toArray := by
  unfold Value.okWide at h
  rw [ht] at h
  obtain ⟨c, rfl, _⟩ := h
  rw [← hl]; rfl
theorem arr_of {t n e : Nat} {base : Nat} {v : Value} (ht : Try.prog.underlying t = some (.array n e)) (h : Value.okWide Try.prog W .any base t v) {l : List Value} (hl : v.cells.toList = l) : v = .agg l.toArray := by
  unfold Value.okWide at h
  rw [ht] at h
  obtain ⟨c, rfl, _⟩ := h
  rw [← hl]; rfl
theorem one_of {v u : Value} (h : v.cells.toList = [u]) (hu : u.oneCell' = true) (hn : ∀ c, v ≠ .agg c) : v = u := by
  cases v <;> first | (exact absurd rfl (hn _)) | (simp [Value.cells] at h; exact h)
theorem sl_of {t e : TypeId} {base : Nat} {v u : Value} (ht : Try.prog.underlying t = some (.slice e)) (h : Value.okWide Try.prog W .any base t v) (hl : v.cells.toList = [u]) (hu : u.oneCell' = true) : v = u := by
  refine one_of hl hu fun c hc => ?_
  subst hc
  unfold Value.okWide at h
  rw [ht] at h
  simp [Cell.okWide, ht, Cell.ok] at h
theorem str_of {t : TypeId} {base : Nat} {v u : Value} (ht : Try.prog.underlying t = some .string) (h : Value.okWide Try.prog W .any base t v) (hl : v.cells.toList = [u]) (hu : u.oneCell' = true) : v = u := by
  refine one_of hl hu fun c hc => ?_
  subst hc
  unfold Value.okWide at h
  rw [ht] at h
  simp [Cell.okWide, ht, Cell.ok] at h
theorem int_of {t : TypeId} {k : IntKind} {base : Nat} {v : Value} (ht : Try.prog.underlying t = some (.int k)) (h : Value.okWide Try.prog W .any base t v) : ∃ n, v = .int k n ∧ k.min ≤ n ∧ n ≤ k.max := by
  unfold Value.okWide at h
  rw [ht] at h
  simp only [Cell.okWide, ht] at h
  cases v <;> simp [Cell.ok, ht] at h
  obtain ⟨rfl, h1⟩ := h
  exact ⟨_, rfl, by simpa [IntKind.has] using h1⟩
end
theorem tanOwn : ownKnob Try.prog.godebug = none := by kernel_rfl
theorem tanLaid : laidOutB Try.prog = true := by kernel_rfl
end Go.Proofs.Ytnhdaaggkdegpaa

namespace Go.Proofs.Ytnhdaaggkdegpaa
set_option linter.unusedSimpArgs false
set_option linter.unusedVariables false
open Go.Tan Go.RowKit
set_option maxRecDepth 100000
namespace Fx
theorem by5 : Try.prog.bytesOf 5 = 1 := by kernel_rfl
end Fx
section
variable {H : Type} {M : Nat}
theorem wt_mul {a b c M : Nat} (h : a ≤ b * M) (hb : b ≤ c) : a ≤ c * M := Nat.le_trans h (Nat.mul_le_mul_right M hb)
theorem bulk_one (d : DataW H) : 1 ≤ Rows.uptoBulk d := by
  cases d with
  | lit l => cases l <;> simp [Rows.uptoBulk]
  | nil => simp [Rows.uptoBulk]
  | ptr d => simp [Rows.uptoBulk]
  | slice elems spare => simp [Rows.uptoBulk]
  | agg parts => simp [Rows.uptoBulk]
  | iface t d => simp [Rows.uptoBulk]
  | map entries => simp [Rows.uptoBulk]
  | held h => simp [Rows.uptoBulk]
theorem bulk_len (l : List (DataW H)) : l.length ≤ Rows.uptoBulkAll l := by
  induction l with
  | nil => simp [Rows.uptoBulkAll]
  | cons x r ih => have := bulk_one x; simp only [Rows.uptoBulkAll, List.length_cons]; omega
theorem bulk_entries (l : List (Lit × DataW H)) : l.length ≤ Rows.uptoBulkEntries l := by
  induction l with
  | nil => simp [Rows.uptoBulkEntries]
  | cons x r ih =>
    obtain ⟨k, d⟩ := x
    have h1 := bulk_one d
    have : 1 ≤ Rows.uptoBulkEntry (k, d) := by cases k <;> simp [Rows.uptoBulkEntry]
    simp only [Rows.uptoBulkEntries, List.length_cons]; omega
theorem bulk_part {d : DataW H} {l : List (DataW H)} (h : d ∈ l) : Rows.uptoBulk d ≤ Rows.uptoBulkAll l := by
  induction l with
  | nil => cases h
  | cons x r ih =>
    simp only [Rows.uptoBulkAll]
    cases List.mem_cons.1 h with
    | inl e => subst e; omega
    | inr e => have := ih e; omega
structure TyOk (M : Nat) : Prop where
  ptr : ∀ t e, t < 136 → Try.prog.underlying t = some (.pointer e) → e < 136
  sl : ∀ t e, t < 136 → Try.prog.underlying t = some (.slice e) → e < 136 ∧ Try.prog.bytesOf e ≤ M
  ar : ∀ t q e, t < 136 → Try.prog.underlying t = some (.array q e) → e < 136
  st : ∀ t fs, t < 136 → Try.prog.underlying t = some (.struct fs) → ∀ u ∈ fs.toList.map (·.type), u < 136
  mp : ∀ t k e, t < 136 → Try.prog.underlying t = some (.map k e) → e < 136 ∧ Try.prog.bytesOf k + Try.prog.bytesOf e ≤ 2 * M
noncomputable def tyOne (t : Nat) : Bool := match Try.prog.underlying t with
  | some (.pointer e) => Nat.blt e 136
  | some (.slice e) => Nat.blt e 136 && Nat.ble (Try.prog.bytesOf e) 1000
  | some (.array _ e) => Nat.blt e 136
  | some (.struct fs) => fs.toList.all fun f => Nat.blt f.type 136
  | some (.map k e) => Nat.blt e 136 && Nat.ble (Try.prog.bytesOf k + Try.prog.bytesOf e) 2000
  | _ => true
theorem tyAll : ((List.range 136).all tyOne) = true := by kernel_rfl
theorem blt_lt {a b : Nat} (h : Nat.blt a b = true) : a < b := Nat.le_of_ble_eq_true h
theorem tyOk : TyOk 1000 := by
  have key : ∀ t, t < 136 → tyOne t = true := fun t ht => List.all_eq_true.1 tyAll t (List.mem_range.2 ht)
  refine ⟨fun t e ht hu => ?_, fun t e ht hu => ?_, fun t q e ht hu => ?_, fun t fs ht hu u hm => ?_, fun t k e ht hu => ?_⟩ <;> have h := key t ht <;> unfold tyOne at h <;> rw [hu] at h <;> simp only [Bool.and_eq_true] at h
  · exact blt_lt h
  · exact ⟨blt_lt h.1, Nat.le_of_ble_eq_true h.2⟩
  · exact blt_lt h
  · obtain ⟨f, hf, rfl⟩ := List.mem_map.1 hm
    exact blt_lt (List.all_eq_true.1 h f hf)
  · exact ⟨blt_lt h.1, Nat.le_of_ble_eq_true h.2⟩
mutual
theorem wt (hM : TyOk M) (h1 : 1 ≤ M) : ∀ (d : DataW H) (t n : Nat), t < 136 → n ∈ d.weights Try.prog t → n ≤ Rows.uptoBulk d * (2 * M)
  | .lit (.string bytes), t, n, ht, h => by
    simp only [DataW.weights, List.mem_singleton] at h
    subst h
    simp only [Rows.uptoBulk]
    exact Nat.le_trans (by omega) (Nat.le_mul_of_pos_right _ (by omega))
  | .lit (.bool _), t, n, ht, h => by simp [DataW.weights] at h
  | .lit (.int ..), t, n, ht, h => by simp [DataW.weights] at h
  | .lit (.float ..), t, n, ht, h => by simp [DataW.weights] at h
  | .nil, t, n, ht, h => by simp [DataW.weights] at h
  | .ptr d, t, n, ht, h => by
    simp only [DataW.weights] at h
    split at h
    · rename_i e hu
      exact wt_mul (wt hM h1 d _ n (hM.ptr t e ht hu) h) (by simp [Rows.uptoBulk])
    · cases h
  | .slice elems spare, t, n, ht, h => by
    simp only [DataW.weights] at h
    split at h
    · rename_i e hu
      obtain ⟨he, hb⟩ := hM.sl t e ht hu
      rcases List.mem_cons.1 h with rfl | h
      · have l1 := bulk_len elems
        have l2 := bulk_len spare
        simp only [Rows.uptoBulk]
        exact Nat.mul_le_mul (by omega) (Nat.le_trans hb (by omega))
      · rcases List.mem_append.1 h with h | h
        · exact wt_mul (wtAll hM h1 elems _ n he h) (by simp only [Rows.uptoBulk]; omega)
        · exact wt_mul (wtAll hM h1 spare _ n he h) (by simp only [Rows.uptoBulk]; omega)
    · cases h
  | .agg parts, t, n, ht, h => by
    simp only [DataW.weights] at h
    split at h
    · rename_i fs hu
      exact wt_mul (wtEach hM h1 parts _ n (hM.st t fs ht hu) h) (by simp only [Rows.uptoBulk]; omega)
    · rename_i q e hu
      exact wt_mul (wtAll hM h1 parts _ n (hM.ar t q e ht hu) h) (by simp only [Rows.uptoBulk]; omega)
    · cases h
  | .iface _ _, t, n, ht, h => by simp [DataW.weights] at h
  | .map entries, t, n, ht, h => by
    simp only [DataW.weights] at h
    split at h
    · rename_i k e hu
      obtain ⟨he, hb⟩ := hM.mp t k e ht hu
      rcases List.mem_cons.1 h with rfl | h
      · have l1 := bulk_entries entries
        simp only [Rows.uptoBulk]
        exact Nat.mul_le_mul (by omega) hb
      · exact wt_mul (wtEntries hM h1 entries _ n he h) (by simp only [Rows.uptoBulk]; omega)
    · cases h
  | .held _, t, n, ht, h => by simp [DataW.weights] at h
theorem wtAll (hM : TyOk M) (h1 : 1 ≤ M) : ∀ (l : List (DataW H)) (e n : Nat), e < 136 → n ∈ DataW.weightsAll Try.prog e l → n ≤ Rows.uptoBulkAll l * (2 * M)
  | [], e, n, ht, h => by simp [DataW.weightsAll] at h
  | d :: r, e, n, ht, h => by
    simp only [DataW.weightsAll, List.mem_append] at h
    rcases h with h | h
    · exact wt_mul (wt hM h1 d _ n ht h) (by simp only [Rows.uptoBulkAll]; omega)
    · exact wt_mul (wtAll hM h1 r _ n ht h) (by simp only [Rows.uptoBulkAll]; omega)
theorem wtEach (hM : TyOk M) (h1 : 1 ≤ M) : ∀ (l : List (DataW H)) (ts : List Nat) (n : Nat), (∀ t ∈ ts, t < 136) → n ∈ DataW.weightsEach Try.prog ts l → n ≤ Rows.uptoBulkAll l * (2 * M)
  | [], ts, n, ht, h => by cases ts <;> simp [DataW.weightsEach] at h
  | d :: r, [], n, ht, h => by simp [DataW.weightsEach] at h
  | d :: r, t :: ts, n, ht, h => by
    simp only [DataW.weightsEach, List.mem_append] at h
    rcases h with h | h
    · exact wt_mul (wt hM h1 d _ n (ht t (List.mem_cons_self ..)) h) (by simp only [Rows.uptoBulkAll]; omega)
    · exact wt_mul (wtEach hM h1 r _ n (fun t hm => ht t (List.mem_cons_of_mem _ hm)) h) (by simp only [Rows.uptoBulkAll]; omega)
theorem wtEntries (hM : TyOk M) (h1 : 1 ≤ M) : ∀ (l : List (Lit × DataW H)) (e n : Nat), e < 136 → n ∈ DataW.weightsEntries Try.prog e l → n ≤ Rows.uptoBulkEntries l * (2 * M)
  | [], e, n, ht, h => by simp [DataW.weightsEntries] at h
  | (k, d) :: r, e, n, ht, h => by
    simp only [DataW.weightsEntries, List.mem_append] at h
    rcases h with h | h
    · have hd : ∀ n, n ∈ d.weights Try.prog e → n ≤ Rows.uptoBulk d * (2 * M) := fun n h => wt hM h1 d e n ht h
      have h2 : n ≤ Rows.uptoBulkEntry (k, d) * (2 * M) := by
        cases k with
        | string bytes =>
          simp only [DataW.weightsEntry, List.mem_cons] at h
          rcases h with rfl | h
          · simp only [Rows.uptoBulkEntry]; exact Nat.le_trans (by omega) (Nat.le_mul_of_pos_right _ (by omega))
          · exact wt_mul (hd n h) (by simp only [Rows.uptoBulkEntry]; omega)
        | _ => simp only [DataW.weightsEntry] at h; exact wt_mul (hd n h) (by simp only [Rows.uptoBulkEntry]; omega)
      exact wt_mul h2 (by simp only [Rows.uptoBulkEntries]; omega)
    · exact wt_mul (wtEntries hM h1 r _ n ht h) (by simp only [Rows.uptoBulkEntries]; omega)
end
/-- an argument's reading, small -/
theorem Rg.argU {enc : TypeId × Value → H} {W : World} {t : TypeId} {v : Value} {d : DataW H} {ps : List MemPlace} {ds : List (DataW H)} {i : Nat} (h : DataW.Trod enc Try.prog W 0 (fun _ => true) true t v d ps) (hup : Rows.uptoSmall H ds = true) (hd : ds[i]? = some d) (ht : t < 136 := by decide) : Rg 2097152000 enc Try.prog W t v.cells.toList := by
  obtain ⟨fuel, h⟩ := h
  refine ⟨fuel, _, h, fun n hn => ?_⟩
  have h1 : Rows.uptoBulkAll ds ≤ 1048576 := of_decide_eq_true hup
  have h2 := bulk_part (List.mem_of_getElem? hd)
  have h3 := wt tyOk (by decide) d t n ht hn
  exact Nat.le_trans h3 (Nat.le_trans (Nat.mul_le_mul_right _ (Nat.le_trans h2 h1)) (by decide))
end
end Go.Proofs.Ytnhdaaggkdegpaa

namespace Go.Tan
open Go.RowKit
def goneKs : List CK := [.int .u8, .int .u64]
theorem gone_conf {g : Gone} (h : g.wf) : Conf goneKs g.cells := by
  have l1 := h.level; have l2 := h.number
  refine .cons (.int ?_ ?_) (.cons (.int ?_ ?_) .nil)
  all_goals (simp only [IntKind.min, IntKind.max, IntKind.bits, IntKind.signed]; simp; omega)
def gensKs : List CK := List.replicate 5 (.int .u64)
theorem gens_conf {e : Edit} (h : e.wf) : Conf gensKs ((List.range 5).map fun i => Value.int .u64 (e.gens i)) := by
  have := Conf.rep (k := .int .u64) (f := fun i => Value.int .u64 (e.gens i)) (List.range 5) (fun i hi => by
    have hr := h.gens i (List.mem_range.1 hi)
    unfold u64 at hr
    refine .int ?_ ?_
    all_goals (simp only [IntKind.min, IntKind.max, IntKind.bits, IntKind.signed]; simp; omega))
  rw [List.length_range] at this
  exact this
noncomputable def eqG (a b : Gone) : Bool := B (a.cells = b.cells)
theorem eqG_iff {a b : Gone} : eqG a b = true ↔ a.cells = b.cells := B_iff
noncomputable def eqGens (a b : Edit) : Bool := B (((List.range 5).map fun i => Value.int .u64 (a.gens i)) = (List.range 5).map fun i => Value.int .u64 (b.gens i))
theorem eqGens_iff {a b : Edit} : eqGens a b = true ↔ ((List.range 5).map fun i => Value.int .u64 (a.gens i)) = (List.range 5).map fun i => Value.int .u64 (b.gens i) := B_iff
noncomputable def sameG (a b : List Gone) : Bool := B (a.map Gone.cells = b.map Gone.cells)
theorem sameG_no {a b : List Gone} {k : Nat} {x y : Gone} (hx : a[k]? = some x) (hy : b[k]? = some y) (h : eqG x y = false) : sameG a b = false := by
  refine Bool.eq_false_iff.2 fun e0 => ?_
  have e : a.map Gone.cells = b.map Gone.cells := B_iff.1 e0
  have h1 := congrArg (fun l => l[k]?) e
  simp only [List.getElem?_map, hx, hy, Option.map_some, Option.some.injEq] at h1
  rw [eqG_iff.2 h1] at h; cases h
theorem sameG_yes {a b : List Gone} (hl : a.length = b.length) (h : ∀ (j : Nat) (x y : Gone), a[j]? = some x → b[j]? = some y → eqG x y = true) : sameG a b = true := by
  refine B_true (List.ext_getElem (by simpa using hl) fun i h1 h2 => ?_)
  simp only [List.length_map] at h1 h2
  have := eqG_iff.1 (h i _ _ (List.getElem?_eq_getElem h1) (List.getElem?_eq_getElem h2))
  simpa using this
/-- both edits are the same (the document's test) -/
noncomputable def sameE (a b : Edit) : Bool := sameG a.drop b.drop && (sameM a.add b.add && ((((a.log == b.log) && (a.next == b.next)) && (a.seq == b.seq)) && eqGens a b))
theorem sameE_len {a b : Edit} (h : a.drop.length ≠ b.drop.length) : sameE a b = false := by
  have : sameG a.drop b.drop = false := by
    refine B_false fun e => h ?_
    have := congrArg List.length e; simpa using this
  unfold sameE; rw [this]; rfl
theorem sameE_refl (a : Edit) : sameE a a = true := by
  unfold sameE
  rw [show sameG a.drop a.drop = true from B_true rfl, sameM_refl, show eqGens a a = true from B_true rfl]; simp
theorem sameE_canon (a : Edit) : sameE a.canon a = true := by
  unfold sameE
  rw [show sameG a.canon.drop a.drop = true from B_true rfl, show sameM a.canon.add a.add = true from sameM_iff.2 (by
    show (a.add.map Meta.canon).map Meta.cells = a.add.map Meta.cells
    rw [List.map_map]
    exact List.map_congr_left fun m _ => canon_cells m), show eqGens a.canon a = true from B_true rfl]
  simp [Edit.canon]
/-- may an edit's tables be taken as they were laid: so many of them -/
def fitB (m : Meta) : Bool := ((decide (m.size ≥ 0) && decide (m.count ≥ 0)) && decide ((m.min.size : Int) ≤ 1024)) && decide ((m.max.size : Int) ≤ 1024)
def fitA (e : Edit) (k : Nat) : Bool := (e.add.take k).all fitB
theorem fitB_iff {m : Meta} : fitB m = true ↔ m.fits := by
  unfold fitB Meta.fits
  simp only [Bool.and_eq_true, decide_eq_true_eq]
  constructor
  · rintro ⟨⟨⟨h1, h2⟩, h3⟩, h4⟩; exact ⟨h1, h2, by omega, by omega⟩
  · rintro ⟨h1, h2, h3, h4⟩; exact ⟨⟨⟨h1, h2⟩, by omega⟩, by omega⟩
theorem fitA_step {e : Edit} {k : Nat} {m : Meta} (h : e.add[k]? = some m) : fitA e (k + 1) = ((((fitA e k && decide (m.size ≥ 0)) && decide (m.count ≥ 0)) && decide ((m.min.size : Int) ≤ 1024)) && decide ((m.max.size : Int) ≤ 1024)) := by
  unfold fitA
  rw [List.take_add_one, h, List.all_append]
  simp only [Option.toList_some, List.all_cons, List.all_nil, Bool.and_true, fitB, Bool.and_assoc]
theorem fitA_yes {e : Edit} {k : Nat} (hk : e.add.length ≤ k) (h : fitA e k = true) : ∀ m ∈ e.add, m.fits := by
  unfold fitA at h
  rw [List.take_of_length_le hk] at h
  exact fun m hm => fitB_iff.1 (List.all_eq_true.1 h m hm)
theorem fitA_no {e : Edit} {k : Nat} (hk : e.add.length ≤ k) (h : fitA e k = false) : ∃ m ∈ e.add, ¬ m.fits := by
  unfold fitA at h
  rw [List.take_of_length_le hk] at h
  obtain ⟨m, hm, h2⟩ := List.all_eq_false.1 h
  exact ⟨m, hm, fun hf => h2 (fitB_iff.2 hf)⟩
theorem encM_len {m : Meta} (h : m.wf) : (encM m).length ≤ m.min.size + m.max.size + 112 := by
  have l1 := h.level; have l2 := h.gen; have l3 := h.epoch; have l4 := h.number; have l7 := h.minL; have l8 := h.maxL
  have n1 := num_len10 (n := m.level.toNat) (by omega); have n2 := num_len10 (n := m.gen.toNat) (by omega); have n3 := num_len10 (n := m.epoch.toNat) (by omega); have n4 := num_len10 (n := m.number.toNat) (by omega)
  have n5 := num_len10 (u64N_lt m.size); have n6 := num_len10 (u64N_lt m.count)
  have y1 := yb_len m.min; have y2 := yb_len m.max
  have s1 := strL_len (xs := yb m.min) (by omega); have s2 := strL_len (xs := yb m.max) (by omega)
  unfold encM
  simp only [List.length_append, List.length_map, List.length_range]
  omega
theorem metas_len' {R : Nat} : ∀ (l : List Meta), (∀ m ∈ l, m.wf ∧ m.min.size ≤ R ∧ m.max.size ≤ R) → (l.flatMap encM).length ≤ l.length * (2 * R + 112)
  | [], _ => by simp
  | m :: l, h => by
    have h1 := h m (List.mem_cons_self ..)
    have h2 := encM_len h1.1
    have h3 := metas_len' l fun x hx => h x (List.mem_cons_of_mem _ hx)
    rw [List.flatMap_cons, List.length_append, List.length_cons, Nat.succ_mul]; omega
theorem encE_len {e : Edit} (h : e.wf) (ha : e.add.length ≤ 1000000) (hd : e.drop.length ≤ 1000000) : (encE e).length ≤ (e.add.flatMap encM).length + 20 * e.drop.length + 110 := by
  have l1 := h.log; have l2 := h.next; have l3 := h.seq; have l4 := h.least
  unfold u64 at l1 l2 l3 l4
  have n1 := num_len10 (n := e.log.toNat) (by omega); have n2 := num_len10 (n := e.next.toNat) (by omega); have n3 := num_len10 (n := e.seq.toNat) (by omega); have n4 := num_len10 (n := e.least.toNat) (by omega)
  have n5 := num_len10 (n := e.add.length) (by omega); have n6 := num_len10 (n := e.drop.length) (by omega)
  have g : ((List.range 5).flatMap fun i => numN (e.gens i).toNat).length ≤ 10 * 5 := by
    have := numsL_len (ns := gensL e) (gens_u h)
    unfold numsL gensL at this
    rw [List.flatMap_map] at this
    simpa using this
  have d := gonesL h.drop
  unfold encE
  simp only [List.length_append]
  omega
theorem flat_le_enc (e : Edit) : (e.add.flatMap encM).length ≤ (encE e).length := by unfold encE; simp only [List.length_append]; omega
theorem DecR.det {xs : List Y} {e e' : Edit} {r r' : Int} (h : DecR xs e r) (h' : DecR xs e' r') : e = e' ∧ r = r' := by
  rcases h with ⟨h1, h2⟩ | ⟨h1, h2, h3⟩ <;> rcases h' with ⟨k1, k2⟩ | ⟨k1, k2, k3⟩
  · rw [h1] at k1; exact ⟨Option.some.inj k1, by rw [h2, k2]⟩
  · rw [h1] at k1; cases k1
  · rw [h1] at k1; cases k1
  · exact ⟨by rw [h2, k2], by rw [h3, k3]⟩
theorem DecR.lens {xs : List Y} {e : Edit} {r : Int} (h : DecR xs e r) : e.add.length ≤ 1024 ∧ e.drop.length ≤ 1024 := by
  rcases h with ⟨h1, _⟩ | ⟨_, rfl, _⟩
  · exact (edit_inv h1).2.2
  · exact ⟨by decide, by decide⟩
/-- what comes back of an edit that was laid -/
theorem DecR.back {e x : Edit} {r : Int} {k : Nat} (h : DecR (encE e) x r) (hw : e.wf) (ha : e.add.length ≤ 1024) (hd : e.drop.length ≤ 1024) (hk : e.add.length ≤ k) :
    (fitA e k = true ∧ r = 0 ∧ x = e.canon) ∨ (fitA e k = false ∧ r = 180 ∧ x = Edit.zero) := by
  cases hf : fitA e k with
  | true =>
    have h1 := edit_k hw ha hd (fitA_yes hk hf)
    rcases h with ⟨h2, h3⟩ | ⟨h2, _⟩
    · rw [h1] at h2; exact .inl ⟨rfl, h3, (Option.some.inj h2).symm⟩
    · rw [h1] at h2; cases h2
  | false =>
    have h1 := edit_no hw ha (fitA_no hk hf)
    rcases h with ⟨h2, h3⟩ | ⟨h2, h3, h4⟩
    · rw [h1] at h2; cases h2
    · exact .inr ⟨rfl, h4, h3⟩
end Go.Tan

namespace Go.Proofs.Ytnhdaaggkdegpaa
set_option linter.unusedSimpArgs false
set_option linter.unusedVariables false
open Go.Tan Go.RowKit

namespace Fx
theorem eqt51 : eqT Try.prog 4 51 (goneKs) = true := by kernel_rfl
theorem eqt25 : eqT Try.prog 4 25 (gensKs) = true := by kernel_rfl
theorem go14 : goFn Try.prog 14 = true := by kernel_rfl
theorem go16 : goFn Try.prog 16 = true := by kernel_rfl
theorem go18 : goFn Try.prog 18 = true := by kernel_rfl
theorem go19 : goFn Try.prog 19 = true := by kernel_rfl
end Fx
theorem sameEdit_ok (a b : Edit) (haa had hba hbd : Sh) (G : PM) (hA : EdR G a haa had) (hB : EdR G b hba hbd) (hla : a.add.length ≤ 100000000000) (hld0 : a.drop.length ≤ 100000000000) : Ct Try.prog 19 ([a.val haa had, b.val hba hbd] : List Value).toArray G [] (fun _ μ' u => μ' = [] ∧ u = .bool (sameE a b)) := by
  refine Ct.of Try.func19 rfl Try.ntmps19 rfl fun w0 hs0 => ?_
  have haa1 := hA.add; have hba1 := hB.add; have had1 := hA.drop; have hbd1 := hB.drop
  refine .seq ?_
  refine Wk.rg [0, 1, 2] rfl rfl ?_
  refine bx rfl (.u rfl) rfl ?_; intro b2
  refine bx rfl (.u rfl) rfl ?_; intro b3
  refine asg rfl .no (.u rfl) ?_
  refine .nil ?_
  refine .code ?_
  refine .seq ?_
  refine .seq ?_
  refine Wk.rg [0, 1, 2, 3, 4, 5, 6, 7, 8, 9, 10, 11, 12, 13, 14] rfl rfl ?_
  refine fz rfl .no Fx.fo32_6 (.u rfl) ?_
  refine ld rfl .no Fx.ag30 (.u rfl) (fun _ => Rd.own (.there .here) (by first | exact wap_f rfl | rfl)) ?_
  refine ln rfl .no Fx.sn30 (.u rfl) ?_
  refine fz rfl .no Fx.fo32_6 (.u rfl) ?_
  refine ld rfl .no Fx.ag30 (.u rfl) (fun _ => Rd.own .here (by first | exact wap_f rfl | rfl)) ?_
  refine ln rfl .no Fx.sn30 (.u rfl) ?_
  refine cp rfl .no (.u rfl) (.u rfl) rfl ?_
  refine mv rfl .no (.u rfl) ?_
  refine fz rfl (.f rfl rfl) Fx.fo32_5 (.u rfl) ?_
  refine ld rfl (.f rfl rfl) Fx.ag22 (.s rfl) (fun hc => Rd.own (.there .here) (by first | exact wap_f rfl | rfl)) ?_
  refine fz rfl (.f rfl rfl) Fx.fo32_5 (.u rfl) ?_
  refine ld rfl (.f rfl rfl) Fx.ag22 (.s rfl) (fun hc => Rd.own .here (by first | exact wap_f rfl | rfl)) ?_
  refine kv rfl (.f rfl rfl) Fx.go24 (Eva.cons (.s rfl) (Eva.cons (.s rfl) Eva.nil)) (fun hc => sameMetas_ok haa hba _ _ _ haa1 hba1 hA.wf.add hB.wf.add hla) ?_
  refine nt rfl (.f rfl rfl) (.s rfl) ?_
  refine pkO rfl .no (.u rfl) (.s rfl) ?_
  refine .nil ?_
  refine .code ?_
  refine .cond rfl (fun c1 => ?_) (fun c1 => ?_)
  · have c1k := c1
    try simp only [decide_eq_true_eq, decide_eq_false_iff_not, Int.not_lt, Int.not_le, gt_iff_lt, ge_iff_le, Bool.or_eq_true, Bool.and_eq_true, Bool.or_eq_false_iff, Bool.not_eq_true', Bool.not_eq_false', Int.toNat_natCast, bne_iff_ne, beq_iff_eq, bne_eq_false_iff_eq, beq_eq_false_iff_ne, ne_eq] at c1
    refine .seq ?_
    refine Wk.rg [0] rfl rfl ?_
    refine asg rfl .no (.u rfl) ?_
    refine .nil ?_
    refine .code ?_
    refine .ret ?_
    refine We.fin0 Try.results19 (.tmp rfl .nil) ?_
    exact ⟨rfl, congrArg Value.bool (by (rcases c1 with h | h; (exact (sameE_len (by omega)).symm); (unfold sameE; rw [h]; simp)))⟩
  · have c1k := c1
    try simp only [decide_eq_true_eq, decide_eq_false_iff_not, Int.not_lt, Int.not_le, gt_iff_lt, ge_iff_le, Bool.or_eq_true, Bool.and_eq_true, Bool.or_eq_false_iff, Bool.not_eq_true', Bool.not_eq_false', Int.toNat_natCast, bne_iff_ne, beq_iff_eq, bne_eq_false_iff_eq, beq_eq_false_iff_ne, ne_eq] at c1
    refine .skip ?_
    refine .code ?_
    refine .seq ?_
    refine .seq ?_
    refine Wk.rg [0] rfl rfl ?_
    refine asg rfl .no (.u rfl) ?_
    refine .nil ?_
    refine .code ?_
    refine .block ?_
    have hld : a.drop.length = b.drop.length := by (have := c1k; simp at this; omega)
    refine Wk.lop (α := Nat) (fun k => [(5, true, .int .i64 (k : Int))]) (fun _ => [])
      (fun k Gl => (k ≤ a.drop.length) ∧ (∀ (j : Nat) (x y : Gone), j < k → a.drop[j]? = some x → b.drop[j]? = some y → eqG x y = true)) (fun k => a.drop.length - k) 0 [(2, true, _), (3, true, _)] [_, _]
      (ESub.cons rfl (by first | rfl | exact evi (by omega)) (ESub.cons rfl rfl (ESub.cons rfl rfl ESub.nil)))
      (MSub.cons .here rfl (MSub.cons .here rfl MSub.nil)) ?_ ?_
    · refine ⟨?_, ?_⟩
      · (try dsimp only) <;> (first | omega | rfl | assumption | (simp; done))
      · (try dsimp only) <;> (exact fun j x y hj => by omega)
    intro k N0 Gl0 hN0 hGl0 hF0
    try dsimp only at hF0 hN0 ⊢
    obtain ⟨hk, hq⟩ := hF0
    have had1 := had1.mono hGl0
    have hbd1 := hbd1.mono hGl0
    refine .seq ?_
    refine .seq ?_
    refine Wk.rg [0, 1, 2, 3, 4] rfl rfl ?_
    refine mv rfl .no (.u rfl) ?_
    refine fz rfl .no Fx.fo32_6 (.u rfl) ?_
    refine ld rfl .no Fx.ag30 (.u rfl) (fun _ => Rd.own (.there .here) (by first | exact wap_f rfl | rfl)) ?_
    refine ln rfl .no Fx.sn30 (.u rfl) ?_
    refine cp rfl .no (.u rfl) (.u rfl) rfl ?_
    refine .nil ?_
    refine .code ?_
    refine .cond rfl (fun c2 => ?_) (fun c2 => ?_)
    · have c2k := c2
      try simp only [decide_eq_true_eq, decide_eq_false_iff_not, Int.not_lt, Int.not_le, gt_iff_lt, ge_iff_le, Bool.or_eq_true, Bool.and_eq_true, Bool.or_eq_false_iff, Bool.not_eq_true', Bool.not_eq_false', Int.toNat_natCast, bne_iff_ne, beq_iff_eq, bne_eq_false_iff_eq, beq_eq_false_iff_ne, ne_eq] at c2
      refine .skip ?_
      refine .code ?_
      refine .seq ?_
      refine .block ?_
      refine .seq ?_
      refine Wk.draw (mc := ⟨false, false⟩) [0, 1, 2, 3, 4, 5, 6, 7, 8, 9, 10] Fx.mix (by kernel_rfl) ?_
      obtain ⟨x, ex⟩ := getx (k := k) (xs := a.drop) (by omega)
      obtain ⟨y, ey⟩ := getx (k := k) (xs := b.drop) (by omega)
      refine fz rfl .no Fx.fo32_6 (.u rfl) ?_
      refine ld rfl .no Fx.ag30 (.u rfl) (fun _ => Rd.own (.there .here) (by first | exact wap_f rfl | rfl)) ?_
      refine mv rfl .no (.u rfl) ?_
      refine ih rfl .no Fx.se30 (.u rfl) (.u rfl) (fun _ => by omega) (fun _ => by omega) (fun _ => had1.nn (k := k) (by first | omega | (simp only [List.length_cons, List.length_nil]; omega))) ?_
      refine lA rfl .no Fx.ag51 (.u rfl) (fun _ => (had1.at (by omega) ex).rd) (fun _ => rfl) ?_
      refine fz rfl .no Fx.fo32_6 (.u rfl) ?_
      refine ld rfl .no Fx.ag30 (.u rfl) (fun _ => Rd.own .here (by first | exact wap_f rfl | rfl)) ?_
      refine mv rfl .no (.u rfl) ?_
      refine ih rfl .no Fx.se30 (.u rfl) (.u rfl) (fun _ => by omega) (fun _ => by omega) (fun _ => hbd1.nn (k := k) (by first | omega | (simp only [List.length_cons, List.length_nil]; omega))) ?_
      refine lA rfl .no Fx.ag51 (.u rfl) (fun _ => (hbd1.at (by omega) ey).rd) (fun _ => rfl) ?_
      refine nqC (eqG x y) rfl .no Fx.eqt51 (.u rfl) (.u rfl) (fun _ => gone_conf (hA.wf.drop x (List.mem_of_getElem? ex))) (fun _ => gone_conf (hB.wf.drop y (List.mem_of_getElem? ey))) (fun _ => eqG_iff) ?_
      refine .nil ?_
      refine .code ?_
      refine .cond rfl (fun c3 => ?_) (fun c3 => ?_)
      · have c3k := c3
        try simp only [decide_eq_true_eq, decide_eq_false_iff_not, Int.not_lt, Int.not_le, gt_iff_lt, ge_iff_le, Bool.or_eq_true, Bool.and_eq_true, Bool.or_eq_false_iff, Bool.not_eq_true', Bool.not_eq_false', Int.toNat_natCast, bne_iff_ne, beq_iff_eq, bne_eq_false_iff_eq, beq_eq_false_iff_ne, ne_eq] at c3
        refine .seq ?_
        refine Wk.rg [0] rfl rfl ?_
        refine asg rfl .no (.u rfl) ?_
        refine .nil ?_
        refine .code ?_
        refine .ret ?_
        refine We.fin0 Try.results19 (.tmp rfl .nil) ?_
        exact ⟨rfl, congrArg Value.bool (by unfold sameE; rw [sameG_no ex ey (by simpa using c3k)]; rfl)⟩
      · have c3k := c3
        try simp only [decide_eq_true_eq, decide_eq_false_iff_not, Int.not_lt, Int.not_le, gt_iff_lt, ge_iff_le, Bool.or_eq_true, Bool.and_eq_true, Bool.or_eq_false_iff, Bool.not_eq_true', Bool.not_eq_false', Int.toNat_natCast, bne_iff_ne, beq_iff_eq, bne_eq_false_iff_eq, beq_eq_false_iff_ne, ne_eq] at c3
        refine .skip ?_
        refine .blk ?_
        refine .code ?_
        refine Wk.rg [0, 1, 2] rfl rfl ?_
        refine mv rfl .no (.u rfl) ?_
        refine arn (((k + 1) : Nat) : Int) rfl .no (.u rfl) (.u rfl) rfl (fun _ => by omega) (fun _ => wrap_i64 (by omega) (by omega)) ?_
        refine asg rfl .no (.u rfl) ?_
        refine .nil ?_
        refine We.lpo (k + 1) ?_ ?_ ?_ ?_ ?_
        · exact (ESub.cons rfl (by first | rfl | exact evi (by omega)) (ESub.cons rfl rfl (ESub.cons rfl rfl ESub.nil)))
        · exact (MSub.cons .here rfl (MSub.cons .here rfl MSub.nil))
        · first | omega | (dsimp only; omega)
        · exact hGl0
        · refine ⟨?_, ?_⟩
          · (try dsimp only) <;> (first | omega | rfl | assumption | (simp; done))
          · (try dsimp only) <;> (exact fun j x2 y2 hj e1 e2 => by (by_cases e : j = k; (subst e; rw [ex] at e1; rw [ey] at e2; cases e1; cases e2; simpa using c3k); exact hq j x2 y2 (by omega) e1 e2))
    · have c2k := c2
      try simp only [decide_eq_true_eq, decide_eq_false_iff_not, Int.not_lt, Int.not_le, gt_iff_lt, ge_iff_le, Bool.or_eq_true, Bool.and_eq_true, Bool.or_eq_false_iff, Bool.not_eq_true', Bool.not_eq_false', Int.toNat_natCast, bne_iff_ne, beq_iff_eq, bne_eq_false_iff_eq, beq_eq_false_iff_ne, ne_eq] at c2
      refine .exit ?_
      refine .xcode ?_
      refine .xlp ?_
      refine .xblk ?_
      refine .code ?_
      refine .seq ?_
      refine Wk.rg [0, 1, 2, 3, 4, 5, 6, 7, 8, 9, 10, 11, 12, 13, 14, 15, 16, 17, 18, 19, 20, 21, 22, 23, 24, 25, 26] rfl rfl ?_
      refine fz rfl .no Fx.fo32_0 (.u rfl) ?_
      refine ld rfl .no Fx.ag24 (.u rfl) (fun _ => Rd.own (.there .here) (by first | exact wap_f rfl | rfl)) ?_
      refine fz rfl .no Fx.fo32_0 (.u rfl) ?_
      refine ld rfl .no Fx.ag24 (.u rfl) (fun _ => Rd.own .here (by first | exact wap_f rfl | rfl)) ?_
      refine cp rfl .no (.u rfl) (.u rfl) rfl ?_
      refine mv rfl .no (.u rfl) ?_
      refine fz rfl (.t rfl rfl) Fx.fo32_1 (.u rfl) ?_
      refine ld rfl (.t rfl rfl) Fx.ag24 (.s rfl) (fun hc => Rd.own (.there .here) (by first | exact wap_f rfl | rfl)) ?_
      refine fz rfl (.t rfl rfl) Fx.fo32_1 (.u rfl) ?_
      refine ld rfl (.t rfl rfl) Fx.ag24 (.s rfl) (fun hc => Rd.own .here (by first | exact wap_f rfl | rfl)) ?_
      refine cp rfl (.t rfl rfl) (.s rfl) (.s rfl) rfl ?_
      refine pkA rfl .no (.u rfl) (.s rfl) ?_
      refine mv rfl .no (.u rfl) ?_
      refine fz rfl (.t rfl rfl) Fx.fo32_2 (.u rfl) ?_
      refine ld rfl (.t rfl rfl) Fx.ag24 (.s rfl) (fun hc => Rd.own (.there .here) (by first | exact wap_f rfl | rfl)) ?_
      refine fz rfl (.t rfl rfl) Fx.fo32_2 (.u rfl) ?_
      refine ld rfl (.t rfl rfl) Fx.ag24 (.s rfl) (fun hc => Rd.own .here (by first | exact wap_f rfl | rfl)) ?_
      refine cp rfl (.t rfl rfl) (.s rfl) (.s rfl) rfl ?_
      refine pkA rfl .no (.u rfl) (.s rfl) ?_
      refine mv rfl .no (.u rfl) ?_
      refine fz rfl (.t rfl rfl) Fx.fo32_4 (.u rfl) ?_
      refine lA rfl (.t rfl rfl) Fx.ag25 (.s rfl) (fun _ => RdN.part (n := 5) (cs' := (List.range 5).map fun i => Value.int .u64 (a.gens i)) (.there .here) (rfl)) (fun _ => rfl) ?_
      refine fz rfl (.t rfl rfl) Fx.fo32_4 (.u rfl) ?_
      refine lA rfl (.t rfl rfl) Fx.ag25 (.s rfl) (fun _ => RdN.part (n := 5) (cs' := (List.range 5).map fun i => Value.int .u64 (b.gens i)) .here (rfl)) (fun _ => rfl) ?_
      refine eqC (eqGens a b) rfl (.t rfl rfl) Fx.eqt25 (.s rfl) (.s rfl) (fun hc => gens_conf hA.wf) (fun hc => gens_conf hB.wf) (fun hc => eqGens_iff) ?_
      refine pkA rfl .no (.u rfl) (.s rfl) ?_
      refine asg rfl .no (.u rfl) ?_
      refine .nil ?_
      refine .code ?_
      refine .ret ?_
      refine We.fin0 Try.results19 (.tmp rfl .nil) ?_
      exact ⟨rfl, congrArg Value.bool (by unfold sameE; rw [sameG_yes hld (fun j x y e1 e2 => hq j x y (by have := (List.getElem?_eq_some_iff.1 e1).1; omega) e1 e2), c1.2]; rfl)⟩

theorem VersionEdits_ok (e : Edit) (ha he : Sh) (xs : List Y) (hx : Sh) (G : PM) (hE : EdR G e ha he) (hsx : SlR G 1 encY hx xs) (hb : xs.length ≤ 1048576 * 2000) (hz : ∀ m ∈ e.add, m.wf ∧ m.min.size ≤ 2097152000 ∧ m.max.size ≤ 2097152000) : Ct Try.prog 4 ([e.val ha he, hx.val xs.length] : List Value).toArray G [] (fun _ μ' u => μ' = [] ∧ u = .bool true) := by
  refine Ct.of Try.func4 rfl Try.ntmps4 rfl fun w0 hs0 => ?_
  have hlm := metas_len' (R := 2097152000) e.add hz
  refine .seq ?_
  refine Wk.rg [0, 1] rfl rfl ?_
  refine bx rfl (.u rfl) rfl ?_; intro b2
  refine asg rfl .no (.u rfl) ?_
  refine .nil ?_
  refine .code ?_
  refine .seq ?_
  refine Wk.rg [0, 1] rfl rfl ?_
  refine kv rfl .no Fx.go10 Eva.nil (fun _ => shown18_ok _) ?_
  refine asg rfl .no (.u rfl) ?_
  refine .nil ?_
  refine .code ?_
  refine .seq ?_
  refine .seq ?_
  refine Wk.rg [0, 1, 2, 3, 4, 5, 6, 7] rfl rfl ?_
  refine lA rfl .no Fx.ag32 (.u rfl) (fun _ => RdN.own .here) (fun _ => (by first | exact State.len | exact State.len.trans State.len.symm | exact Edit.len | exact Edit.len.trans Edit.len.symm | exact nine2_len | exact nine2_len.trans State.len.symm | rfl)) ?_
  refine kv rfl .no Fx.go14 (Eva.cons (.u rfl) Eva.nil) (fun _ => few_ok e ha he _) ?_
  refine nt rfl .no (.u rfl) ?_
  refine mv rfl .no (.u rfl) ?_
  refine mv rfl (.f rfl rfl) (.u rfl) ?_
  refine ln rfl (.f rfl rfl) Fx.sn33 (.s rfl) ?_
  refine cp rfl (.f rfl rfl) (.s rfl) (.u rfl) rfl ?_
  refine pkO rfl .no (.u rfl) (.s rfl) ?_
  refine .nil ?_
  refine .code ?_
  refine .cond rfl (fun c1 => ?_) (fun c1 => ?_)
  · have c1k := c1
    try simp only [decide_eq_true_eq, decide_eq_false_iff_not, Int.not_lt, Int.not_le, gt_iff_lt, ge_iff_le, Bool.or_eq_true, Bool.and_eq_true, Bool.or_eq_false_iff, Bool.and_eq_false_iff, Bool.not_eq_true', Bool.not_eq_false', Int.toNat_natCast, bne_iff_ne, beq_iff_eq, bne_eq_false_iff_eq, beq_eq_false_iff_ne, ne_eq] at c1
    refine .seq ?_
    refine Wk.rg [0, 1] rfl rfl ?_
    refine mv rfl .no (.u rfl) ?_
    refine asg rfl .no (.u rfl) ?_
    refine .nil ?_
    refine .code ?_
    refine .ret ?_
    refine We.fin0 Try.results4 (.tmp rfl .nil) ?_
    exact ⟨rfl, rfl⟩
  · have c1k := c1
    try simp only [decide_eq_true_eq, decide_eq_false_iff_not, Int.not_lt, Int.not_le, gt_iff_lt, ge_iff_le, Bool.or_eq_true, Bool.and_eq_true, Bool.or_eq_false_iff, Bool.and_eq_false_iff, Bool.not_eq_true', Bool.not_eq_false', Int.toNat_natCast, bne_iff_ne, beq_iff_eq, bne_eq_false_iff_eq, beq_eq_false_iff_ne, ne_eq] at c1
    refine .skip ?_
    refine .code ?_
    refine .seq ?_
    refine Wk.rg [0, 1, 2, 3, 4, 5, 6, 7] rfl rfl ?_
    refine mv rfl .no (.u rfl) ?_
    refine kc rfl Fx.go15 (Eva.cons (.u rfl) Eva.nil) (decode_ok xs hx _ hsx (by omega)) ?_
    rintro _ G22 μ22 hG22 ⟨e22, err22, ha22, hd22, hD22, rfl, rfl, hE22⟩
    have hE := hE.mono hG22
    have hsx := hsx.mono hG22
    refine mv rfl .no (.u rfl) ?_
    refine ex rfl .no (.u rfl) rfl ?_
    refine ex rfl .no (.u rfl) rfl ?_
    refine al rfl Fx.zr32 ?_; intro b6
    refine sw rfl (.u rfl) (.u rfl) rfl Fx.sz32 .here (by first | exact State.len | exact State.len.trans State.len.symm | exact Edit.len | exact Edit.len.trans Edit.len.symm | exact nine2_len | exact nine2_len.trans State.len.symm | rfl) (Edit.one') ?_
    refine asg rfl .no (.u rfl) ?_
    refine .nil ?_
    refine .code ?_
    refine .seq ?_
    refine Wk.rg [0, 1, 2, 3, 4, 5, 6, 7] rfl rfl ?_
    refine mv rfl .no (.u rfl) ?_
    refine kc rfl Fx.go16 (Eva.cons (.u rfl) Eva.nil) (rdecode_ok xs hx _ hsx (by omega)) ?_
    rintro _ G27 μ27 hG27 ⟨e27, err27, ha27, hd27, hD27, rfl, rfl, hE27⟩
    have hE := hE.mono hG27
    have hsx := hsx.mono hG27
    have hE22 := hE22.mono hG27
    refine mv rfl .no (.u rfl) ?_
    refine ex rfl .no (.u rfl) rfl ?_
    refine ex rfl .no (.u rfl) rfl ?_
    refine al rfl Fx.zr32 ?_; intro b8
    refine sw rfl (.u rfl) (.u rfl) rfl Fx.sz32 .here (by first | exact State.len | exact State.len.trans State.len.symm | exact Edit.len | exact Edit.len.trans Edit.len.symm | exact nine2_len | exact nine2_len.trans State.len.symm | rfl) (Edit.one') ?_
    refine asg rfl .no (.u rfl) ?_
    refine .nil ?_
    obtain ⟨rfl, rfl⟩ := hD22.det hD27
    have hln := hD22.lens
    refine .code ?_
    refine .seq ?_
    refine Wk.draw (mc := ⟨false, false⟩) [0, 1, 2, 5, 3, 4, 6, 7, 8, 9, 10, 11, 12, 13, 14, 15, 16, 17, 18, 19, 20] Fx.mix (by kernel_rfl) ?_
    refine mv rfl .no (.u rfl) ?_
    refine mv rfl .no (.u rfl) ?_
    refine lA rfl (.t rfl rfl) Fx.ag32 (.u rfl) (fun _ => RdN.own (.there (.there .here))) (fun _ => (by first | exact State.len | exact State.len.trans State.len.symm | exact Edit.len | exact Edit.len.trans Edit.len.symm | exact nine2_len | exact nine2_len.trans State.len.symm | rfl)) ?_
    refine lA rfl (.t rfl rfl) Fx.ag32 (.u rfl) (fun _ => RdN.own (.there (.there .here))) (fun _ => (by first | exact State.len | exact State.len.trans State.len.symm | exact Edit.len | exact Edit.len.trans Edit.len.symm | exact nine2_len | exact nine2_len.trans State.len.symm | rfl)) ?_
    refine kcg rfl (.t rfl rfl) Fx.go17 (Eva.cons (.u rfl) Eva.nil) (encode_ok e ha he _ hE (by omega) (by omega) (by omega)) ?_
    rintro _ G33 μ33 hG33 ⟨h33, L33, eL33, rfl, rfl, hs33⟩
    have hE := hE.mono hG33
    have hsx := hsx.mono hG33
    have hE22 := hE22.mono hG33
    have hE27 := hE27.mono hG33
    refine sB rfl (.t rfl rfl) Fx.bs33_9 (.u rfl) (fun _ => hs33.sc) ?_
    refine kcg rfl (.t rfl rfl) Fx.go18 (Eva.cons (.u rfl) Eva.nil) (Ct.frzB (rEncode_ok e ha he _ hE (by omega) (by omega) (by omega))) ?_
    rintro _ G36 μ36 hG36 ⟨h36, L36, eL36, rfl, rfl, hs36⟩
    have hE := hE.mono hG36
    have hsx := hsx.mono hG36
    have hE22 := hE22.mono hG36
    have hE27 := hE27.mono hG36
    have hs33 := hs33.mono hG36
    refine sB rfl (.t rfl rfl) Fx.bs33_9 (.u rfl) (fun _ => hs36.sc) ?_
    refine cb rfl (.t rfl rfl) (.u rfl) (.u rfl) ?_
    refine wo_b true (by rw [eL33, eL36]; simp) ?_
    refine pkA rfl .no (.u rfl) (.u rfl) ?_
    refine mv rfl .no (.u rfl) ?_
    refine lA rfl (.t rfl rfl) Fx.ag32 (.u rfl) (fun _ => RdN.own (.there .here)) (fun _ => (by first | exact State.len | exact State.len.trans State.len.symm | exact Edit.len | exact Edit.len.trans Edit.len.symm | exact nine2_len | exact nine2_len.trans State.len.symm | rfl)) ?_
    refine lA rfl (.t rfl rfl) Fx.ag32 (.u rfl) (fun _ => RdN.own .here) (fun _ => (by first | exact State.len | exact State.len.trans State.len.symm | exact Edit.len | exact Edit.len.trans Edit.len.symm | exact nine2_len | exact nine2_len.trans State.len.symm | rfl)) ?_
    refine kv rfl (.t rfl rfl) Fx.go19 (Eva.cons (.u rfl) (Eva.cons (.u rfl) Eva.nil)) (fun _ => sameEdit_ok e22 e22 _ _ _ _ _ hE22 hE27 (by omega) (by omega)) ?_
    refine wo_b true (sameE_refl _) ?_
    refine pkA rfl .no (.u rfl) (.u rfl) ?_
    refine mv rfl .no (.u rfl) ?_
    refine mv rfl (.t rfl rfl) (.u rfl) ?_
    refine mv rfl (.t rfl rfl) (.u rfl) ?_
    refine cp rfl (.t rfl rfl) (.u rfl) (.u rfl) rfl ?_
    refine pkA rfl .no (.u rfl) (.u rfl) ?_
    refine asg rfl .no (.u rfl) ?_
    refine .nil ?_
    refine .code ?_
    refine .ret ?_
    refine We.fin0 Try.results4 (.tmp rfl .nil) ?_
    exact ⟨rfl, congrArg Value.bool (by simp)⟩

end Go.Proofs.Ytnhdaaggkdegpaa

namespace Go.Proofs.Ytnhdaaggkdegpaa
set_option linter.unusedSimpArgs false
set_option linter.unusedVariables false
open Go.Tan Go.RowKit

namespace Fx
theorem co48 : Try.prog.cellsOf 48 = 40 := by kernel_rfl
theorem co27 : Try.prog.cellsOf 27 = 14 := by kernel_rfl
theorem co32 : Try.prog.cellsOf 32 = 11 := by kernel_rfl
theorem co51 : Try.prog.cellsOf 51 = 2 := by kernel_rfl
theorem co3 : Try.prog.cellsOf 3 = 1 := by kernel_rfl
theorem co24 : Try.prog.cellsOf 24 = 1 := by kernel_rfl
theorem co9 : Try.prog.cellsOf 9 = 1 := by kernel_rfl
theorem co23 : Try.prog.cellsOf 23 = 5 := by kernel_rfl
theorem co25 : Try.prog.cellsOf 25 = 5 := by kernel_rfl
theorem co46 : Try.prog.cellsOf 46 = 32 := by kernel_rfl
theorem co22 : Try.prog.cellsOf 22 = 1 := by kernel_rfl
theorem co30 : Try.prog.cellsOf 30 = 1 := by kernel_rfl
theorem co5 : Try.prog.cellsOf 5 = 1 := by kernel_rfl
end Fx
theorem VersionBack_ok (e : Edit) (ha he : Sh) (xs : List Y) (hx : Sh) (G : PM) (hE : EdR G e ha he) (hsx : SlR G 1 encY hx xs) (hb : xs.length ≤ 1048576 * 2000) (hz : ∀ m ∈ e.add, m.wf ∧ m.min.size ≤ 2097152000 ∧ m.max.size ≤ 2097152000) : Ct Try.prog 6 ([e.val ha he, hx.val xs.length] : List Value).toArray G [] (fun _ μ' u => μ' = [] ∧ u = .bool true) := by
  refine Ct.of Try.func6 rfl Try.ntmps6 rfl fun w0 hs0 => ?_
  have hlm := metas_len' (R := 2097152000) e.add hz; have hadd := hE.add
  refine .seq ?_
  refine Wk.rg [0, 1] rfl rfl ?_
  refine bx rfl (.u rfl) rfl ?_; intro b2
  refine asg rfl .no (.u rfl) ?_
  refine .nil ?_
  refine .code ?_
  refine .seq ?_
  refine Wk.rg [0, 1] rfl rfl ?_
  refine kv rfl .no Fx.go10 Eva.nil (fun _ => shown18_ok _) ?_
  refine asg rfl .no (.u rfl) ?_
  refine .nil ?_
  refine .code ?_
  refine .seq ?_
  refine .seq ?_
  refine Wk.rg [0, 1, 2, 3, 4, 5, 6, 7] rfl rfl ?_
  refine lA rfl .no Fx.ag32 (.u rfl) (fun _ => RdN.own .here) (fun _ => (by first | exact State.len | exact State.len.trans State.len.symm | exact Edit.len | exact Edit.len.trans Edit.len.symm | exact nine2_len | exact nine2_len.trans State.len.symm | rfl)) ?_
  refine kv rfl .no Fx.go14 (Eva.cons (.u rfl) Eva.nil) (fun _ => few_ok e ha he _) ?_
  refine nt rfl .no (.u rfl) ?_
  refine mv rfl .no (.u rfl) ?_
  refine mv rfl (.f rfl rfl) (.u rfl) ?_
  refine ln rfl (.f rfl rfl) Fx.sn33 (.s rfl) ?_
  refine cp rfl (.f rfl rfl) (.s rfl) (.u rfl) rfl ?_
  refine pkO rfl .no (.u rfl) (.s rfl) ?_
  refine .nil ?_
  refine .code ?_
  refine .cond rfl (fun c1 => ?_) (fun c1 => ?_)
  · have c1k := c1
    try simp only [decide_eq_true_eq, decide_eq_false_iff_not, Int.not_lt, Int.not_le, gt_iff_lt, ge_iff_le, Bool.or_eq_true, Bool.and_eq_true, Bool.or_eq_false_iff, Bool.and_eq_false_iff, Bool.not_eq_true', Bool.not_eq_false', Int.toNat_natCast, bne_iff_ne, beq_iff_eq, bne_eq_false_iff_eq, beq_eq_false_iff_ne, ne_eq] at c1
    refine .seq ?_
    refine Wk.rg [0, 1] rfl rfl ?_
    refine mv rfl .no (.u rfl) ?_
    refine asg rfl .no (.u rfl) ?_
    refine .nil ?_
    refine .code ?_
    refine .ret ?_
    refine We.fin0 Try.results6 (.tmp rfl .nil) ?_
    exact ⟨rfl, rfl⟩
  · have c1k := c1
    try simp only [decide_eq_true_eq, decide_eq_false_iff_not, Int.not_lt, Int.not_le, gt_iff_lt, ge_iff_le, Bool.or_eq_true, Bool.and_eq_true, Bool.or_eq_false_iff, Bool.and_eq_false_iff, Bool.not_eq_true', Bool.not_eq_false', Int.toNat_natCast, bne_iff_ne, beq_iff_eq, bne_eq_false_iff_eq, beq_eq_false_iff_ne, ne_eq] at c1
    refine .skip ?_
    refine .code ?_
    refine .seq ?_
    refine Wk.rg [0, 1, 2, 3, 4, 5, 6, 7, 8] rfl rfl ?_
    have hln := encE_len hE.wf (by omega) (by omega)
    refine lA rfl .no Fx.ag32 (.u rfl) (fun _ => RdN.own .here) (fun _ => (by first | exact State.len | exact State.len.trans State.len.symm | exact Edit.len | exact Edit.len.trans Edit.len.symm | exact nine2_len | exact nine2_len.trans State.len.symm | rfl)) ?_
    refine kc rfl Fx.go17 (Eva.cons (.u rfl) Eva.nil) (encode_ok e ha he _ hE (by omega) (by omega) (by omega)) ?_
    rintro _ G24 μ24 hG24 ⟨h24, L24, eL24, rfl, rfl, hs24⟩
    have hE := hE.mono hG24
    have hsx := hsx.mono hG24
    have hadd := hadd.mono hG24
    refine kc rfl Fx.go15 (Eva.cons (.u rfl) Eva.nil) (decode_ok L24 h24 _ hs24 (by rw [eL24]; omega)) ?_
    rintro _ G25 μ25 hG25 ⟨e25, err25, ha25, hd25, hD25, rfl, rfl, hE25⟩
    have hE := hE.mono hG25
    have hsx := hsx.mono hG25
    have hadd := hadd.mono hG25
    have hs24 := hs24.mono hG25
    refine mv rfl .no (.u rfl) ?_
    refine ex rfl .no (.u rfl) rfl ?_
    refine ex rfl .no (.u rfl) rfl ?_
    refine al rfl Fx.zr32 ?_; intro b6
    refine sw rfl (.u rfl) (.u rfl) rfl Fx.sz32 .here (by first | exact State.len | exact State.len.trans State.len.symm | exact Edit.len | exact Edit.len.trans Edit.len.symm | exact nine2_len | exact nine2_len.trans State.len.symm | rfl) (Edit.one') ?_
    refine asg rfl .no (.u rfl) ?_
    refine .nil ?_
    rw [eL24] at hD25
    have hln2 := hD25.lens
    refine .code ?_
    refine .seq ?_
    refine Wk.rg [0] rfl rfl ?_
    refine asg rfl .no (.u rfl) ?_
    refine .nil ?_
    refine .code ?_
    refine .seq ?_
    refine .seq ?_
    refine Wk.rg [0, 1, 2, 3] rfl rfl ?_
    refine fz rfl .no Fx.fo32_5 (.u rfl) ?_
    refine ld rfl .no Fx.ag22 (.u rfl) (fun _ => Rd.own (.there .here) (by first | exact wap_f rfl | rfl)) ?_
    refine ln rfl .no Fx.sn22 (.u rfl) ?_
    refine mv rfl .no (.u rfl) ?_
    refine .nil ?_
    refine .code ?_
    refine .block ?_
    refine Wk.lop (α := Nat) (fun k => [(8, true, .bool (fitA e k)), (31, true, .int .i64 (k : Int))]) (fun _ => [])
      (fun k Gl => (k ≤ e.add.length)) (fun k => e.add.length - k) 0 [(1, true, _), (2, true, _), (5, true, _), (6, true, _), (7, true, _), (30, true, _)] [_, _]
      (ESub.cons rfl rfl (ESub.cons rfl (by first | rfl | exact evi (by omega)) (ESub.cons rfl rfl (ESub.cons rfl rfl (ESub.cons rfl rfl (ESub.cons rfl rfl (ESub.cons rfl rfl (ESub.cons rfl rfl ESub.nil))))))))
      (MSub.cons .here rfl (MSub.cons .here rfl MSub.nil)) ?_ ?_
    · (try dsimp only) <;> (first | omega | rfl | assumption | (simp; done))
    intro k N0 Gl0 hN0 hGl0 hF0
    try dsimp only at hF0 hN0 ⊢
    have hk := hF0
    have hE := hE.mono hGl0
    have hsx := hsx.mono hGl0
    have hadd := hadd.mono hGl0
    have hs24 := hs24.mono hGl0
    have hE25 := hE25.mono hGl0
    refine .seq ?_
    refine Wk.rg [0] rfl rfl ?_
    refine cp rfl .no (.u rfl) (.u rfl) rfl ?_
    refine .nil ?_
    refine .code ?_
    refine .seq ?_
    refine .cond rfl (fun c2 => ?_) (fun c2 => ?_)
    · have c2k := c2
      try simp only [decide_eq_true_eq, decide_eq_false_iff_not, Int.not_lt, Int.not_le, gt_iff_lt, ge_iff_le, Bool.or_eq_true, Bool.and_eq_true, Bool.or_eq_false_iff, Bool.and_eq_false_iff, Bool.not_eq_true', Bool.not_eq_false', Int.toNat_natCast, bne_iff_ne, beq_iff_eq, bne_eq_false_iff_eq, beq_eq_false_iff_ne, ne_eq] at c2
      refine .skip ?_
      refine .code ?_
      refine .seq ?_
      refine .block ?_
      refine .seq ?_
      refine Wk.rg [0, 1] rfl rfl ?_
      refine mv rfl .no (.u rfl) ?_
      refine asg rfl .no (.u rfl) ?_
      refine .nil ?_
      refine .code ?_
      refine Wk.rg [0, 1, 2, 3, 4, 5, 6, 7, 8, 9, 10, 11, 12, 13, 14, 15, 16, 17, 18, 19, 20, 21, 22, 23, 24, 25, 26, 27, 28, 29, 30, 31, 32, 33, 34, 35, 36, 37, 38, 39] rfl rfl ?_
      obtain ⟨m, em⟩ := getx (k := k) (xs := e.add) (by omega)
      refine mv rfl .no (.u rfl) ?_
      refine mv rfl .no (.u rfl) ?_
      refine fz rfl (.t rfl rfl) Fx.fo32_5 (.u rfl) ?_
      refine ld rfl (.t rfl rfl) Fx.ag22 (.s rfl) (fun hc => Rd.own (.there .here) (by first | exact wap_f rfl | rfl)) ?_
      refine mv rfl (.t rfl rfl) (.u rfl) ?_
      refine ih rfl (.t rfl rfl) Fx.se22 (.s rfl) (.s rfl) (fun hc => by omega) (fun hc => by omega) (fun hc => hadd.nn (k := k) (by first | omega | (simp only [List.length_cons, List.length_nil]; omega))) ?_
      refine fa rfl (.t rfl rfl) Fx.fo48_4 (.s rfl) ?_
      refine ld rfl (.t rfl rfl) Fx.ag3 (.s rfl) (fun hc => (hadd.fat (by omega) em 4 rfl).rd) ?_
      refine cp rfl (.t rfl rfl) (.s rfl) (.u rfl) rfl ?_
      refine pkA rfl .no (.u rfl) (.s rfl) ?_
      refine mv rfl .no (.u rfl) ?_
      refine fz rfl (.t rfl rfl) Fx.fo32_5 (.u rfl) ?_
      refine ld rfl (.t rfl rfl) Fx.ag22 (.s rfl) (fun hc => Rd.own (.there .here) (by first | exact wap_f rfl | rfl)) ?_
      refine mv rfl (.t rfl rfl) (.u rfl) ?_
      refine ih rfl (.t rfl rfl) Fx.se22 (.s rfl) (.s rfl) (fun hc => by omega) (fun hc => by omega) (fun hc => hadd.nn (k := k) (by first | omega | (simp only [List.length_cons, List.length_nil]; omega))) ?_
      refine fa rfl (.t rfl rfl) Fx.fo48_5 (.s rfl) ?_
      refine ld rfl (.t rfl rfl) Fx.ag3 (.s rfl) (fun hc => (hadd.fat (by omega) em 5 rfl).rd) ?_
      refine cp rfl (.t rfl rfl) (.s rfl) (.u rfl) rfl ?_
      refine pkA rfl .no (.u rfl) (.s rfl) ?_
      refine mv rfl .no (.u rfl) ?_
      refine fz rfl (.t rfl rfl) Fx.fo32_5 (.u rfl) ?_
      refine ld rfl (.t rfl rfl) Fx.ag22 (.s rfl) (fun hc => Rd.own (.there .here) (by first | exact wap_f rfl | rfl)) ?_
      refine mv rfl (.t rfl rfl) (.u rfl) ?_
      refine ih rfl (.t rfl rfl) Fx.se22 (.s rfl) (.s rfl) (fun hc => by omega) (fun hc => by omega) (fun hc => hadd.nn (k := k) (by first | omega | (simp only [List.length_cons, List.length_nil]; omega))) ?_
      refine fa rfl (.t rfl rfl) Fx.fo48_6 (.s rfl) ?_
      refine ld rfl (.t rfl rfl) Fx.ag9 (.s rfl) (fun hc => (hadd.fat (by omega) em 6 rfl).rd) ?_
      refine ls rfl (.t rfl rfl) Fx.st9 (.s rfl) ?_
      refine cp rfl (.t rfl rfl) (.s rfl) (.u rfl) rfl ?_
      refine pkA rfl .no (.u rfl) (.s rfl) ?_
      refine mv rfl .no (.u rfl) ?_
      refine fz rfl (.t rfl rfl) Fx.fo32_5 (.u rfl) ?_
      refine ld rfl (.t rfl rfl) Fx.ag22 (.s rfl) (fun hc => Rd.own (.there .here) (by first | exact wap_f rfl | rfl)) ?_
      refine mv rfl (.t rfl rfl) (.u rfl) ?_
      refine ih rfl (.t rfl rfl) Fx.se22 (.s rfl) (.s rfl) (fun hc => by omega) (fun hc => by omega) (fun hc => hadd.nn (k := k) (by first | omega | (simp only [List.length_cons, List.length_nil]; omega))) ?_
      refine fa rfl (.t rfl rfl) Fx.fo48_7 (.s rfl) ?_
      refine ld rfl (.t rfl rfl) Fx.ag9 (.s rfl) (fun hc => (hadd.fat (by omega) em 7 rfl).rd) ?_
      refine ls rfl (.t rfl rfl) Fx.st9 (.s rfl) ?_
      refine cp rfl (.t rfl rfl) (.s rfl) (.u rfl) rfl ?_
      refine pkA rfl .no (.u rfl) (.s rfl) ?_
      refine asg rfl .no (.u rfl) ?_
      refine .nil ?_
      refine .blk ?_
      refine .code ?_
      refine Wk.rg [0, 1] rfl rfl ?_
      refine arn (((k + 1) : Nat) : Int) rfl .no (.u rfl) (.u rfl) rfl (fun _ => by omega) (fun _ => wrap_i64 (by omega) (by omega)) ?_
      refine mv rfl .no (.u rfl) ?_
      refine .nil ?_
      refine We.lpo (k + 1) ?_ ?_ ?_ ?_ ?_
      · exact (ESub.cons rfl (congrArg Value.bool (fitA_step em).symm) (ESub.cons rfl (by first | rfl | exact evi (by omega)) (ESub.cons rfl rfl (ESub.cons rfl rfl (ESub.cons rfl rfl (ESub.cons rfl rfl (ESub.cons rfl rfl (ESub.cons rfl rfl ESub.nil))))))))
      · exact (MSub.cons .here rfl (MSub.cons .here rfl MSub.nil))
      · first | omega | (dsimp only; omega)
      · exact hGl0
      · (try dsimp only) <;> (first | omega | rfl | assumption | (simp; done))
    · have c2k := c2
      try simp only [decide_eq_true_eq, decide_eq_false_iff_not, Int.not_lt, Int.not_le, gt_iff_lt, ge_iff_le, Bool.or_eq_true, Bool.and_eq_true, Bool.or_eq_false_iff, Bool.and_eq_false_iff, Bool.not_eq_true', Bool.not_eq_false', Int.toNat_natCast, bne_iff_ne, beq_iff_eq, bne_eq_false_iff_eq, beq_eq_false_iff_ne, ne_eq] at c2
      refine .exit ?_
      refine .xcode ?_
      refine .xlp ?_
      refine .xblk ?_
      refine .code ?_
      refine .seq ?_
      refine .seq ?_
      rcases hD25.back hE.wf (by omega) (by omega) (show e.add.length ≤ k by omega) with ⟨hfa, rfl, rfl⟩ | ⟨hfa, rfl, rfl⟩
      · refine Wk.rg [0, 1, 2, 3, 4, 5, 6, 7, 8, 9, 10, 11, 12] rfl rfl ?_
        refine mv rfl .no (.u rfl) ?_
        refine cp rfl .no (.u rfl) (.u rfl) rfl ?_
        refine mv rfl .no (.u rfl) ?_
        refine nb rfl .no Fx.bt4 (.u rfl) (.u rfl) ?_
        refine mv rfl .no (.u rfl) ?_
        refine mv rfl (.f rfl rfl) (.u rfl) ?_
        refine mv rfl (.f rfl rfl) (.s rfl) ?_
        refine lA rfl (.tc rfl rfl) Fx.ag32 (.u rfl) (fun _ => RdN.own .here) (fun _ => (by first | exact State.len | exact State.len.trans State.len.symm | exact Edit.len | exact Edit.len.trans Edit.len.symm | exact nine2_len | exact nine2_len.trans State.len.symm | rfl)) ?_
        refine lA rfl (.tc rfl rfl) Fx.ag32 (.u rfl) (fun _ => RdN.own (.there .here)) (fun _ => (by first | exact State.len | exact State.len.trans State.len.symm | exact Edit.len | exact Edit.len.trans Edit.len.symm | exact nine2_len | exact nine2_len.trans State.len.symm | rfl)) ?_
        refine kv rfl (.tc rfl rfl) Fx.go19 (Eva.cons (.s rfl) (Eva.cons (.s rfl) Eva.nil)) (fun hc => sameEdit_ok _ e _ _ _ _ _ hE25 hE (by omega) (by omega)) ?_
        refine nt rfl (.tc rfl rfl) (.s rfl) ?_
        refine pkA rfl (.f rfl rfl) (.s rfl) (.s rfl) ?_
        refine pkO rfl .no (.u rfl) (.s rfl) ?_
        refine .nil ?_
        refine .code ?_
        refine .cond rfl (fun c3 => ?_) (fun c3 => ?_)
        · have c3k := c3
          exfalso; rw [hfa, sameE_canon] at c3k; simp at c3k
        · have c3k := c3
          try simp only [decide_eq_true_eq, decide_eq_false_iff_not, Int.not_lt, Int.not_le, gt_iff_lt, ge_iff_le, Bool.or_eq_true, Bool.and_eq_true, Bool.or_eq_false_iff, Bool.and_eq_false_iff, Bool.not_eq_true', Bool.not_eq_false', Int.toNat_natCast, bne_iff_ne, beq_iff_eq, bne_eq_false_iff_eq, beq_eq_false_iff_ne, ne_eq] at c3
          refine .skip ?_
          refine .code ?_
          refine .seq ?_
          refine Wk.rg [0, 1, 2, 3, 4, 5, 6, 7] rfl rfl ?_
          refine mv rfl .no (.u rfl) ?_
          refine kc rfl Fx.go15 (Eva.cons (.u rfl) Eva.nil) (decode_ok xs hx _ hsx (by omega)) ?_
          rintro _ G89 μ89 hG89 ⟨e89, err89, ha89, hd89, hD89, rfl, rfl, hE89⟩
          have hE := hE.mono hG89
          have hsx := hsx.mono hG89
          have hadd := hadd.mono hG89
          have hs24 := hs24.mono hG89
          have hE25 := hE25.mono hG89
          refine mv rfl .no (.u rfl) ?_
          refine ex rfl .no (.u rfl) rfl ?_
          refine ex rfl .no (.u rfl) rfl ?_
          refine al rfl Fx.zr32 ?_; intro b10
          refine sw rfl (.u rfl) (.u rfl) rfl Fx.sz32 .here (by first | exact State.len | exact State.len.trans State.len.symm | exact Edit.len | exact Edit.len.trans Edit.len.symm | exact nine2_len | exact nine2_len.trans State.len.symm | rfl) (Edit.one') ?_
          refine asg rfl .no (.u rfl) ?_
          refine .nil ?_
          refine .code ?_
          refine .seq ?_
          have hln3 := hD89.lens
          rcases hD89 with ⟨hO, rfl⟩ | ⟨hO, rfl, rfl⟩
          
          · refine Wk.draw (mc := ⟨false, false⟩) [0, 1, 2, 3, 4, 5, 8, 9, 6, 7, 10, 11, 12, 13] Fx.mix (by kernel_rfl) ?_
            have eb := (edit_inv hO).1
            have hfe := flat_le_enc e89
            rw [eb] at hfe
            refine mv rfl .no (.u rfl) ?_
            refine mv rfl .no (.u rfl) ?_
            refine mv rfl (.t rfl rfl) (.u rfl) ?_
            refine cp rfl (.t rfl rfl) (.u rfl) (.u rfl) rfl ?_
            refine wo_b false (rfl) ?_
            refine mv rfl (.t rfl rfl) (.u rfl) ?_
            refine lA rfl (Gd.f (b := false) rfl rfl) Fx.ag32 (.u rfl) (fun _ => RdN.own .here) (fun _ => (by first | exact State.len | exact State.len.trans State.len.symm | exact Edit.len | exact Edit.len.trans Edit.len.symm | exact nine2_len | exact nine2_len.trans State.len.symm | rfl)) ?_
            refine mv rfl (Gd.f (b := false) rfl rfl) (.u rfl) ?_
            refine sB rfl (Gd.f (b := false) rfl rfl) Fx.bs33_9 (.u rfl) (fun _ => hsx.sc) ?_
            refine kcg rfl (Gd.f (b := false) rfl rfl) Fx.go17 (Eva.cons (.u rfl) Eva.nil) (encode_ok e89 ha89 hd89 _ hE89 (by omega) (by omega) (by omega)) ?_
            rintro _ G98 μ98 hG98 ⟨h98, L98, eL98, rfl, rfl, hs98⟩
            have hE := hE.mono hG98
            have hsx := hsx.mono hG98
            have hadd := hadd.mono hG98
            have hs24 := hs24.mono hG98
            have hE25 := hE25.mono hG98
            have hE89 := hE89.mono hG98
            refine sB rfl (Gd.f (b := false) rfl rfl) Fx.bs33_9 (.u rfl) (fun _ => hs98.sc) ?_
            refine cb rfl (Gd.f (b := false) rfl rfl) (.u rfl) (.u rfl) ?_
            refine pkO rfl (.t rfl rfl) (.u rfl) (.u rfl) ?_
            refine pkA rfl .no (.u rfl) (.u rfl) ?_
            refine asg rfl .no (.u rfl) ?_
            refine .nil ?_
            refine .code ?_
            refine .ret ?_
            refine We.fin0 Try.results6 (.tmp rfl .nil) ?_
            exact ⟨rfl, congrArg Value.bool (by rw [eL98, eb]; simp)⟩
          · refine Wk.draw (mc := ⟨false, false⟩) [0, 1, 2, 3, 4, 5, 8, 9, 6, 7, 10, 11, 12, 13] Fx.mix (by kernel_rfl) ?_
            refine mv rfl .no (.u rfl) ?_
            refine mv rfl .no (.u rfl) ?_
            refine mv rfl (.t rfl rfl) (.u rfl) ?_
            refine cp rfl (.t rfl rfl) (.u rfl) (.u rfl) rfl ?_
            refine wo_b true (rfl) ?_
            refine mv rfl (.t rfl rfl) (.u rfl) ?_
            refine skr (.bool false) rfl rfl (Gd.f (b := true) rfl rfl) ?_
            refine skp (.bool false) rfl rfl (Gd.f (b := true) rfl rfl) ?_
            refine skr (.bool false) rfl rfl (Gd.f (b := true) rfl rfl) ?_
            refine skc (.bool false) rfl rfl (Gd.f (b := true) rfl rfl) ?_
            refine skr (.bool false) rfl rfl (Gd.f (b := true) rfl rfl) ?_
            refine skp (.bool false) rfl rfl (Gd.f (b := true) rfl rfl) ?_
            refine pkO rfl (.t rfl rfl) (.u rfl) (.s rfl) ?_
            refine pkA rfl .no (.u rfl) (.u rfl) ?_
            refine asg rfl .no (.u rfl) ?_
            refine .nil ?_
            refine .code ?_
            refine .ret ?_
            refine We.fin0 Try.results6 (.tmp rfl .nil) ?_
            exact ⟨rfl, rfl⟩
      · refine Wk.rg [0, 1, 2, 3, 4, 5, 6, 7, 8, 9, 10, 11, 12] rfl rfl ?_
        refine mv rfl .no (.u rfl) ?_
        refine cp rfl .no (.u rfl) (.u rfl) rfl ?_
        refine mv rfl .no (.u rfl) ?_
        refine nb rfl .no Fx.bt4 (.u rfl) (.u rfl) ?_
        refine mv rfl .no (.u rfl) ?_
        refine mv rfl (.f rfl rfl) (.u rfl) ?_
        refine mv rfl (.f rfl rfl) (.s rfl) ?_
        refine lA rfl (.tc rfl rfl) Fx.ag32 (.u rfl) (fun _ => RdN.own .here) (fun _ => (by first | exact State.len | exact State.len.trans State.len.symm | exact Edit.len | exact Edit.len.trans Edit.len.symm | exact nine2_len | exact nine2_len.trans State.len.symm | rfl)) ?_
        refine lA rfl (.tc rfl rfl) Fx.ag32 (.u rfl) (fun _ => RdN.own (.there .here)) (fun _ => (by first | exact State.len | exact State.len.trans State.len.symm | exact Edit.len | exact Edit.len.trans Edit.len.symm | exact nine2_len | exact nine2_len.trans State.len.symm | rfl)) ?_
        refine kv rfl (.tc rfl rfl) Fx.go19 (Eva.cons (.s rfl) (Eva.cons (.s rfl) Eva.nil)) (fun hc => sameEdit_ok _ e _ _ _ _ _ hE25 hE (by omega) (by omega)) ?_
        refine nt rfl (.tc rfl rfl) (.s rfl) ?_
        refine pkA rfl (.f rfl rfl) (.s rfl) (.s rfl) ?_
        refine pkO rfl .no (.u rfl) (.s rfl) ?_
        refine .nil ?_
        refine .code ?_
        refine .cond rfl (fun c4 => ?_) (fun c4 => ?_)
        · have c4k := c4
          exfalso; rw [hfa] at c4k; simp at c4k
        · have c4k := c4
          try simp only [decide_eq_true_eq, decide_eq_false_iff_not, Int.not_lt, Int.not_le, gt_iff_lt, ge_iff_le, Bool.or_eq_true, Bool.and_eq_true, Bool.or_eq_false_iff, Bool.and_eq_false_iff, Bool.not_eq_true', Bool.not_eq_false', Int.toNat_natCast, bne_iff_ne, beq_iff_eq, bne_eq_false_iff_eq, beq_eq_false_iff_ne, ne_eq] at c4
          refine .skip ?_
          refine .code ?_
          refine .seq ?_
          refine Wk.rg [0, 1, 2, 3, 4, 5, 6, 7] rfl rfl ?_
          refine mv rfl .no (.u rfl) ?_
          refine kc rfl Fx.go15 (Eva.cons (.u rfl) Eva.nil) (decode_ok xs hx _ hsx (by omega)) ?_
          rintro _ G89 μ89 hG89 ⟨e89, err89, ha89, hd89, hD89, rfl, rfl, hE89⟩
          have hE := hE.mono hG89
          have hsx := hsx.mono hG89
          have hadd := hadd.mono hG89
          have hs24 := hs24.mono hG89
          have hE25 := hE25.mono hG89
          refine mv rfl .no (.u rfl) ?_
          refine ex rfl .no (.u rfl) rfl ?_
          refine ex rfl .no (.u rfl) rfl ?_
          refine al rfl Fx.zr32 ?_; intro b10
          refine sw rfl (.u rfl) (.u rfl) rfl Fx.sz32 .here (by first | exact State.len | exact State.len.trans State.len.symm | exact Edit.len | exact Edit.len.trans Edit.len.symm | exact nine2_len | exact nine2_len.trans State.len.symm | rfl) (Edit.one') ?_
          refine asg rfl .no (.u rfl) ?_
          refine .nil ?_
          refine .code ?_
          refine .seq ?_
          have hln3 := hD89.lens
          rcases hD89 with ⟨hO, rfl⟩ | ⟨hO, rfl, rfl⟩
          
          · refine Wk.draw (mc := ⟨false, false⟩) [0, 1, 2, 3, 4, 5, 8, 9, 6, 7, 10, 11, 12, 13] Fx.mix (by kernel_rfl) ?_
            have eb := (edit_inv hO).1
            have hfe := flat_le_enc e89
            rw [eb] at hfe
            refine mv rfl .no (.u rfl) ?_
            refine mv rfl .no (.u rfl) ?_
            refine mv rfl (.t rfl rfl) (.u rfl) ?_
            refine cp rfl (.t rfl rfl) (.u rfl) (.u rfl) rfl ?_
            refine wo_b false (rfl) ?_
            refine mv rfl (.t rfl rfl) (.u rfl) ?_
            refine lA rfl (Gd.f (b := false) rfl rfl) Fx.ag32 (.u rfl) (fun _ => RdN.own .here) (fun _ => (by first | exact State.len | exact State.len.trans State.len.symm | exact Edit.len | exact Edit.len.trans Edit.len.symm | exact nine2_len | exact nine2_len.trans State.len.symm | rfl)) ?_
            refine mv rfl (Gd.f (b := false) rfl rfl) (.u rfl) ?_
            refine sB rfl (Gd.f (b := false) rfl rfl) Fx.bs33_9 (.u rfl) (fun _ => hsx.sc) ?_
            refine kcg rfl (Gd.f (b := false) rfl rfl) Fx.go17 (Eva.cons (.u rfl) Eva.nil) (encode_ok e89 ha89 hd89 _ hE89 (by omega) (by omega) (by omega)) ?_
            rintro _ G98 μ98 hG98 ⟨h98, L98, eL98, rfl, rfl, hs98⟩
            have hE := hE.mono hG98
            have hsx := hsx.mono hG98
            have hadd := hadd.mono hG98
            have hs24 := hs24.mono hG98
            have hE25 := hE25.mono hG98
            have hE89 := hE89.mono hG98
            refine sB rfl (Gd.f (b := false) rfl rfl) Fx.bs33_9 (.u rfl) (fun _ => hs98.sc) ?_
            refine cb rfl (Gd.f (b := false) rfl rfl) (.u rfl) (.u rfl) ?_
            refine pkO rfl (.t rfl rfl) (.u rfl) (.u rfl) ?_
            refine pkA rfl .no (.u rfl) (.u rfl) ?_
            refine asg rfl .no (.u rfl) ?_
            refine .nil ?_
            refine .code ?_
            refine .ret ?_
            refine We.fin0 Try.results6 (.tmp rfl .nil) ?_
            exact ⟨rfl, congrArg Value.bool (by rw [eL98, eb]; simp)⟩
          · refine Wk.draw (mc := ⟨false, false⟩) [0, 1, 2, 3, 4, 5, 8, 9, 6, 7, 10, 11, 12, 13] Fx.mix (by kernel_rfl) ?_
            refine mv rfl .no (.u rfl) ?_
            refine mv rfl .no (.u rfl) ?_
            refine mv rfl (.t rfl rfl) (.u rfl) ?_
            refine cp rfl (.t rfl rfl) (.u rfl) (.u rfl) rfl ?_
            refine wo_b true (rfl) ?_
            refine mv rfl (.t rfl rfl) (.u rfl) ?_
            refine skr (.bool false) rfl rfl (Gd.f (b := true) rfl rfl) ?_
            refine skp (.bool false) rfl rfl (Gd.f (b := true) rfl rfl) ?_
            refine skr (.bool false) rfl rfl (Gd.f (b := true) rfl rfl) ?_
            refine skc (.bool false) rfl rfl (Gd.f (b := true) rfl rfl) ?_
            refine skr (.bool false) rfl rfl (Gd.f (b := true) rfl rfl) ?_
            refine skp (.bool false) rfl rfl (Gd.f (b := true) rfl rfl) ?_
            refine pkO rfl (.t rfl rfl) (.u rfl) (.s rfl) ?_
            refine pkA rfl .no (.u rfl) (.u rfl) ?_
            refine asg rfl .no (.u rfl) ?_
            refine .nil ?_
            refine .code ?_
            refine .ret ?_
            refine We.fin0 Try.results6 (.tmp rfl .nil) ?_
            exact ⟨rfl, rfl⟩

end Go.Proofs.Ytnhdaaggkdegpaa
