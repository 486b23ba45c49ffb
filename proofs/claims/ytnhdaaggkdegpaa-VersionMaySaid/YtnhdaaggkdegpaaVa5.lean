/- Lemmas and contracts, joined: Contracts of functions, walked. The arguments of the laws as plain data: whatever is handed in reads so. No condition. -/
import Derived.Test.YtnhdaaggkdegpaaVa4
import Derived.OpenShut
import Derived.JoinedCond
set_option linter.unusedSimpArgs false
set_option linter.unusedVariables false
set_option linter.unusedSectionVars false
namespace Go.Proofs.Ytnhdaaggkdegpaa
set_option linter.unusedSimpArgs false
set_option linter.unusedVariables false
open Go.Tan Go.RowKit

namespace Fx
theorem go10 : goFn Try.prog 10 = true := by kernel_rfl
theorem go11 : goFn Try.prog 11 = true := by kernel_rfl
theorem go13 : goFn Try.prog 13 = true := by kernel_rfl
theorem bt4 : boolT Try.prog 4 = true := by kernel_rfl
theorem ar52 : arE Try.prog 52 = some (2, 9, 1) := by kernel_rfl
theorem go25 : goFn Try.prog 25 = true := by kernel_rfl
theorem go26 : goFn Try.prog 26 = true := by kernel_rfl
theorem go24 : goFn Try.prog 24 = true := by kernel_rfl
theorem co48 : Try.prog.cellsOf 48 = 40 := by kernel_rfl
theorem co27 : Try.prog.cellsOf 27 = 14 := by kernel_rfl
theorem co32 : Try.prog.cellsOf 32 = 11 := by kernel_rfl
theorem co51 : Try.prog.cellsOf 51 = 2 := by kernel_rfl
theorem co3 : Try.prog.cellsOf 3 = 1 := by kernel_rfl
theorem co24 : Try.prog.cellsOf 24 = 1 := by kernel_rfl
theorem co9 : Try.prog.cellsOf 9 = 1 := by kernel_rfl
theorem co23 : Try.prog.cellsOf 23 = 5 := by kernel_rfl
theorem co25 : Try.prog.cellsOf 25 = 5 := by kernel_rfl
theorem co46 : Try.prog.cellsOf 46 = 32 := by kernel_rfl
theorem co22 : Try.prog.cellsOf 22 = 1 := by kernel_rfl
theorem co30 : Try.prog.cellsOf 30 = 1 := by kernel_rfl
theorem co5 : Try.prog.cellsOf 5 = 1 := by kernel_rfl
end Fx
theorem VersionRights_ok (s : State) (hd : Nat → Sh) (G : PM) (hs : StR G s hd) : Ct Try.prog 3 ([s.val hd] : List Value).toArray G [] (fun _ μ' u => μ' = [] ∧ u = .bool true) := by
  refine Ct.of Try.func3 rfl Try.ntmps3 rfl fun w0 hs0 => ?_
  refine .seq ?_
  refine Wk.rg [0, 1] rfl rfl ?_
  refine bx rfl (.u rfl) rfl ?_; intro b1
  refine asg rfl .no (.u rfl) ?_
  refine .nil ?_
  refine .code ?_
  refine .seq ?_
  refine Wk.rg [0, 1] rfl rfl ?_
  refine kv rfl .no Fx.go10 Eva.nil (fun _ => shown18_ok _) ?_
  refine asg rfl .no (.u rfl) ?_
  refine .nil ?_
  refine .code ?_
  refine .seq ?_
  refine .seq ?_
  refine Wk.rg [0, 1, 2] rfl rfl ?_
  refine lA rfl .no Fx.ag27 (.u rfl) (fun _ => RdN.own .here) (fun _ => (by first | exact State.len | exact State.len.trans State.len.symm | exact Edit.len | exact Edit.len.trans Edit.len.symm | exact nine2_len | exact nine2_len.trans State.len.symm | rfl)) ?_
  refine kv rfl .no Fx.go11 (Eva.cons (.u rfl) Eva.nil) (fun _ => light_ok s hd _ hs) ?_
  refine nt rfl .no (.u rfl) ?_
  refine .nil ?_
  refine .code ?_
  refine .cond rfl (fun c1 => ?_) (fun c1 => ?_)
  · have c1k := c1
    try simp only [decide_eq_true_eq, decide_eq_false_iff_not, Int.not_lt, Int.not_le, gt_iff_lt, ge_iff_le, Bool.or_eq_true, Bool.and_eq_true, Bool.or_eq_false_iff, Bool.not_eq_true', Bool.not_eq_false', Int.toNat_natCast, bne_iff_ne, beq_iff_eq, bne_eq_false_iff_eq, beq_eq_false_iff_ne, ne_eq] at c1
    refine .seq ?_
    refine Wk.rg [0, 1] rfl rfl ?_
    refine mv rfl .no (.u rfl) ?_
    refine asg rfl .no (.u rfl) ?_
    refine .nil ?_
    refine .code ?_
    refine .ret ?_
    refine We.fin0 Try.results3 (.tmp rfl .nil) ?_
    exact ⟨rfl, rfl⟩
  · have c1k := c1
    try simp only [decide_eq_true_eq, decide_eq_false_iff_not, Int.not_lt, Int.not_le, gt_iff_lt, ge_iff_le, Bool.or_eq_true, Bool.and_eq_true, Bool.or_eq_false_iff, Bool.not_eq_true', Bool.not_eq_false', Int.toNat_natCast, bne_iff_ne, beq_iff_eq, bne_eq_false_iff_eq, beq_eq_false_iff_ne, ne_eq] at c1
    refine .skip ?_
    refine .code ?_
    refine .seq ?_
    refine Wk.draw (mc := ⟨false, false⟩) [0, 1, 2, 4, 3, 5, 6, 7, 8] Fx.mix (by kernel_rfl) ?_
    refine mv rfl .no (.u rfl) ?_
    refine mv rfl .no (.u rfl) ?_
    refine lA rfl (.t rfl rfl) Fx.ag27 (.u rfl) (fun _ => RdN.own .here) (fun _ => (by first | exact State.len | exact State.len.trans State.len.symm | exact Edit.len | exact Edit.len.trans Edit.len.symm | exact nine2_len | exact nine2_len.trans State.len.symm | rfl)) ?_
    refine lA rfl (.t rfl rfl) Fx.ag27 (.u rfl) (fun _ => RdN.own .here) (fun _ => (by first | exact State.len | exact State.len.trans State.len.symm | exact Edit.len | exact Edit.len.trans Edit.len.symm | exact nine2_len | exact nine2_len.trans State.len.symm | rfl)) ?_
    refine kv rfl (.t rfl rfl) Fx.go12 (Eva.cons (.u rfl) Eva.nil) (fun _ => vRight_ok s hd _ hs) ?_
    refine kv rfl (.t rfl rfl) Fx.go13 (Eva.cons (.u rfl) Eva.nil) (fun _ => rRight_ok s hd _ hs) ?_
    refine eb rfl (.t rfl rfl) Fx.bt4 (.u rfl) (.u rfl) ?_
    refine pkA rfl .no (.u rfl) (.u rfl) ?_
    refine asg rfl .no (.u rfl) ?_
    refine .nil ?_
    refine .code ?_
    refine .ret ?_
    refine We.fin0 Try.results3 (.tmp rfl .nil) ?_
    exact ⟨rfl, congrArg Value.bool (by simp)⟩

theorem VersionLooks_ok (s : State) (hd : Nat → Sh) (G : PM) (hs : StR G s hd) (level : Int) (k1 k2 : ByteArray) : Ct Try.prog 8 ([s.val hd, .int .i64 level, .agg #[.string k1, .string k2]] : List Value).toArray G [] (fun _ μ' u => μ' = [] ∧ u = .bool true) := by
  refine Ct.of Try.func8 rfl Try.ntmps8 rfl fun w0 hs0 => ?_
  refine .seq ?_
  refine Wk.rg [0, 1, 2] rfl rfl ?_
  refine bx rfl (.u rfl) rfl ?_; intro b3
  refine bx rfl (.u rfl) rfl ?_; intro b5
  refine asg rfl .no (.u rfl) ?_
  refine .nil ?_
  refine .code ?_
  refine .seq ?_
  refine Wk.rg [0, 1] rfl rfl ?_
  refine kv rfl .no Fx.go10 Eva.nil (fun _ => shown18_ok _) ?_
  refine asg rfl .no (.u rfl) ?_
  refine .nil ?_
  refine .code ?_
  refine .seq ?_
  refine .seq ?_
  refine Wk.rg [0, 1, 2] rfl rfl ?_
  refine lA rfl .no Fx.ag27 (.u rfl) (fun _ => RdN.own (.there .here)) (fun _ => (by first | exact State.len | exact State.len.trans State.len.symm | exact Edit.len | exact Edit.len.trans Edit.len.symm | exact nine2_len | exact nine2_len.trans State.len.symm | rfl)) ?_
  refine kv rfl .no Fx.go11 (Eva.cons (.u rfl) Eva.nil) (fun _ => light_ok s hd _ hs) ?_
  refine nt rfl .no (.u rfl) ?_
  refine .nil ?_
  refine .code ?_
  refine .cond rfl (fun c1 => ?_) (fun c1 => ?_)
  · have c1k := c1
    try simp only [decide_eq_true_eq, decide_eq_false_iff_not, Int.not_lt, Int.not_le, gt_iff_lt, ge_iff_le, Bool.or_eq_true, Bool.and_eq_true, Bool.or_eq_false_iff, Bool.not_eq_true', Bool.not_eq_false', Int.toNat_natCast, bne_iff_ne, beq_iff_eq, bne_eq_false_iff_eq, beq_eq_false_iff_ne, ne_eq] at c1
    refine .seq ?_
    refine Wk.rg [0, 1] rfl rfl ?_
    refine mv rfl .no (.u rfl) ?_
    refine asg rfl .no (.u rfl) ?_
    refine .nil ?_
    refine .code ?_
    refine .ret ?_
    refine We.fin0 Try.results8 (.tmp rfl .nil) ?_
    exact ⟨rfl, rfl⟩
  · have c1k := c1
    try simp only [decide_eq_true_eq, decide_eq_false_iff_not, Int.not_lt, Int.not_le, gt_iff_lt, ge_iff_le, Bool.or_eq_true, Bool.and_eq_true, Bool.or_eq_false_iff, Bool.not_eq_true', Bool.not_eq_false', Int.toNat_natCast, bne_iff_ne, beq_iff_eq, bne_eq_false_iff_eq, beq_eq_false_iff_ne, ne_eq] at c1
    refine .skip ?_
    refine .code ?_
    refine .seq ?_
    refine Wk.draw (mc := ⟨false, false⟩) [0, 1, 2, 3, 4, 6, 7, 8, 5, 9, 10, 11, 12, 13, 14, 15, 16, 17, 18, 20, 21, 22, 23, 24, 25, 19, 26, 27, 28, 29] Fx.mix (by kernel_rfl) ?_
    have hl1 := lookM_len s k1 5; have hl2 := ovl_tot s level k1 k2
    refine mv rfl .no (.u rfl) ?_
    refine mv rfl .no (.u rfl) ?_
    refine lA rfl (.t rfl rfl) Fx.ag27 (.u rfl) (fun _ => RdN.own (.there .here)) (fun _ => (by first | exact State.len | exact State.len.trans State.len.symm | exact Edit.len | exact Edit.len.trans Edit.len.symm | exact nine2_len | exact nine2_len.trans State.len.symm | rfl)) ?_
    refine iA rfl (.t rfl rfl) Fx.ar52 (.u rfl) (.u rfl) (fun _ => by decide) (fun _ => by decide) ?_
    refine ld rfl (.t rfl rfl) Fx.ag9 (.u rfl) (fun _ => Rd.own .here (by first | exact wa_at1 (0) (by omega) (by omega) | exact ba_at1 (0) (by omega) (by omega) | exact wap_at1 (0) (by omega) (by omega) | rfl)) ?_
    refine lA rfl (.t rfl rfl) Fx.ag27 (.u rfl) (fun _ => RdN.own (.there .here)) (fun _ => (by first | exact State.len | exact State.len.trans State.len.symm | exact Edit.len | exact Edit.len.trans Edit.len.symm | exact nine2_len | exact nine2_len.trans State.len.symm | rfl)) ?_
    refine iA rfl (.t rfl rfl) Fx.ar52 (.u rfl) (.u rfl) (fun _ => by decide) (fun _ => by decide) ?_
    refine ld rfl (.t rfl rfl) Fx.ag9 (.u rfl) (fun _ => Rd.own .here (by first | exact wa_at1 (0) (by omega) (by omega) | exact ba_at1 (0) (by omega) (by omega) | exact wap_at1 (0) (by omega) (by omega) | rfl)) ?_
    refine kcg rfl (.t rfl rfl) Fx.go25 (Eva.cons (.u rfl) (Eva.cons (.u rfl) Eva.nil)) (look_ok s hd _ hs (by omega) k1) ?_
    rintro _ G18 μ18 hG18 ⟨rfl, h18, rfl, hs18⟩
    have hs := hs.mono hG18
    refine kcg rfl (.t rfl rfl) Fx.go26 (Eva.cons (.u rfl) (Eva.cons (.u rfl) Eva.nil)) (rlook_ok s hd _ hs (by omega) k1) ?_
    rintro _ G22 μ22 hG22 ⟨rfl, h22, rfl, hs22⟩
    have hs := hs.mono hG22
    have hs18 := hs18.mono hG22
    refine kv rfl (.t rfl rfl) Fx.go24 (Eva.cons (.u rfl) (Eva.cons (.u rfl) Eva.nil)) (fun _ => sameMetas_ok h18 h22 _ _ _ hs18 hs22 (lookM_wf hs) (lookM_wf hs) (by omega)) ?_
    refine wo_b true (sameM_refl _) ?_
    refine pkA rfl .no (.u rfl) (.u rfl) ?_
    refine mv rfl .no (.u rfl) ?_
    refine lA rfl (.t rfl rfl) Fx.ag27 (.u rfl) (fun _ => RdN.own (.there .here)) (fun _ => (by first | exact State.len | exact State.len.trans State.len.symm | exact Edit.len | exact Edit.len.trans Edit.len.symm | exact nine2_len | exact nine2_len.trans State.len.symm | rfl)) ?_
    refine mv rfl (.t rfl rfl) (.u rfl) ?_
    refine iA rfl (.t rfl rfl) Fx.ar52 (.u rfl) (.u rfl) (fun _ => by decide) (fun _ => by decide) ?_
    refine ld rfl (.t rfl rfl) Fx.ag9 (.u rfl) (fun _ => Rd.own .here (by first | exact wa_at1 (0) (by omega) (by omega) | exact ba_at1 (0) (by omega) (by omega) | exact wap_at1 (0) (by omega) (by omega) | rfl)) ?_
    refine iA rfl (.t rfl rfl) Fx.ar52 (.u rfl) (.u rfl) (fun _ => by decide) (fun _ => by decide) ?_
    refine ld rfl (.t rfl rfl) Fx.ag9 (.u rfl) (fun _ => Rd.own .here (by first | exact wa_at1 (1) (by omega) (by omega) | exact ba_at1 (1) (by omega) (by omega) | exact wap_at1 (1) (by omega) (by omega) | rfl)) ?_
    refine lA rfl (.t rfl rfl) Fx.ag27 (.u rfl) (fun _ => RdN.own (.there .here)) (fun _ => (by first | exact State.len | exact State.len.trans State.len.symm | exact Edit.len | exact Edit.len.trans Edit.len.symm | exact nine2_len | exact nine2_len.trans State.len.symm | rfl)) ?_
    refine mv rfl (.t rfl rfl) (.u rfl) ?_
    refine iA rfl (.t rfl rfl) Fx.ar52 (.u rfl) (.u rfl) (fun _ => by decide) (fun _ => by decide) ?_
    refine ld rfl (.t rfl rfl) Fx.ag9 (.u rfl) (fun _ => Rd.own .here (by first | exact wa_at1 (0) (by omega) (by omega) | exact ba_at1 (0) (by omega) (by omega) | exact wap_at1 (0) (by omega) (by omega) | rfl)) ?_
    refine iA rfl (.t rfl rfl) Fx.ar52 (.u rfl) (.u rfl) (fun _ => by decide) (fun _ => by decide) ?_
    refine ld rfl (.t rfl rfl) Fx.ag9 (.u rfl) (fun _ => Rd.own .here (by first | exact wa_at1 (1) (by omega) (by omega) | exact ba_at1 (1) (by omega) (by omega) | exact wap_at1 (1) (by omega) (by omega) | rfl)) ?_
    refine kcg rfl (.t rfl rfl) Fx.go27 (Eva.cons (.u rfl) (Eva.cons (.u rfl) (Eva.cons (.u rfl) (Eva.cons (.u rfl) Eva.nil)))) (over_ok s hd _ hs level k1 k2) ?_
    rintro _ G32 μ32 hG32 ⟨rfl, h32, rfl, hs32⟩
    have hs := hs.mono hG32
    have hs18 := hs18.mono hG32
    have hs22 := hs22.mono hG32
    refine kcg rfl (.t rfl rfl) Fx.go28 (Eva.cons (.u rfl) (Eva.cons (.u rfl) (Eva.cons (.u rfl) (Eva.cons (.u rfl) Eva.nil)))) (rover_ok s hd _ hs level k1 k2) ?_
    rintro _ G39 μ39 hG39 ⟨rfl, h39, rfl, hs39⟩
    have hs := hs.mono hG39
    have hs18 := hs18.mono hG39
    have hs22 := hs22.mono hG39
    have hs32 := hs32.mono hG39
    refine kv rfl (.t rfl rfl) Fx.go24 (Eva.cons (.u rfl) (Eva.cons (.u rfl) Eva.nil)) (fun _ => sameMetas_ok h32 h39 _ _ _ hs32 hs39 (ovl_wf hs) (ovl_wf hs) (by omega)) ?_
    refine pkA rfl .no (.u rfl) (.u rfl) ?_
    refine asg rfl .no (.u rfl) ?_
    refine .nil ?_
    refine .code ?_
    refine .ret ?_
    refine We.fin0 Try.results8 (.tmp rfl .nil) ?_
    exact ⟨rfl, congrArg Value.bool (by rw [sameM_refl]; rfl)⟩

theorem VersionMay_ok (s : State) (hd : Nat → Sh) (G : PM) (hs : StR G s hd) (us : ByteArray) : Ct Try.prog 9 ([s.val hd, .string us] : List Value).toArray G [] (fun _ μ' u => μ' = [] ∧ u = .bool true) := by
  refine Ct.of Try.func9 rfl Try.ntmps9 rfl fun w0 hs0 => ?_
  refine .seq ?_
  refine Wk.rg [0, 1] rfl rfl ?_
  refine bx rfl (.u rfl) rfl ?_; intro b2
  refine asg rfl .no (.u rfl) ?_
  refine .nil ?_
  refine .code ?_
  refine .seq ?_
  refine Wk.rg [0, 1] rfl rfl ?_
  refine kv rfl .no Fx.go10 Eva.nil (fun _ => shown18_ok _) ?_
  refine asg rfl .no (.u rfl) ?_
  refine .nil ?_
  refine .code ?_
  refine .seq ?_
  refine .seq ?_
  refine Wk.rg [0, 1, 2, 3, 4, 5, 6, 7] rfl rfl ?_
  refine lA rfl .no Fx.ag27 (.u rfl) (fun _ => RdN.own .here) (fun _ => (by first | exact State.len | exact State.len.trans State.len.symm | exact Edit.len | exact Edit.len.trans Edit.len.symm | exact nine2_len | exact nine2_len.trans State.len.symm | rfl)) ?_
  refine kv rfl .no Fx.go11 (Eva.cons (.u rfl) Eva.nil) (fun _ => light_ok s hd _ hs) ?_
  refine nt rfl .no (.u rfl) ?_
  refine mv rfl .no (.u rfl) ?_
  refine lA rfl (.f rfl rfl) Fx.ag27 (.u rfl) (fun _ => RdN.own .here) (fun _ => (by first | exact State.len | exact State.len.trans State.len.symm | exact Edit.len | exact Edit.len.trans Edit.len.symm | exact nine2_len | exact nine2_len.trans State.len.symm | rfl)) ?_
  refine kv rfl (.f rfl rfl) Fx.go12 (Eva.cons (.s rfl) Eva.nil) (fun hc => vRight_ok s hd _ hs) ?_
  refine nt rfl (.f rfl rfl) (.s rfl) ?_
  refine pkO rfl .no (.u rfl) (.s rfl) ?_
  refine .nil ?_
  refine .code ?_
  refine .cond rfl (fun c1 => ?_) (fun c1 => ?_)
  · have c1k := c1
    try simp only [decide_eq_true_eq, decide_eq_false_iff_not, Int.not_lt, Int.not_le, gt_iff_lt, ge_iff_le, Bool.or_eq_true, Bool.and_eq_true, Bool.or_eq_false_iff, Bool.and_eq_false_iff, Bool.not_eq_true', Bool.not_eq_false', Int.toNat_natCast, bne_iff_ne, beq_iff_eq, bne_eq_false_iff_eq, beq_eq_false_iff_ne, ne_eq] at c1
    refine .seq ?_
    refine Wk.rg [0, 1] rfl rfl ?_
    refine mv rfl .no (.u rfl) ?_
    refine asg rfl .no (.u rfl) ?_
    refine .nil ?_
    refine .code ?_
    refine .ret ?_
    refine We.fin0 Try.results9 (.tmp rfl .nil) ?_
    exact ⟨rfl, rfl⟩
  · have c1k := c1
    try simp only [decide_eq_true_eq, decide_eq_false_iff_not, Int.not_lt, Int.not_le, gt_iff_lt, ge_iff_le, Bool.or_eq_true, Bool.and_eq_true, Bool.or_eq_false_iff, Bool.and_eq_false_iff, Bool.not_eq_true', Bool.not_eq_false', Int.toNat_natCast, bne_iff_ne, beq_iff_eq, bne_eq_false_iff_eq, beq_eq_false_iff_ne, ne_eq] at c1
    refine .skip ?_
    refine .code ?_
    refine .seq ?_
    refine Wk.rg [0, 1, 2, 3] rfl rfl ?_
    have hr := rightP_of c1.2; have hlt := lookM_len s us 5
    refine lA rfl .no Fx.ag27 (.u rfl) (fun _ => RdN.own .here) (fun _ => (by first | exact State.len | exact State.len.trans State.len.symm | exact Edit.len | exact Edit.len.trans Edit.len.symm | exact nine2_len | exact nine2_len.trans State.len.symm | rfl)) ?_
    refine mv rfl .no (.u rfl) ?_
    refine kc rfl Fx.go25 (Eva.cons (.u rfl) (Eva.cons (.u rfl) Eva.nil)) (look_ok s hd _ hs (by omega) us) ?_
    rintro _ G25 μ25 hG25 ⟨rfl, h25, rfl, hs25⟩
    have hs := hs.mono hG25
    refine asg rfl .no (.u rfl) ?_
    refine .nil ?_
    refine .code ?_
    refine .seq ?_
    refine Wk.rg [0] rfl rfl ?_
    refine asg rfl .no (.u rfl) ?_
    refine .nil ?_
    refine .code ?_
    refine .seq ?_
    refine .seq ?_
    refine Wk.rg [0] rfl rfl ?_
    refine mv rfl .no (.u rfl) ?_
    refine .nil ?_
    refine .code ?_
    refine .block ?_
    refine Wk.lop (α := Nat) (fun i => [(7, true, .int .i64 ((lookM s us i).length : Int)), (26, true, .int .i64 (i : Int))]) (fun _ => [])
      (fun i Gl => (i ≤ 5)) (fun i => 5 - i) 0 [(1, true, _), (2, true, _), (5, true, _), (6, true, _)] [_]
      (ESub.cons rfl (by first | rfl | exact evi (by omega)) (ESub.cons rfl (by first | rfl | exact evi (by omega)) (ESub.cons rfl rfl (ESub.cons rfl rfl (ESub.cons rfl rfl (ESub.cons rfl rfl ESub.nil))))))
      (MSub.cons .here rfl MSub.nil) ?_ ?_
    · (try dsimp only) <;> (first | omega | rfl | assumption | (simp; done))
    intro i N0 Gl0 hN0 hGl0 hF0
    try dsimp only at hF0 hN0 ⊢
    have hi5 := hF0
    have hs := hs.mono hGl0
    have hs25 := hs25.mono hGl0
    have hli := lookM_len s us i; have hti := tot_mono s hi5
    refine .seq ?_
    refine Wk.rg [0] rfl rfl ?_
    refine cp rfl .no (.u rfl) (.u rfl) rfl ?_
    refine .nil ?_
    refine .code ?_
    refine .seq ?_
    refine .cond rfl (fun c2 => ?_) (fun c2 => ?_)
    · have c2k := c2
      try simp only [decide_eq_true_eq, decide_eq_false_iff_not, Int.not_lt, Int.not_le, gt_iff_lt, ge_iff_le, Bool.or_eq_true, Bool.and_eq_true, Bool.or_eq_false_iff, Bool.and_eq_false_iff, Bool.not_eq_true', Bool.not_eq_false', Int.toNat_natCast, bne_iff_ne, beq_iff_eq, bne_eq_false_iff_eq, beq_eq_false_iff_ne, ne_eq] at c2
      refine .skip ?_
      refine .code ?_
      refine .seq ?_
      refine .block ?_
      refine .seq ?_
      refine Wk.rg [0, 1] rfl rfl ?_
      refine mv rfl .no (.u rfl) ?_
      refine asg rfl .no (.u rfl) ?_
      refine .nil ?_
      refine .code ?_
      refine .seq ?_
      refine Wk.rg [0] rfl rfl ?_
      refine asg rfl .no (.u rfl) ?_
      refine .nil ?_
      refine .code ?_
      refine .seq ?_
      refine .seq ?_
      have hlv := hs.lv i (by omega)
      refine Wk.rg [0, 1, 2, 3, 4, 5] rfl rfl ?_
      refine mv rfl .no (.u rfl) ?_
      refine fz rfl .no Fx.fo27_0 (.u rfl) ?_
      refine iA rfl .no Fx.ar23 (.u rfl) (.u rfl) (fun _ => by omega) (fun _ => by omega) ?_
      refine ld rfl .no Fx.ag22 (.u rfl) (fun _ => Rd.own .here (s.cell_lv hd (k := i) (by omega))) ?_
      refine ln rfl .no Fx.sn22 (.u rfl) ?_
      refine mv rfl .no (.u rfl) ?_
      refine .nil ?_
      refine .code ?_
      refine .block ?_
      refine Wk.lop (α := Nat) (fun k => [(7, true, .int .i64 (((lookM s us i).length + ofN s us i k : Nat) : Int)), (9, true, .int .i64 (ofN s us i k : Int)), (34, true, .int .i64 (k : Int))]) (fun _ => [])
        (fun k Gl => (k ≤ (s.lv i).length)) (fun k => (s.lv i).length - k) 0 [(1, true, _), (2, true, _), (5, true, _), (6, true, _), (8, true, _), (26, true, _), (32, true, _), (33, true, _)] [_]
        (ESub.cons rfl (evi (by rw [ofN_zero]; rfl)) (ESub.cons rfl (evi (by rw [ofN_zero]; rfl)) (ESub.cons rfl (by first | rfl | exact evi (by omega)) (ESub.cons rfl rfl (ESub.cons rfl rfl (ESub.cons rfl rfl (ESub.cons rfl rfl (ESub.cons rfl rfl (ESub.cons rfl rfl (ESub.cons rfl rfl (ESub.cons rfl rfl ESub.nil)))))))))))
        (MSub.cons .here rfl MSub.nil) ?_ ?_
      · (try dsimp only) <;> (first | omega | rfl | assumption | (simp; done))
      intro k N1 Gl1 hN1 hGl1 hF1
      try dsimp only at hF1 hN1 ⊢
      have hk := hF1
      have hs := hs.mono hGl1
      have hs25 := hs25.mono hGl1
      have hlv := hlv.mono hGl1
      have hof := ofN_le s us i k; have hlt2 := lv_tot s (i := i) (by omega)
      refine .seq ?_
      refine Wk.rg [0] rfl rfl ?_
      refine cp rfl .no (.u rfl) (.u rfl) rfl ?_
      refine .nil ?_
      refine .code ?_
      refine .seq ?_
      refine .cond rfl (fun c3 => ?_) (fun c3 => ?_)
      · have c3k := c3
        try simp only [decide_eq_true_eq, decide_eq_false_iff_not, Int.not_lt, Int.not_le, gt_iff_lt, ge_iff_le, Bool.or_eq_true, Bool.and_eq_true, Bool.or_eq_false_iff, Bool.and_eq_false_iff, Bool.not_eq_true', Bool.not_eq_false', Int.toNat_natCast, bne_iff_ne, beq_iff_eq, bne_eq_false_iff_eq, beq_eq_false_iff_ne, ne_eq] at c3
        refine .skip ?_
        refine .code ?_
        refine .seq ?_
        refine .block ?_
        refine .seq ?_
        refine Wk.rg [0, 1, 2, 3] rfl rfl ?_
        refine ih rfl .no Fx.se22 (.u rfl) (.u rfl) (fun _ => by omega) (fun _ => by omega) (fun _ => hlv.nn (k := k) (by first | omega | (simp only [List.length_cons, List.length_nil]; omega))) ?_
        refine lA rfl .no Fx.ag48 (.u rfl) (fun _ => (hlv.gat k (by omega) (by omega)).rd) (fun _ => Meta.len _) ?_
        refine al rfl Fx.zr48 ?_; intro b11
        refine sw rfl (.u rfl) (.u rfl) rfl Fx.sz48 .here (by first | exact State.len | exact State.len.trans State.len.symm | exact Edit.len | exact Edit.len.trans Edit.len.symm | exact nine2_len | exact nine2_len.trans State.len.symm | rfl) (Meta.one _) ?_
        refine .nil ?_
        refine .code ?_
        refine .seq ?_
        refine Wk.rg [0, 1, 2, 3, 4, 5, 6, 7, 8, 9] rfl rfl ?_
        refine fz rfl .no Fx.fo48_6 (.u rfl) ?_
        refine ld rfl .no Fx.ag9 (.u rfl) (fun _ => Rd.own .here (by first | exact wap_f rfl | rfl)) ?_
        refine mv rfl .no (.u rfl) ?_
        refine cs rfl .no (.u rfl) (.u rfl) rfl ?_
        refine mv rfl .no (.u rfl) ?_
        refine mv rfl (.t rfl rfl) (.u rfl) ?_
        refine fz rfl (.t rfl rfl) Fx.fo48_7 (.u rfl) ?_
        refine ld rfl (.t rfl rfl) Fx.ag9 (.s rfl) (fun hc => Rd.own .here (by first | exact wap_f rfl | rfl)) ?_
        refine cs rfl (.t rfl rfl) (.s rfl) (.s rfl) rfl ?_
        refine pkA rfl .no (.u rfl) (.s rfl) ?_
        refine .nil ?_
        refine .code ?_
        refine .cond rfl (fun c4 => ?_) (fun c4 => ?_)
        · have c4k := c4
          try simp only [decide_eq_true_eq, decide_eq_false_iff_not, Int.not_lt, Int.not_le, gt_iff_lt, ge_iff_le, Bool.or_eq_true, Bool.and_eq_true, Bool.or_eq_false_iff, Bool.and_eq_false_iff, Bool.not_eq_true', Bool.not_eq_false', Int.toNat_natCast, bne_iff_ne, beq_iff_eq, bne_eq_false_iff_eq, beq_eq_false_iff_ne, ne_eq] at c4
          refine .seq ?_
          refine Wk.rg [0, 1, 2] rfl rfl ?_
          refine mv rfl .no (.u rfl) ?_
          refine arn ((((ofN s us i k) + 1) : Nat) : Int) rfl .no (.u rfl) (.u rfl) rfl (fun _ => by omega) (fun _ => wrap_i64 (by omega) (by omega)) ?_
          refine asg rfl .no (.u rfl) ?_
          refine .nil ?_
          refine .code ?_
          refine Wk.rg [0, 1, 2] rfl rfl ?_
          refine mv rfl .no (.u rfl) ?_
          refine arn ((((((lookM s us i).length + ofN s us i k : Nat)) + 1) : Nat) : Int) rfl .no (.u rfl) (.u rfl) rfl (fun _ => by omega) (fun _ => wrap_i64 (by omega) (by omega)) ?_
          refine asg rfl .no (.u rfl) ?_
          refine .nil ?_
          refine .blk ?_
          refine .code ?_
          refine Wk.rg [0, 1] rfl rfl ?_
          refine arn (((k + 1) : Nat) : Int) rfl .no (.u rfl) (.u rfl) rfl (fun _ => by omega) (fun _ => wrap_i64 (by omega) (by omega)) ?_
          refine mv rfl .no (.u rfl) ?_
          refine .nil ?_
          refine We.lpo (k + 1) ?_ ?_ ?_ ?_ ?_
          · exact (ESub.cons rfl (evi (by have := ofN_yes (by omega) c4k; omega)) (ESub.cons rfl (evi (by have := ofN_yes (by omega) c4k; omega)) (ESub.cons rfl (by first | rfl | exact evi (by omega)) (ESub.cons rfl rfl (ESub.cons rfl rfl (ESub.cons rfl rfl (ESub.cons rfl rfl (ESub.cons rfl rfl (ESub.cons rfl rfl (ESub.cons rfl rfl (ESub.cons rfl rfl ESub.nil)))))))))))
          · exact (MSub.cons (.there .here) rfl MSub.nil)
          · first | omega | (dsimp only; omega)
          · exact hGl1
          · (try dsimp only) <;> (first | omega | rfl | assumption | (simp; done))
        · have c4k := c4
          try simp only [decide_eq_true_eq, decide_eq_false_iff_not, Int.not_lt, Int.not_le, gt_iff_lt, ge_iff_le, Bool.or_eq_true, Bool.and_eq_true, Bool.or_eq_false_iff, Bool.and_eq_false_iff, Bool.not_eq_true', Bool.not_eq_false', Int.toNat_natCast, bne_iff_ne, beq_iff_eq, bne_eq_false_iff_eq, beq_eq_false_iff_ne, ne_eq] at c4
          refine .skip ?_
          refine .blk ?_
          refine .code ?_
          refine Wk.rg [0, 1] rfl rfl ?_
          refine arn (((k + 1) : Nat) : Int) rfl .no (.u rfl) (.u rfl) rfl (fun _ => by omega) (fun _ => wrap_i64 (by omega) (by omega)) ?_
          refine mv rfl .no (.u rfl) ?_
          refine .nil ?_
          refine We.lpo (k + 1) ?_ ?_ ?_ ?_ ?_
          · exact (ESub.cons rfl (evi (by rw [ofN_no (by omega) c4k])) (ESub.cons rfl (evi (by rw [ofN_no (by omega) c4k])) (ESub.cons rfl (by first | rfl | exact evi (by omega)) (ESub.cons rfl rfl (ESub.cons rfl rfl (ESub.cons rfl rfl (ESub.cons rfl rfl (ESub.cons rfl rfl (ESub.cons rfl rfl (ESub.cons rfl rfl (ESub.cons rfl rfl ESub.nil)))))))))))
          · exact (MSub.cons (.there .here) rfl MSub.nil)
          · first | omega | (dsimp only; omega)
          · exact hGl1
          · (try dsimp only) <;> (first | omega | rfl | assumption | (simp; done))
      · have c3k := c3
        try simp only [decide_eq_true_eq, decide_eq_false_iff_not, Int.not_lt, Int.not_le, gt_iff_lt, ge_iff_le, Bool.or_eq_true, Bool.and_eq_true, Bool.or_eq_false_iff, Bool.and_eq_false_iff, Bool.not_eq_true', Bool.not_eq_false', Int.toNat_natCast, bne_iff_ne, beq_iff_eq, bne_eq_false_iff_eq, beq_eq_false_iff_ne, ne_eq] at c3
        refine .exit ?_
        refine .xcode ?_
        refine .xlp ?_
        refine .xblk ?_
        refine .code ?_
        refine .seq ?_
        refine Wk.rg [0, 1, 2, 3, 4, 5] rfl rfl ?_
        refine mv rfl .no (.u rfl) ?_
        refine cp rfl .no (.u rfl) (.u rfl) rfl ?_
        refine mv rfl .no (.u rfl) ?_
        refine mv rfl (.t rfl rfl) (.u rfl) ?_
        refine cp rfl (.t rfl rfl) (.s rfl) (.u rfl) rfl ?_
        refine pkA rfl .no (.u rfl) (.s rfl) ?_
        refine .nil ?_
        refine .code ?_
        refine .cond rfl (fun c5 => ?_) (fun c5 => ?_)
        · have c5k := c5
          exfalso; have hk5 := c5; simp at hk5; have := ofN_one (u := us) hr (show 0 < i by omega) (by omega); rw [ofN_all (k := k) (by omega)] at hk5; omega
        · have c5k := c5
          try simp only [decide_eq_true_eq, decide_eq_false_iff_not, Int.not_lt, Int.not_le, gt_iff_lt, ge_iff_le, Bool.or_eq_true, Bool.and_eq_true, Bool.or_eq_false_iff, Bool.and_eq_false_iff, Bool.not_eq_true', Bool.not_eq_false', Int.toNat_natCast, bne_iff_ne, beq_iff_eq, bne_eq_false_iff_eq, beq_eq_false_iff_ne, ne_eq] at c5
          refine .skip ?_
          refine .blk ?_
          refine .code ?_
          refine Wk.rg [0, 1] rfl rfl ?_
          refine arn (((i + 1) : Nat) : Int) rfl .no (.u rfl) (.u rfl) rfl (fun _ => by omega) (fun _ => wrap_i64 (by omega) (by omega)) ?_
          refine mv rfl .no (.u rfl) ?_
          refine .nil ?_
          refine We.lpo (i + 1) ?_ ?_ ?_ ?_ ?_
          · exact (ESub.cons rfl (evi (by rw [lookM_next (by omega), ← ofN_all (k := k) (by omega)])) (ESub.cons rfl (by first | rfl | exact evi (by omega)) (ESub.cons rfl rfl (ESub.cons rfl rfl (ESub.cons rfl rfl (ESub.cons rfl rfl ESub.nil))))))
          · exact (MSub.cons .here rfl MSub.nil)
          · first | omega | (dsimp only; omega)
          · exact (hGl0).trans hGl1
          · (try dsimp only) <;> (first | omega | rfl | assumption | (simp; done))
    · have c2k := c2
      try simp only [decide_eq_true_eq, decide_eq_false_iff_not, Int.not_lt, Int.not_le, gt_iff_lt, ge_iff_le, Bool.or_eq_true, Bool.and_eq_true, Bool.or_eq_false_iff, Bool.and_eq_false_iff, Bool.not_eq_true', Bool.not_eq_false', Int.toNat_natCast, bne_iff_ne, beq_iff_eq, bne_eq_false_iff_eq, beq_eq_false_iff_ne, ne_eq] at c2
      refine .exit ?_
      refine .xcode ?_
      refine .xlp ?_
      refine .xblk ?_
      refine .code ?_
      refine .seq ?_
      refine .seq ?_
      refine Wk.rg [0, 1, 2] rfl rfl ?_
      refine mv rfl .no (.u rfl) ?_
      refine ln rfl .no Fx.sn22 (.u rfl) ?_
      refine mv rfl .no (.u rfl) ?_
      refine .nil ?_
      refine .code ?_
      refine .block ?_
      refine Wk.lop (α := Nat) (fun j => [(62, true, .int .i64 (j : Int))]) (fun _ => [])
        (fun j Gl => (j ≤ (lookM s us 5).length)) (fun j => (lookM s us 5).length - j) 0 [(1, true, _), (5, true, _), (6, true, _), (7, true, _), (61, true, _)] [_]
        (ESub.cons rfl (by first | rfl | exact evi (by omega)) (ESub.cons rfl rfl (ESub.cons rfl rfl (ESub.cons rfl rfl (ESub.cons rfl rfl (ESub.cons rfl rfl ESub.nil))))))
        (MSub.cons .here rfl MSub.nil) ?_ ?_
      · (try dsimp only) <;> (first | omega | rfl | assumption | (simp; done))
      intro j N2 Gl2 hN2 hGl2 hF2
      try dsimp only at hF2 hN2 ⊢
      have hj := hF2
      have hs := hs.mono hGl2
      have hs25 := hs25.mono hGl2
      refine .seq ?_
      refine Wk.rg [0] rfl rfl ?_
      refine cp rfl .no (.u rfl) (.u rfl) rfl ?_
      refine .nil ?_
      refine .code ?_
      refine .seq ?_
      refine .cond rfl (fun c6 => ?_) (fun c6 => ?_)
      · have c6k := c6
        try simp only [decide_eq_true_eq, decide_eq_false_iff_not, Int.not_lt, Int.not_le, gt_iff_lt, ge_iff_le, Bool.or_eq_true, Bool.and_eq_true, Bool.or_eq_false_iff, Bool.and_eq_false_iff, Bool.not_eq_true', Bool.not_eq_false', Int.toNat_natCast, bne_iff_ne, beq_iff_eq, bne_eq_false_iff_eq, beq_eq_false_iff_ne, ne_eq] at c6
        refine .skip ?_
        refine .code ?_
        refine .seq ?_
        refine .block ?_
        refine .seq ?_
        refine Wk.rg [0, 1] rfl rfl ?_
        refine mv rfl .no (.u rfl) ?_
        refine asg rfl .no (.u rfl) ?_
        refine .nil ?_
        refine .code ?_
        refine .seq ?_
        refine Wk.draw (mc := ⟨false, false⟩) [0, 1, 2, 3, 4, 5, 6, 7, 8, 9, 10, 11, 12, 13, 14, 15, 16, 17, 18, 19, 20, 21, 22, 23, 24, 25, 26, 27, 28, 29, 30, 31, 32, 33] Fx.mix (by kernel_rfl) ?_
        have hmy := lookM_may (s := s) (u := us) (k := j) (by omega)
        unfold mayP at hmy; rw [Bool.and_eq_true] at hmy
        refine mv rfl .no (.u rfl) ?_
        refine mv rfl .no (.u rfl) ?_
        refine ih rfl .no Fx.se22 (.u rfl) (.u rfl) (fun _ => by omega) (fun _ => by omega) (fun _ => hs25.nn (k := j) (by first | omega | (simp only [List.length_cons, List.length_nil]; omega))) ?_
        refine fa rfl .no Fx.fo48_6 (.u rfl) ?_
        refine ld rfl .no Fx.ag9 (.u rfl) (fun _ => (hs25.gat j (by omega) (by omega) 6 _ rfl).rd) ?_
        refine mv rfl .no (.u rfl) ?_
        refine cs rfl .no (.u rfl) (.u rfl) rfl ?_
        refine mv rfl .no (.u rfl) ?_
        refine mv rfl (.f rfl rfl) (.u rfl) ?_
        refine mv rfl (.f rfl rfl) (.u rfl) ?_
        refine ih rfl (.f rfl rfl) Fx.se22 (.s rfl) (.s rfl) (fun hc => by omega) (fun hc => by omega) (fun hc => hs25.nn (k := j) (by first | omega | (simp only [List.length_cons, List.length_nil]; omega))) ?_
        refine fa rfl (.f rfl rfl) Fx.fo48_7 (.s rfl) ?_
        refine ld rfl (.f rfl rfl) Fx.ag9 (.s rfl) (fun hc => (hs25.gat j (by omega) (by omega) 7 _ rfl).rd) ?_
        refine mv rfl (.f rfl rfl) (.u rfl) ?_
        refine cs rfl (.f rfl rfl) (.s rfl) (.s rfl) rfl ?_
        refine pkO rfl .no (.u rfl) (.s rfl) ?_
        refine mv rfl .no (.u rfl) ?_
        refine mv rfl (.f rfl rfl) (.u rfl) ?_
        refine cp rfl (.f rfl rfl) (.s rfl) (.u rfl) rfl ?_
        refine mv rfl (.f rfl rfl) (.s rfl) ?_
        refine mv rfl (.tc rfl rfl) (.u rfl) ?_
        refine mv rfl (.tc rfl rfl) (.u rfl) ?_
        refine ih rfl (.tc rfl rfl) Fx.se22 (.s rfl) (.s rfl) (fun hc => by omega) (fun hc => by omega) (fun hc => hs25.nn (k := j) (by first | omega | (simp only [List.length_cons, List.length_nil]; omega))) ?_
        refine fa rfl (.tc rfl rfl) Fx.fo48_0 (.s rfl) ?_
        refine ld rfl (.tc rfl rfl) Fx.ag5 (.s rfl) (fun hc => (hs25.gat j (by omega) (by omega) 0 _ rfl).rd) ?_
        refine mv rfl (.tc rfl rfl) (.u rfl) ?_
        refine mv rfl (.tc rfl rfl) (.u rfl) ?_
        refine ar rfl (.tc rfl rfl) (.s rfl) (.u rfl) rfl (fun hc => wrap_i64 (by omega) (by omega)) ?_
        refine ih rfl (.tc rfl rfl) Fx.se22 (.s rfl) (.s rfl) (fun hc => by simp only [Bool.and_eq_true, decide_eq_true_eq] at hc; omega) (fun hc => by simp only [Bool.and_eq_true, decide_eq_true_eq] at hc; omega) (fun hc => hs25.nn (k := j) (by omega)) ?_
        refine fa rfl (.tc rfl rfl) Fx.fo48_0 (.s rfl) ?_
        refine ld rfl (.tc rfl rfl) Fx.ag5 (.s rfl) (fun hc => (hs25.gat (j - 1) (by simp only [Bool.and_eq_true, decide_eq_true_eq] at hc; omega) (by simp only [Bool.and_eq_true, decide_eq_true_eq] at hc; omega) 0 _ rfl).rd) ?_
        refine cp rfl (.tc rfl rfl) (.s rfl) (.s rfl) rfl ?_
        refine pkA rfl (.f rfl rfl) (.s rfl) (.s rfl) ?_
        refine pkO rfl .no (.u rfl) (.s rfl) ?_
        refine .nil ?_
        refine .code ?_
        refine .cond rfl (fun c7 => ?_) (fun c7 => ?_)
        · have c7k := c7
          exact (lookM_bad hr (by omega) hmy c7k).elim
        · have c7k := c7
          try simp only [decide_eq_true_eq, decide_eq_false_iff_not, Int.not_lt, Int.not_le, gt_iff_lt, ge_iff_le, Bool.or_eq_true, Bool.and_eq_true, Bool.or_eq_false_iff, Bool.and_eq_false_iff, Bool.not_eq_true', Bool.not_eq_false', Int.toNat_natCast, bne_iff_ne, beq_iff_eq, bne_eq_false_iff_eq, beq_eq_false_iff_ne, ne_eq] at c7
          refine .skip ?_
          refine .blk ?_
          refine .code ?_
          refine Wk.rg [0, 1] rfl rfl ?_
          refine arn (((j + 1) : Nat) : Int) rfl .no (.u rfl) (.u rfl) rfl (fun _ => by omega) (fun _ => wrap_i64 (by omega) (by omega)) ?_
          refine mv rfl .no (.u rfl) ?_
          refine .nil ?_
          refine We.lpo (j + 1) ?_ ?_ ?_ ?_ ?_
          · exact (ESub.cons rfl (by first | rfl | exact evi (by omega)) (ESub.cons rfl rfl (ESub.cons rfl rfl (ESub.cons rfl rfl (ESub.cons rfl rfl (ESub.cons rfl rfl ESub.nil))))))
          · exact (MSub.cons .here rfl MSub.nil)
          · first | omega | (dsimp only; omega)
          · exact hGl2
          · (try dsimp only) <;> (first | omega | rfl | assumption | (simp; done))
      · have c6k := c6
        try simp only [decide_eq_true_eq, decide_eq_false_iff_not, Int.not_lt, Int.not_le, gt_iff_lt, ge_iff_le, Bool.or_eq_true, Bool.and_eq_true, Bool.or_eq_false_iff, Bool.and_eq_false_iff, Bool.not_eq_true', Bool.not_eq_false', Int.toNat_natCast, bne_iff_ne, beq_iff_eq, bne_eq_false_iff_eq, beq_eq_false_iff_ne, ne_eq] at c6
        refine .exit ?_
        refine .xcode ?_
        refine .xlp ?_
        refine .xblk ?_
        refine .code ?_
        refine .seq ?_
        refine Wk.rg [0, 1, 2, 3, 4, 5, 6, 7] rfl rfl ?_
        refine mv rfl .no (.u rfl) ?_
        refine mv rfl .no (.u rfl) ?_
        refine mv rfl (.t rfl rfl) (.u rfl) ?_
        refine ln rfl (.t rfl rfl) Fx.sn22 (.u rfl) ?_
        refine mv rfl (.t rfl rfl) (.u rfl) ?_
        refine cp rfl (.t rfl rfl) (.u rfl) (.u rfl) rfl ?_
        refine pkA rfl .no (.u rfl) (.u rfl) ?_
        refine asg rfl .no (.u rfl) ?_
        refine .nil ?_
        refine .code ?_
        refine .ret ?_
        refine We.fin0 Try.results9 (.tmp rfl .nil) ?_
        obtain rfl : i = 5 := by omega
        exact ⟨rfl, congrArg Value.bool (by simp)⟩

end Go.Proofs.Ytnhdaaggkdegpaa

namespace Go.Proofs.Ytnhdaaggkdegpaa
set_option linter.unusedSimpArgs false
set_option linter.unusedVariables false
open Go.Tan Go.RowKit
set_option maxRecDepth 100000
namespace Fx
theorem by48 : Try.prog.bytesOf 48 = 112 := by kernel_rfl
theorem by51 : Try.prog.bytesOf 51 = 16 := by kernel_rfl
end Fx
section
variable {H : Type} {R : Nat} {enc : TypeId × Value → H} {W : World} {cs : List Value}
def mQ (R : Nat) (m : Meta) : Prop := m.wf ∧ m.min.size ≤ R ∧ m.max.size ≤ R
theorem meta_of (hR : R ≤ 140737488351232) (h : Rg R enc Try.prog W 48 cs) : ∃ m : Meta, cs = m.cells ∧ mQ R m := by
  have hl := h.len Try.underlying48
  rw [Fx.co48] at hl
  obtain ⟨n0, h0, w0⟩ := h.intAt Try.underlying48 0 5 0 rfl Try.underlying5 Fx.co5
  obtain ⟨n1, h1, w1⟩ := h.intAt Try.underlying48 1 24 1 rfl Try.underlying24 Fx.co24
  obtain ⟨n2, h2, w2⟩ := h.intAt Try.underlying48 2 24 2 rfl Try.underlying24 Fx.co24
  obtain ⟨n3, h3, w3⟩ := h.intAt Try.underlying48 3 24 3 rfl Try.underlying24 Fx.co24
  obtain ⟨n4, h4, w4⟩ := h.intAt Try.underlying48 4 3 4 rfl Try.underlying3 Fx.co3
  obtain ⟨n5, h5, w5⟩ := h.intAt Try.underlying48 5 3 5 rfl Try.underlying3 Fx.co3
  obtain ⟨s6, h6, w6⟩ := h.strAt Try.underlying48 6 9 6 rfl Try.underlying9 Fx.co9
  obtain ⟨s7, h7, w7⟩ := h.strAt Try.underlying48 7 9 7 rfl Try.underlying9 Fx.co9
  obtain ⟨r, hr⟩ := (h.fld Try.underlying48 8 46 8 rfl Fx.co46).ints Try.underlying46 Try.underlying5 Fx.co5
  rw [show IntKind.u8.min = 0 by decide, show IntKind.u8.max = 255 by decide] at w0
  rw [show IntKind.u64.min = 0 by decide, show IntKind.u64.max = 18446744073709551615 by decide] at w1
  rw [show IntKind.u64.min = 0 by decide, show IntKind.u64.max = 18446744073709551615 by decide] at w2
  rw [show IntKind.u64.min = 0 by decide, show IntKind.u64.max = 18446744073709551615 by decide] at w3
  rw [show IntKind.i64.min = -9223372036854775808 by decide, show IntKind.i64.max = 9223372036854775807 by decide] at w4
  rw [show IntKind.i64.min = -9223372036854775808 by decide, show IntKind.i64.max = 9223372036854775807 by decide] at w5
  refine ⟨⟨n0, n1, n2, n3, n4, n5, s6, s7, r⟩, list_eq hl fun i hi => ?_, ⟨⟨w0.1, by show n0 < _; omega⟩, ⟨w3.1, by show n3 < _; omega⟩, w4, Nat.le_trans w6 (by omega), Nat.le_trans w7 (by omega), w1, w2, w5, fun j hj => ?_⟩, w6, w7⟩
  · match i, hi with
    | 0, _ => exact h0
    | 1, _ => exact h1
    | 2, _ => exact h2
    | 3, _ => exact h3
    | 4, _ => exact h4
    | 5, _ => exact h5
    | 6, _ => exact h6
    | 7, _ => exact h7
    | n + 8, hi =>
      have hn : n < 32 := by have : n + 8 < 40 := hi; omega
      rw [show n + 8 = 8 + n by omega, take_at (hr n hn).1]
      rw [Meta.cells, List.getElem?_append_right (by simp)]
      simp [hn]
  · have w8 := (hr j hj).2; rw [show IntKind.u8.min = 0 by decide, show IntKind.u8.max = 255 by decide] at w8; exact w8
theorem gone_of (h : Rg R enc Try.prog W 51 cs) : ∃ g : Gone, cs = g.cells ∧ g.wf := by
  have hl := h.len Try.underlying51
  rw [Fx.co51] at hl
  obtain ⟨n0, h0, w0⟩ := h.intAt Try.underlying51 0 5 0 rfl Try.underlying5 Fx.co5
  obtain ⟨n1, h1, w1⟩ := h.intAt Try.underlying51 1 24 1 rfl Try.underlying24 Fx.co24
  rw [show IntKind.u8.min = 0 by decide, show IntKind.u8.max = 255 by decide] at w0
  rw [show IntKind.u64.min = 0 by decide, show IntKind.u64.max = 18446744073709551615 by decide] at w1
  refine ⟨⟨n0, n1⟩, list_eq hl fun i hi => ?_, ⟨w0.1, by show n0 < _; omega⟩, ⟨w1.1, by show n1 < _; omega⟩⟩
  match i, hi with
  | 0, _ => exact h0
  | 1, _ => exact h1
  | n + 2, hi => exact absurd hi (by show ¬ n + 2 < 2; omega)
theorem state_of (hR : R ≤ 140737488351232) (h : Rg R enc Try.prog W 27 cs) : ∃ (s : State) (hd : Nat → Sh), cs = s.cells hd ∧ StR (fun b => W.heap[b]?) s hd ∧ (u64 s.log ∧ u64 s.next ∧ u64 s.seq ∧ u64 s.least ∧ ∀ i, i < 5 → u64 (s.gens i)) ∧ ∀ i, i < 5 → ∀ m ∈ s.lv i, mQ R m := by
  have hl := h.len Try.underlying27
  rw [Fx.co27] at hl
  obtain ⟨n1, h1, w1⟩ := h.intAt Try.underlying27 1 24 5 rfl Try.underlying24 Fx.co24
  obtain ⟨n2, h2, w2⟩ := h.intAt Try.underlying27 2 24 6 rfl Try.underlying24 Fx.co24
  obtain ⟨n3, h3, w3⟩ := h.intAt Try.underlying27 3 24 7 rfl Try.underlying24 Fx.co24
  obtain ⟨n4, h4, w4⟩ := h.intAt Try.underlying27 4 24 8 rfl Try.underlying24 Fx.co24
  obtain ⟨r, hr⟩ := (h.fld Try.underlying27 5 25 9 rfl Fx.co25).ints Try.underlying25 Try.underlying24 Fx.co24
  rw [show IntKind.u64.min = 0 by decide, show IntKind.u64.max = 18446744073709551615 by decide] at w1
  rw [show IntKind.u64.min = 0 by decide, show IntKind.u64.max = 18446744073709551615 by decide] at w2
  rw [show IntKind.u64.min = 0 by decide, show IntKind.u64.max = 18446744073709551615 by decide] at w3
  rw [show IntKind.u64.min = 0 by decide, show IntKind.u64.max = 18446744073709551615 by decide] at w4
  have hlv : ∀ i, ∃ (y : Sh × List Meta), i < 5 → cs[i]? = some (y.1.val y.2.length) ∧ SlR (fun b => W.heap[b]?) 40 Meta.cells y.1 y.2 ∧ y.2.length * 112 ≤ R ∧ ∀ m ∈ y.2, mQ R m := by
    intro i
    by_cases hi : i < 5
    · obtain ⟨hd, l, e, hs, hc, hq⟩ := ((h.fld Try.underlying27 0 23 0 rfl Fx.co23).elm Try.underlying23 hi Fx.co22).sl Meta.cells (mQ R) Try.underlying22 Fx.co48 (by decide) Fx.by48 (fun cs' h' => meta_of hR h')
      have := take_at (take1 e)
      refine ⟨(hd, l), fun _ => ⟨by simpa using this, hs, Nat.le_trans (Nat.mul_le_mul_right _ hs.le) hc, hq⟩⟩
    · exact ⟨(⟨none, 0⟩, []), fun h => absurd h hi⟩
  obtain ⟨M, hM⟩ : ∃ M : Nat → Sh × List Meta, ∀ i, i < 5 → cs[i]? = some ((M i).1.val (M i).2.length) ∧ SlR (fun b => W.heap[b]?) 40 Meta.cells (M i).1 (M i).2 ∧ (M i).2.length * 112 ≤ R ∧ ∀ m ∈ (M i).2, mQ R m := ⟨fun i => Classical.choose (hlv i), fun i => Classical.choose_spec (hlv i)⟩
  refine ⟨⟨fun i => (M i).2, n1, n2, n3, n4, r⟩, fun i => (M i).1, list_eq hl fun i hi => ?_, ⟨fun i hi => (hM i hi).2.1, fun i hi => Nat.le_trans (hM i hi).2.2.1 hR, fun i hi m hm => ((hM i hi).2.2.2 m hm).1⟩, ⟨⟨w1.1, by show n1 < _; omega⟩, ⟨w2.1, by show n2 < _; omega⟩, ⟨w3.1, by show n3 < _; omega⟩, ⟨w4.1, by show n4 < _; omega⟩, fun j hj => by
    have w8 := (hr j hj).2; rw [show IntKind.u64.min = 0 by decide, show IntKind.u64.max = 18446744073709551615 by decide] at w8; exact ⟨w8.1, by show r j < _; omega⟩⟩, fun i hi => (hM i hi).2.2.2⟩
  match i, hi with
  | 0, _ => exact (hM 0 (by decide)).1
  | 1, _ => exact (hM 1 (by decide)).1
  | 2, _ => exact (hM 2 (by decide)).1
  | 3, _ => exact (hM 3 (by decide)).1
  | 4, _ => exact (hM 4 (by decide)).1
  | 5, _ => exact h1
  | 6, _ => exact h2
  | 7, _ => exact h3
  | 8, _ => exact h4
  | 9, _ => exact take_at (hr 0 (by decide)).1
  | 10, _ => exact take_at (hr 1 (by decide)).1
  | 11, _ => exact take_at (hr 2 (by decide)).1
  | 12, _ => exact take_at (hr 3 (by decide)).1
  | 13, _ => exact take_at (hr 4 (by decide)).1
  | n + 14, hi => exact absurd hi (by show ¬ n + 14 < 14; omega)
theorem edit_of (hR : R ≤ 140737488351232) (h : Rg R enc Try.prog W 32 cs) : ∃ (e : Edit) (ha hd : Sh), cs = e.cells ha hd ∧ EdR (fun b => W.heap[b]?) e ha hd ∧ e.add.length * 112 ≤ R ∧ e.drop.length * 16 ≤ R ∧ ∀ m ∈ e.add, mQ R m := by
  have hl := h.len Try.underlying32
  rw [Fx.co32] at hl
  obtain ⟨n0, h0, w0⟩ := h.intAt Try.underlying32 0 24 0 rfl Try.underlying24 Fx.co24
  obtain ⟨n1, h1, w1⟩ := h.intAt Try.underlying32 1 24 1 rfl Try.underlying24 Fx.co24
  obtain ⟨n2, h2, w2⟩ := h.intAt Try.underlying32 2 24 2 rfl Try.underlying24 Fx.co24
  obtain ⟨n3, h3, w3⟩ := h.intAt Try.underlying32 3 24 3 rfl Try.underlying24 Fx.co24
  obtain ⟨r, hr⟩ := (h.fld Try.underlying32 4 25 4 rfl Fx.co25).ints Try.underlying25 Try.underlying24 Fx.co24
  rw [show IntKind.u64.min = 0 by decide, show IntKind.u64.max = 18446744073709551615 by decide] at w0
  rw [show IntKind.u64.min = 0 by decide, show IntKind.u64.max = 18446744073709551615 by decide] at w1
  rw [show IntKind.u64.min = 0 by decide, show IntKind.u64.max = 18446744073709551615 by decide] at w2
  rw [show IntKind.u64.min = 0 by decide, show IntKind.u64.max = 18446744073709551615 by decide] at w3
  obtain ⟨ha, la, ea, hsa, hca, hqa⟩ := (h.fld Try.underlying32 5 22 9 rfl Fx.co22).sl Meta.cells (mQ R) Try.underlying22 Fx.co48 (by decide) Fx.by48 (fun cs' h' => meta_of hR h')
  obtain ⟨hd, ld, ed, hsd, hcd, hqd⟩ := (h.fld Try.underlying32 6 30 10 rfl Fx.co30).sl Gone.cells Gone.wf Try.underlying30 Fx.co51 (by decide) Fx.by51 (fun cs' h' => gone_of h')
  refine ⟨⟨n0, n1, n2, n3, r, la, ld⟩, ha, hd, list_eq hl fun i hi => ?_, ⟨hsa, hsd, ⟨w0.1, by show n0 < _; omega⟩, ⟨w1.1, by show n1 < _; omega⟩, ⟨w2.1, by show n2 < _; omega⟩, ⟨w3.1, by show n3 < _; omega⟩, fun j hj => ?_, fun m hm => (hqa m hm).1, hqd⟩, Nat.le_trans (Nat.mul_le_mul_right _ hsa.le) hca, Nat.le_trans (Nat.mul_le_mul_right _ hsd.le) hcd, hqa⟩
  rotate_left
  · have w8 := (hr j hj).2; rw [show IntKind.u64.min = 0 by decide, show IntKind.u64.max = 18446744073709551615 by decide] at w8; exact ⟨w8.1, by show r j < _; omega⟩
  match i, hi with
  | 0, _ => exact h0
  | 1, _ => exact h1
  | 2, _ => exact h2
  | 3, _ => exact h3
  | 4, _ => exact take_at (hr 0 (by decide)).1
  | 5, _ => exact take_at (hr 1 (by decide)).1
  | 6, _ => exact take_at (hr 2 (by decide)).1
  | 7, _ => exact take_at (hr 3 (by decide)).1
  | 8, _ => exact take_at (hr 4 (by decide)).1
  | 9, _ => exact take1 ea
  | 10, _ => exact take1 ed
  | n + 11, hi => exact absurd hi (by show ¬ n + 11 < 11; omega)
theorem agg_of {t : TypeId} {fs : Array Field} {base : Nat} {v : Value} (ht : Try.prog.underlying t = some (.struct fs)) (h : Value.okWide Try.prog W .any base t v) {l : List Value} (hl : v.cells.toList = l) : v = .agg l.toArray := by
  unfold Value.okWide at h
  rw [ht] at h
  obtain ⟨c, rfl, _⟩ := h
  rw [← hl]; rfl
theorem arr_of {t n e : Nat} {base : Nat} {v : Value} (ht : Try.prog.underlying t = some (.array n e)) (h : Value.okWide Try.prog W .any base t v) {l : List Value} (hl : v.cells.toList = l) : v = .agg l.toArray := by
  unfold Value.okWide at h
  rw [ht] at h
  obtain ⟨c, rfl, _⟩ := h
  rw [← hl]; rfl
theorem one_of {v u : Value} (h : v.cells.toList = [u]) (hu : u.oneCell' = true) (hn : ∀ c, v ≠ .agg c) : v = u := by
  cases v <;> first | (exact absurd rfl (hn _)) | (simp [Value.cells] at h; exact h)
theorem sl_of {t e : TypeId} {base : Nat} {v u : Value} (ht : Try.prog.underlying t = some (.slice e)) (h : Value.okWide Try.prog W .any base t v) (hl : v.cells.toList = [u]) (hu : u.oneCell' = true) : v = u := by
  refine one_of hl hu fun c hc => ?_
  subst hc
  unfold Value.okWide at h
  rw [ht] at h
  simp [Cell.okWide, ht, Cell.ok] at h
theorem str_of {t : TypeId} {base : Nat} {v u : Value} (ht : Try.prog.underlying t = some .string) (h : Value.okWide Try.prog W .any base t v) (hl : v.cells.toList = [u]) (hu : u.oneCell' = true) : v = u := by
  refine one_of hl hu fun c hc => ?_
  subst hc
  unfold Value.okWide at h
  rw [ht] at h
  simp [Cell.okWide, ht, Cell.ok] at h
theorem int_of {t : TypeId} {k : IntKind} {base : Nat} {v : Value} (ht : Try.prog.underlying t = some (.int k)) (h : Value.okWide Try.prog W .any base t v) : ∃ n, v = .int k n ∧ k.min ≤ n ∧ n ≤ k.max := by
  unfold Value.okWide at h
  rw [ht] at h
  simp only [Cell.okWide, ht] at h
  cases v <;> simp [Cell.ok, ht] at h
  obtain ⟨rfl, h1⟩ := h
  exact ⟨_, rfl, by simpa [IntKind.has] using h1⟩
end
theorem tanOwn : ownKnob Try.prog.godebug = none := by kernel_rfl
theorem tanLaid : laidOutB Try.prog = true := by kernel_rfl
end Go.Proofs.Ytnhdaaggkdegpaa
