/- Contracts of functions, walked. -/
import Derived.Test.YtnhipfnbnilleaaPickB
namespace Go.Proofs.Ytnhipfnbnilleaa
open Go.Tan Go.RowKit

set_option maxHeartbeats 1000000 in
theorem rRight_ok (s : State) (hd : Nat → Sh) (G : PM) (hs : StR G s hd) : Ct Try.prog 32 ([s.val hd] : List Value).toArray G [] (fun _ μ' u => μ' = [] ∧ u = .bool (rightS s)) := by
  refine Ct.of Try.func32 rfl Try.ntmps32 rfl fun w0 hs0 => ?_
  refine .seq ?_
  refine Wk.rg [0, 1] rfl rfl ?_
  refine bx rfl (.u rfl) rfl ?_; intro b1
  refine asg rfl .no (.u rfl) ?_
  refine .nil ?_
  refine .code ?_
  refine .seq ?_
  refine .seq ?_
  refine Wk.rg [0, 1, 2, 3, 4, 5, 6, 7, 8, 9, 10, 11, 12, 13, 14, 15, 16, 17, 18] rfl rfl ?_
  refine fz rfl .no Fx.fo35_3 (.u rfl) ?_
  refine ld rfl .no Fx.ag32 (.u rfl) (fun _ => Rd.own .here rfl) ?_
  refine cp rfl .no (.u rfl) (.u rfl) rfl ?_
  refine mv rfl .no (.u rfl) ?_
  refine fz rfl (.f rfl rfl) Fx.fo35_4 (.u rfl) ?_
  refine ld rfl (.f rfl rfl) Fx.ag32 (.s rfl) (fun _ => Rd.own .here rfl) ?_
  refine cp rfl (.f rfl rfl) (.s rfl) (.u rfl) rfl ?_
  refine pkO rfl .no (.u rfl) (.s rfl) ?_
  refine mv rfl .no (.u rfl) ?_
  refine fz rfl (.f rfl rfl) Fx.fo35_1 (.u rfl) ?_
  refine ld rfl (.f rfl rfl) Fx.ag32 (.s rfl) (fun _ => Rd.own .here rfl) ?_
  refine fz rfl (.f rfl rfl) Fx.fo35_2 (.u rfl) ?_
  refine ld rfl (.f rfl rfl) Fx.ag32 (.s rfl) (fun _ => Rd.own .here rfl) ?_
  refine cp rfl (.f rfl rfl) (.s rfl) (.s rfl) rfl ?_
  refine pkO rfl .no (.u rfl) (.s rfl) ?_
  refine mv rfl .no (.u rfl) ?_
  refine lA rfl (.f rfl rfl) Fx.ag35 (.u rfl) (fun _ => RdN.own .here) (fun _ => rfl) ?_
  refine kv rfl (.f rfl rfl) Fx.go39 (Eva.cons (.s rfl) Eva.nil) (fun hc => many_ok _ _ _ (by assumption)) ?_
  refine pkO rfl .no (.u rfl) (.s rfl) ?_
  refine .nil ?_
  refine .code ?_
  refine .cond rfl (fun c1 => ?_) (fun c1 => ?_)
  · have c1k := c1
    try simp only [decide_eq_true_eq, gt_iff_lt, Bool.or_eq_true] at c1
    refine .seq ?_
    refine Wk.rg [0] rfl rfl ?_
    refine asg rfl .no (.u rfl) ?_
    refine .nil ?_
    refine .code ?_
    refine .ret ?_
    refine We.fin0 Try.results32 (.tmp rfl .nil) ?_
    exact ⟨rfl, fin_false (rs_head c1)⟩
  · have c1k := c1
    try simp only [decide_eq_false_iff_not, Int.not_lt, gt_iff_lt, Bool.or_eq_false_iff] at c1
    refine .skip ?_
    refine .code ?_
    refine .seq ?_
    refine .seq ?_
    refine Wk.rg [0] rfl rfl ?_
    refine asg rfl .no (.u rfl) ?_
    refine .nil ?_
    refine .code ?_
    refine .block ?_
    refine Wk.lop (α := Nat) (fun i => [(3, true, .int .i64 (i : Int))]) (fun _ => [])
      (fun i Gl => i ≤ 5 ∧ ∀ j, j < i → LvOk s j (s.lv j)) (fun i => 5 - i) 0 [(1, true, _)] [.blk b1 _]
      (ESub.cons rfl rfl (ESub.cons rfl rfl ESub.nil))
      (MSub.cons .here rfl MSub.nil) ?_ ?_
    · exact ⟨by omega, fun j hj => by omega⟩
    intro i N0 Gl0 hN0 hGl0 hF0
    try dsimp only at hF0 hN0 ⊢
    obtain ⟨hi, hall⟩ := hF0
    refine .seq ?_
    refine .seq ?_
    refine Wk.rg [0, 1] rfl rfl ?_
    refine mv rfl .no (.u rfl) ?_
    refine cp rfl .no (.u rfl) (.u rfl) rfl ?_
    refine .nil ?_
    refine .code ?_
    refine .cond rfl (fun c2 => ?_) (fun c2 => ?_)
    · have c2k := c2
      try simp only [decide_eq_true_eq] at c2
      refine .skip ?_
      refine .code ?_
      refine .seq ?_
      refine .block ?_
      refine .seq ?_
      refine .seq ?_
      refine Wk.rg [0, 1, 2, 3, 4, 5, 6] rfl rfl ?_
      have hli := hs.len i (by omega)
      refine mv rfl .no (.u rfl) ?_
      refine mv rfl .no (.u rfl) ?_
      refine fz rfl .no Fx.fo35_0 (.u rfl) ?_
      refine iA rfl .no Fx.ar31 (.u rfl) (.u rfl) (fun _ => by omega) (fun _ => by omega) ?_
      refine ld rfl .no Fx.ag30 (.u rfl) (fun _ => Rd.own .here (s.cell_lv hd (k := i) (by omega))) ?_
      refine kv rfl .no Fx.go40 (Eva.cons (.u rfl) (Eva.cons (.u rfl) Eva.nil)) (fun _ => order_ok _ _ _ _ ((hs.mono hGl0).lv i (by omega)) (by omega) hli) ?_
      refine nt rfl .no (.u rfl) ?_
      refine .nil ?_
      refine .code ?_
      refine .cond rfl (fun c3 => ?_) (fun c3 => ?_)
      · have c3k := c3
        try simp only [Bool.not_eq_true'] at c3
        refine .seq ?_
        refine Wk.rg [0] rfl rfl ?_
        refine asg rfl .no (.u rfl) ?_
        refine .nil ?_
        refine .code ?_
        refine .ret ?_
        refine We.fin0 Try.results32 (.tmp rfl .nil) ?_
        exact ⟨rfl, fin_false (rs_ord (by omega) c3)⟩
      · have c3k := c3
        try simp only [Bool.not_eq_false'] at c3
        refine .skip ?_
        refine .code ?_
        refine .seq ?_
        refine Wk.rg [0] rfl rfl ?_
        refine asg rfl .no (.u rfl) ?_
        refine .nil ?_
        refine .code ?_
        refine .block ?_
        refine Wk.lop (α := Nat) (fun k => [(4, true, .int .i64 (k : Int))]) (fun _ => [])
          (fun k Gl => k ≤ (s.lv i).length ∧ ∀ j, j < k → ((s.lv i).getD j Meta.zero).level = i ∧ good s ((s.lv i).getD j Meta.zero) = true) (fun k => (s.lv i).length - k) 0 [(1, true, _), (3, true, _)] [.blk b1 _]
          (ESub.cons rfl rfl (ESub.cons rfl rfl (ESub.cons rfl rfl ESub.nil)))
          (MSub.cons .here rfl MSub.nil) ?_ ?_
        · exact ⟨by omega, fun j hj => by omega⟩
        intro k N1 Gl1 hN1 hGl1 hF1
        try dsimp only at hF1 hN1 ⊢
        obtain ⟨hk, hgood⟩ := hF1
        refine .seq ?_
        refine .seq ?_
        refine Wk.rg [0, 1, 2, 3, 4, 5, 6] rfl rfl ?_
        refine mv rfl .no (.u rfl) ?_
        refine mv rfl .no (.u rfl) ?_
        refine fz rfl .no Fx.fo35_0 (.u rfl) ?_
        refine iA rfl .no Fx.ar31 (.u rfl) (.u rfl) (fun _ => by omega) (fun _ => by omega) ?_
        refine ld rfl .no Fx.ag30 (.u rfl) (fun _ => Rd.own .here (s.cell_lv hd (k := i) (by omega))) ?_
        refine ln rfl .no Fx.sn30 (.u rfl) ?_
        refine cp rfl .no (.u rfl) (.u rfl) rfl ?_
        refine .nil ?_
        refine .code ?_
        refine .cond rfl (fun c4 => ?_) (fun c4 => ?_)
        · have c4k := c4
          try simp only [decide_eq_true_eq] at c4
          refine .skip ?_
          refine .code ?_
          refine .seq ?_
          refine .block ?_
          refine .seq ?_
          refine Wk.draw (mc := false) [0, 1, 2, 3, 4, 5, 6, 7, 8, 9, 10, 11, 12, 13, 14, 15, 16, 17, 18, 19, 20, 21, 22] Fx.mix (by kernel_rfl) ?_
          have hwf := (hs.wf i (by omega) _ (getD_mem (k := k) (by omega))).level
          refine mv rfl .no (.u rfl) ?_
          refine fz rfl .no Fx.fo35_0 (.u rfl) ?_
          refine iA rfl .no Fx.ar31 (.u rfl) (.u rfl) (fun _ => by omega) (fun _ => by omega) ?_
          refine ld rfl .no Fx.ag30 (.u rfl) (fun _ => Rd.own .here (s.cell_lv hd (k := i) (by omega))) ?_
          refine mv rfl .no (.u rfl) ?_
          refine ih rfl .no Fx.se30 (.u rfl) (.u rfl) (fun _ => by omega) (fun _ => by omega) (fun _ => (hs.lv i (by omega)).nn (k := k) (by omega)) ?_
          refine fa rfl .no Fx.fo49_0 (.u rfl) ?_
          refine ld rfl .no Fx.ag5 (.u rfl) (fun _ => ((((hs.mono hGl0).mono hGl1).lv i (by omega)).gat k (by omega) (by omega) 0 _ rfl).rd) ?_
          refine cw rfl .no Fx.cv5_3 (.u rfl) (fun _ => wrap_i64 (by omega) (by omega)) ?_
          refine mv rfl .no (.u rfl) ?_
          refine cp rfl .no (.u rfl) (.u rfl) rfl ?_
          refine mv rfl .no (.u rfl) ?_
          refine lA rfl (.f rfl rfl) Fx.ag35 (.u rfl) (fun _ => RdN.own .here) (fun _ => rfl) ?_
          refine mv rfl (.f rfl rfl) (.u rfl) ?_
          refine fz rfl (.f rfl rfl) Fx.fo35_0 (.u rfl) ?_
          refine iA rfl (.f rfl rfl) Fx.ar31 (.s rfl) (.s rfl) (fun hc => by omega) (fun hc => by omega) ?_
          refine ld rfl (.f rfl rfl) Fx.ag30 (.s rfl) (fun hc => Rd.own .here (s.cell_lv hd (k := i) (by omega))) ?_
          refine mv rfl (.f rfl rfl) (.u rfl) ?_
          refine ih rfl (.f rfl rfl) Fx.se30 (.s rfl) (.s rfl) (fun hc => by omega) (fun hc => by omega) (fun hc => (hs.lv i (by omega)).nn (k := k) (by omega)) ?_
          refine lA rfl (.f rfl rfl) Fx.ag49 (.s rfl) (fun hc => ((((hs.mono hGl0).mono hGl1).lv i (by omega)).gat k (by omega) (by omega)).rd) (fun _ => rfl) ?_
          refine kv rfl (.f rfl rfl) Fx.go41 (Eva.cons (.s rfl) (Eva.cons (.s rfl) Eva.nil)) (fun hc => good_ok _ _ _ ((hs.mono hGl0).mono hGl1) _ hwf.1) ?_
          refine nt rfl (.f rfl rfl) (.s rfl) ?_
          refine pkO rfl .no (.u rfl) (.s rfl) ?_
          refine .nil ?_
          refine .code ?_
          refine .cond rfl (fun c5 => ?_) (fun c5 => ?_)
          · have c5k := c5
            try simp only [Bool.or_eq_true, Bool.not_eq_true'] at c5
            refine .seq ?_
            refine Wk.rg [0] rfl rfl ?_
            refine asg rfl .no (.u rfl) ?_
            refine .nil ?_
            refine .code ?_
            refine .ret ?_
            refine We.fin0 Try.results32 (.tmp rfl .nil) ?_
            exact ⟨rfl, fin_false (rs_good (by omega) (by omega) c5)⟩
          · have c5k := c5
            try simp only [Bool.or_eq_false_iff, Bool.not_eq_false'] at c5
            refine .skip ?_
            refine .blk ?_
            refine .code ?_
            refine Wk.rg [0, 1, 2] rfl rfl ?_
            refine mv rfl .no (.u rfl) ?_
            refine ar rfl .no (.u rfl) (.u rfl) rfl (fun _ => wrap_i64 (by omega) (by omega)) ?_
            refine asg rfl .no (.u rfl) ?_
            refine .nil ?_
            refine We.lpo (k + 1) ?_ ?_ ?_ ?_ ?_
            · exact (ESub.cons rfl rfl (ESub.cons rfl rfl (ESub.cons rfl rfl ESub.nil)))
            · exact (MSub.cons .here rfl MSub.nil)
            · first | omega | (dsimp only; omega)
            · exact hGl1
            · exact ⟨by omega, good_step hgood c5⟩
        · have c4k := c4
          try simp only [decide_eq_false_iff_not, Int.not_lt] at c4
          refine .exit ?_
          refine .xcode ?_
          refine .xlp ?_
          refine .xblk ?_
          refine .blk ?_
          refine .code ?_
          refine Wk.rg [0, 1, 2] rfl rfl ?_
          refine mv rfl .no (.u rfl) ?_
          refine ar rfl .no (.u rfl) (.u rfl) rfl (fun _ => wrap_i64 (by omega) (by omega)) ?_
          refine asg rfl .no (.u rfl) ?_
          refine .nil ?_
          refine We.lpo (i + 1) ?_ ?_ ?_ ?_ ?_
          · exact (ESub.cons rfl rfl (ESub.cons rfl rfl ESub.nil))
          · exact (MSub.cons .here rfl MSub.nil)
          · first | omega | (dsimp only; omega)
          · exact hGl0.trans hGl1
          · exact ⟨by omega, lv_step hall c3 (by omega) hgood⟩
    · have c2k := c2
      try simp only [decide_eq_false_iff_not, Int.not_lt] at c2
      refine .exit ?_
      refine .xcode ?_
      refine .xlp ?_
      refine .xblk ?_
      refine .code ?_
      refine .seq ?_
      refine Wk.rg [0, 1, 2] rfl rfl ?_
      refine lA rfl .no Fx.ag35 (.u rfl) (fun _ => RdN.own .here) (fun _ => rfl) ?_
      refine kc rfl Fx.go42 (Eva.cons (.u rfl) Eva.nil) (all_ok _ _ _ (hs.mono hGl0) c1.2) ?_
      rintro v Ga μa hGa ⟨rfl, ha, rfl, hsa⟩
      refine asg rfl .no (.u rfl) ?_
      refine .nil ?_
      refine .code ?_
      refine .seq ?_
      refine .seq ?_
      refine Wk.rg [0] rfl rfl ?_
      have hal := allM_len s 5
      refine asg rfl .no (.u rfl) ?_
      refine .nil ?_
      refine .code ?_
      refine .block ?_
      refine Wk.lop (α := Nat) (fun p => [(6, true, .int .i64 (p : Int))]) (fun _ => [])
        (fun p Gl => p ≤ (allM s 5).length ∧ ∀ a b, a < p → b < a → ((allM s 5).getD a Meta.zero).number ≠ ((allM s 5).getD b Meta.zero).number) (fun p => (allM s 5).length - p) 0 [(5, true, _)] [.blk b1 _]
        (ESub.cons rfl rfl (ESub.cons rfl rfl ESub.nil))
        (MSub.cons .here rfl MSub.nil) ?_ ?_
      · exact ⟨by omega, fun a b ha hb => by omega⟩
      intro p N2 Gl2 hN2 hGl2 hF2
      try dsimp only at hF2 hN2 ⊢
      obtain ⟨hp, hpn⟩ := hF2
      refine .seq ?_
      refine .seq ?_
      refine Wk.rg [0, 1, 2, 3] rfl rfl ?_
      refine mv rfl .no (.u rfl) ?_
      refine mv rfl .no (.u rfl) ?_
      refine ln rfl .no Fx.sn30 (.u rfl) ?_
      refine cp rfl .no (.u rfl) (.u rfl) rfl ?_
      refine .nil ?_
      refine .code ?_
      refine .cond rfl (fun c6 => ?_) (fun c6 => ?_)
      · have c6k := c6
        try simp only [decide_eq_true_eq] at c6
        refine .skip ?_
        refine .code ?_
        refine .seq ?_
        refine .block ?_
        refine .seq ?_
        refine Wk.rg [0] rfl rfl ?_
        refine asg rfl .no (.u rfl) ?_
        refine .nil ?_
        refine .code ?_
        refine .block ?_
        refine Wk.lop (α := Nat) (fun q => [(7, true, .int .i64 (q : Int))]) (fun _ => [])
          (fun q Gl => q ≤ p ∧ ∀ b, b < q → ((allM s 5).getD p Meta.zero).number ≠ ((allM s 5).getD b Meta.zero).number) (fun q => p - q) 0 [(5, true, _), (6, true, _)] [.blk b1 _]
          (ESub.cons rfl rfl (ESub.cons rfl rfl (ESub.cons rfl rfl ESub.nil)))
          (MSub.cons .here rfl MSub.nil) ?_ ?_
        · exact ⟨by omega, fun b hb => by omega⟩
        intro q N3 Gl3 hN3 hGl3 hF3
        try dsimp only at hF3 hN3 ⊢
        obtain ⟨hq, hqn⟩ := hF3
        refine .seq ?_
        refine .seq ?_
        refine Wk.rg [0, 1, 2] rfl rfl ?_
        refine mv rfl .no (.u rfl) ?_
        refine mv rfl .no (.u rfl) ?_
        refine cp rfl .no (.u rfl) (.u rfl) rfl ?_
        refine .nil ?_
        refine .code ?_
        refine .cond rfl (fun c7 => ?_) (fun c7 => ?_)
        · have c7k := c7
          try simp only [decide_eq_true_eq] at c7
          refine .skip ?_
          refine .code ?_
          refine .seq ?_
          refine .block ?_
          refine .seq ?_
          refine Wk.draw (mc := false) [0, 1, 2, 3, 4, 5, 6, 7, 8, 9, 10] Fx.mix (by kernel_rfl) ?_
          refine mv rfl .no (.u rfl) ?_
          refine mv rfl .no (.u rfl) ?_
          refine ih rfl .no Fx.se30 (.u rfl) (.u rfl) (fun _ => by omega) (fun _ => by omega) (fun _ => hsa.nn (k := p) (by omega)) ?_
          refine fa rfl .no Fx.fo49_3 (.u rfl) ?_
          refine ld rfl .no Fx.ag32 (.u rfl) (fun _ => (((hsa.mono hGl2).mono hGl3).gat p (by omega) (by omega) 3 _ rfl).rd) ?_
          refine mv rfl .no (.u rfl) ?_
          refine mv rfl .no (.u rfl) ?_
          refine ih rfl .no Fx.se30 (.u rfl) (.u rfl) (fun _ => by omega) (fun _ => by omega) (fun _ => hsa.nn (k := q) (by omega)) ?_
          refine fa rfl .no Fx.fo49_3 (.u rfl) ?_
          refine ld rfl .no Fx.ag32 (.u rfl) (fun _ => (((hsa.mono hGl2).mono hGl3).gat q (by omega) (by omega) 3 _ rfl).rd) ?_
          refine cp rfl .no (.u rfl) (.u rfl) rfl ?_
          refine .nil ?_
          refine .code ?_
          refine .cond rfl (fun c8 => ?_) (fun c8 => ?_)
          · have c8k := c8
            try simp only [decide_eq_true_eq, decide_eq_false_iff_not, Int.not_lt, Int.not_le, gt_iff_lt, ge_iff_le, Bool.or_eq_true, Bool.and_eq_true, Bool.or_eq_false_iff, Bool.not_eq_true', Bool.not_eq_false', Int.toNat_natCast] at c8
            refine .seq ?_
            refine Wk.rg [0] rfl rfl ?_
            refine asg rfl .no (.u rfl) ?_
            refine .nil ?_
            refine .code ?_
            refine .ret ?_
            refine We.fin0 Try.results32 (.tmp rfl .nil) ?_
            exact ⟨rfl, fin_false (rs_num (by omega) (by omega) c8k)⟩
          · have c8k := c8
            try simp only [decide_eq_true_eq, decide_eq_false_iff_not, Int.not_lt, Int.not_le, gt_iff_lt, ge_iff_le, Bool.or_eq_true, Bool.and_eq_true, Bool.or_eq_false_iff, Bool.not_eq_true', Bool.not_eq_false', Int.toNat_natCast] at c8
            refine .skip ?_
            refine .blk ?_
            refine .code ?_
            refine Wk.rg [0, 1, 2] rfl rfl ?_
            refine mv rfl .no (.u rfl) ?_
            refine ar rfl .no (.u rfl) (.u rfl) rfl (fun _ => wrap_i64 (by omega) (by omega)) ?_
            refine asg rfl .no (.u rfl) ?_
            refine .nil ?_
            refine We.lpo (q + 1) ?_ ?_ ?_ ?_ ?_
            · exact (ESub.cons rfl rfl (ESub.cons rfl rfl (ESub.cons rfl rfl ESub.nil)))
            · exact (MSub.cons .here rfl MSub.nil)
            · first | omega | (dsimp only; omega)
            · exact hGl3
            · exact ⟨by omega, num_step1 hqn c8k⟩
        · have c7k := c7
          try simp only [decide_eq_false_iff_not, Int.not_lt] at c7
          refine .exit ?_
          refine .xcode ?_
          refine .xlp ?_
          refine .xblk ?_
          refine .blk ?_
          refine .code ?_
          refine Wk.rg [0, 1, 2] rfl rfl ?_
          refine mv rfl .no (.u rfl) ?_
          refine ar rfl .no (.u rfl) (.u rfl) rfl (fun _ => wrap_i64 (by omega) (by omega)) ?_
          refine asg rfl .no (.u rfl) ?_
          refine .nil ?_
          refine We.lpo (p + 1) ?_ ?_ ?_ ?_ ?_
          · exact (ESub.cons rfl rfl (ESub.cons rfl rfl ESub.nil))
          · exact (MSub.cons .here rfl MSub.nil)
          · first | omega | (dsimp only; omega)
          · exact hGl2.trans hGl3
          · exact ⟨by omega, num_step hpn (by omega) hqn⟩
      · have c6k := c6
        try simp only [decide_eq_false_iff_not, Int.not_lt] at c6
        refine .exit ?_
        refine .xcode ?_
        refine .xlp ?_
        refine .xblk ?_
        refine .code ?_
        refine .seq ?_
        refine Wk.rg [0] rfl rfl ?_
        refine asg rfl .no (.u rfl) ?_
        refine .nil ?_
        refine .code ?_
        refine .ret ?_
        refine We.fin0 Try.results32 (.tmp rfl .nil) ?_
        exact ⟨rfl, fin_true (rs_all c1 (by omega) hall (by omega) hpn)⟩

set_option maxHeartbeats 1000000 in
theorem vRight_ok (s : State) (hd : Nat → Sh) (G : PM) (hs : StR G s hd) : Ct Try.prog 24 ([s.val hd] : List Value).toArray G [] (fun _ μ' u => μ' = [] ∧ u = .bool (rightS s)) := by
  refine Ct.of Try.func24 rfl Try.ntmps24 rfl fun w0 hs0 => ?_
  refine .seq ?_
  refine Wk.rg [0, 1] rfl rfl ?_
  refine bx rfl (.u rfl) rfl ?_; intro b1
  refine asg rfl .no (.u rfl) ?_
  refine .nil ?_
  refine .code ?_
  refine .seq ?_
  refine .seq ?_
  refine Wk.rg [0, 1, 2, 3, 4, 5, 6, 7, 8, 9, 10, 11, 12] rfl rfl ?_
  refine fz rfl .no Fx.fo35_3 (.u rfl) ?_
  refine ld rfl .no Fx.ag32 (.u rfl) (fun _ => Rd.own .here rfl) ?_
  refine fz rfl .no Fx.fo35_4 (.u rfl) ?_
  refine ld rfl .no Fx.ag32 (.u rfl) (fun _ => Rd.own .here rfl) ?_
  refine mA rfl .no (.u rfl) (.u rfl) ?_
  refine cp rfl .no (.u rfl) (.u rfl) rfl ?_
  refine mv rfl .no (.u rfl) ?_
  refine fz rfl (.f rfl rfl) Fx.fo35_1 (.u rfl) ?_
  refine ld rfl (.f rfl rfl) Fx.ag32 (.s rfl) (fun _ => Rd.own .here rfl) ?_
  refine fz rfl (.f rfl rfl) Fx.fo35_2 (.u rfl) ?_
  refine ld rfl (.f rfl rfl) Fx.ag32 (.s rfl) (fun _ => Rd.own .here rfl) ?_
  refine cp rfl (.f rfl rfl) (.s rfl) (.s rfl) rfl ?_
  refine pkO rfl .no (.u rfl) (.s rfl) ?_
  refine .nil ?_
  refine .code ?_
  refine .cond rfl (fun c1 => ?_) (fun c1 => ?_)
  · have c1k := c1
    try simp only [decide_eq_true_eq, gt_iff_lt, Bool.or_eq_true] at c1
    refine .seq ?_
    refine Wk.rg [0] rfl rfl ?_
    refine asg rfl .no (.u rfl) ?_
    refine .nil ?_
    refine .code ?_
    refine .ret ?_
    refine We.fin0 Try.results24 (.tmp rfl .nil) ?_
    exact ⟨rfl, fin_false (rs_max c1)⟩
  · have c1k := c1
    try simp only [decide_eq_false_iff_not, Int.not_lt, gt_iff_lt, Bool.or_eq_false_iff] at c1
    refine .skip ?_
    refine .code ?_
    refine .seq ?_
    refine Wk.rg [0, 1] rfl rfl ?_
    refine mk rfl .u64 ?_; intro b22
    refine asg rfl .no (.u rfl) ?_
    refine .nil ?_
    refine .code ?_
    refine .seq ?_
    refine Wk.rg [0] rfl rfl ?_
    refine asg rfl .no (.u rfl) ?_
    refine .nil ?_
    refine .code ?_
    refine .seq ?_
    refine .seq ?_
    refine Wk.rg [0, 1, 2] rfl rfl ?_
    refine fz rfl .no Fx.fo35_0 (.u rfl) ?_
    refine lA rfl .no Fx.ag31 (.u rfl) (fun _ => RdN.part (n := 5) (.there .here) rfl) (fun _ => rfl) ?_
    refine mv rfl .no (.u rfl) ?_
    refine .nil ?_
    refine .code ?_
    refine .block ?_
    refine Wk.lop (α := Nat) (fun i => [(4, true, .int .i64 (1024 - tot s i)), (25, true, .int .i64 (i : Int))]) (fun i => [.mp b22 .u64 (cntM (nums (allM s i)))])
      (fun i Gl => i ≤ 5 ∧ tot s i ≤ 1024 ∧ (∀ j, j < i → LvOk s j (s.lv j)) ∧ Dist (allM s i)) (fun i => 5 - i) 0 [(1, true, _), (3, true, _), (24, true, _)] [.blk b1 _]
      (ESub.cons rfl rfl (ESub.cons rfl rfl (ESub.cons rfl rfl (ESub.cons rfl rfl (ESub.cons rfl rfl ESub.nil)))))
      (MSub.cons .here rfl (MSub.cons .here rfl MSub.nil)) ?_ ?_
    · exact ⟨by omega, by simp [tot], fun j hj => by omega, dist_nil⟩
    intro i N0 Gl0 hN0 hGl0 hF0
    try dsimp only at hF0 hN0 ⊢
    obtain ⟨hi, ht, hall, hdi⟩ := hF0
    refine .seq ?_
    refine Wk.rg [0] rfl rfl ?_
    refine cp rfl .no (.u rfl) (.u rfl) rfl ?_
    refine .nil ?_
    refine .code ?_
    refine .seq ?_
    refine .cond rfl (fun c2 => ?_) (fun c2 => ?_)
    · have c2k := c2
      try simp only [decide_eq_true_eq] at c2
      refine .skip ?_
      refine .code ?_
      refine .seq ?_
      refine .block ?_
      refine .seq ?_
      refine Wk.rg [0, 1, 2, 3] rfl rfl ?_
      have hli := hs.len i (by omega); have htn := tot_nonneg s i
      refine mv rfl .no (.u rfl) ?_
      refine ix rfl .no Fx.ar31 Fx.ag30 (.u rfl) (.u rfl) (fun _ => by omega) (fun _ => by omega) (fun _ => (s.arr_lv hd (k := i) (by omega))) ?_
      refine asg rfl .no (.u rfl) ?_
      refine asg rfl .no (.u rfl) ?_
      refine .nil ?_
      refine .code ?_
      refine .seq ?_
      refine .seq ?_
      refine Wk.rg [0, 1, 2, 3] rfl rfl ?_
      refine mv rfl .no (.u rfl) ?_
      refine ln rfl .no Fx.sn30 (.u rfl) ?_
      refine mv rfl .no (.u rfl) ?_
      refine cp rfl .no (.u rfl) (.u rfl) rfl ?_
      refine .nil ?_
      refine .code ?_
      refine .cond rfl (fun c3 => ?_) (fun c3 => ?_)
      · have c3k := c3
        try simp only [decide_eq_true_eq, gt_iff_lt] at c3
        refine .seq ?_
        refine Wk.rg [0] rfl rfl ?_
        refine asg rfl .no (.u rfl) ?_
        refine .nil ?_
        refine .code ?_
        refine .ret ?_
        refine We.fin0 Try.results24 (.tmp rfl .nil) ?_
        exact ⟨rfl, fin_false (rs_few (by omega) c3)⟩
      · have c3k := c3
        try simp only [decide_eq_false_iff_not, Int.not_lt, gt_iff_lt] at c3
        refine .skip ?_
        refine .code ?_
        refine .seq ?_
        refine Wk.rg [0, 1, 2, 3, 4] rfl rfl ?_
        refine mv rfl .no (.u rfl) ?_
        refine mv rfl .no (.u rfl) ?_
        refine ln rfl .no Fx.sn30 (.u rfl) ?_
        refine ar rfl .no (.u rfl) (.u rfl) rfl (fun _ => wrap_i64 (by omega) (by omega)) ?_
        refine asg rfl .no (.u rfl) ?_
        refine .nil ?_
        refine .code ?_
        refine .seq ?_
        refine Wk.rg [0, 1, 2] rfl rfl ?_
        refine mv rfl .no (.u rfl) ?_
        refine ln rfl .no Fx.sn30 (.u rfl) ?_
        refine mv rfl .no (.u rfl) ?_
        refine .nil ?_
        refine .code ?_
        refine .block ?_
        refine Wk.lop (α := Nat) (fun k => [(39, true, .int .i64 (k : Int))]) (fun k => [.mp b22 .u64 (cntM (nums (allM s i ++ (s.lv i).take k)))])
          (fun k Gl => Part s i k) (fun k => (s.lv i).length - k) 0 [(1, true, _), (3, true, _), (4, true, _), (5, true, _), (6, true, _), (24, true, _), (25, true, _), (37, true, _), (38, true, _)] [.blk b1 _]
          (ESub.cons rfl rfl (ESub.cons rfl rfl (ESub.cons rfl rfl (ESub.cons rfl rfl (ESub.cons rfl rfl (ESub.cons rfl rfl (ESub.cons rfl rfl (ESub.cons rfl rfl (ESub.cons rfl rfl (ESub.cons rfl rfl ESub.nil))))))))))
          (MSub.cons .here (cnt_zero s i _) (MSub.cons .here rfl MSub.nil)) ?_ ?_
        · exact Part.zero hdi
        intro k N1 Gl1 hN1 hGl1 hF1
        try dsimp only at hF1 hN1 ⊢
        have hP : Part s i k := hF1; have hkl := hP.le
        refine .seq ?_
        refine Wk.rg [0] rfl rfl ?_
        refine cp rfl .no (.u rfl) (.u rfl) rfl ?_
        refine .nil ?_
        refine .code ?_
        refine .seq ?_
        refine .cond rfl (fun c4 => ?_) (fun c4 => ?_)
        · have c4k := c4
          try simp only [decide_eq_true_eq] at c4
          refine .skip ?_
          refine .code ?_
          refine .seq ?_
          refine .block ?_
          refine .seq ?_
          refine Wk.rg [0, 1, 2, 3, 4, 5] rfl rfl ?_
          have hwf := (hs.wf i (by omega) _ (getD_mem (k := k) (by omega))).level; have hcb := cnt_bd (nums (allM s i ++ (s.lv i).take k)) ((s.lv i).getD k Meta.zero).number
          refine mv rfl .no (.u rfl) ?_
          refine ih rfl .no Fx.se30 (.u rfl) (.u rfl) (fun _ => by omega) (fun _ => by omega) (fun _ => (hs.lv i (by omega)).nn (k := k) (by omega)) ?_
          refine lA rfl .no Fx.ag49 (.u rfl) (fun _ => ((((hs.mono hGl0).mono hGl1).lv i (by omega)).gat k (by omega) (by omega)).rd) (fun _ => rfl) ?_
          refine al rfl Fx.zr49 ?_; intro b8
          refine asg rfl .no (.u rfl) ?_
          refine sw rfl (.u rfl) (.u rfl) rfl Fx.sz49 .here rfl (Meta.one _) ?_
          refine .nil ?_
          refine .code ?_
          refine .seq ?_
          refine Wk.rg [0, 1, 2, 3, 4, 5] rfl rfl ?_
          refine mv rfl .no (.u rfl) ?_
          refine fz rfl .no Fx.fo49_3 (.u rfl) ?_
          refine ld rfl .no Fx.ag32 (.u rfl) (fun _ => Rd.own .here rfl) ?_
          refine lk rfl .no Fx.mp62 Fx.zv3 (.u rfl) (.u rfl) (.there .here) (cnt_get _ _) ?_
          refine ar rfl .no (.u rfl) (.u rfl) rfl (fun _ => wrap_i64 (by omega) (by omega)) ?_
          refine mu rfl Fx.mp62 (.u rfl) (.u rfl) (.u rfl) (.there .here) ?_
          refine .nil ?_
          refine .code ?_
          refine .seq ?_
          refine Wk.draw (mc := false) [0, 1, 2, 3, 4, 5, 6, 7, 8, 9, 10, 11, 12, 13, 14, 15, 16, 17, 18, 19, 20, 21, 22, 23, 24, 25, 26, 27, 28, 29, 30] Fx.mix (by kernel_rfl) ?_
          refine fz rfl .no Fx.fo49_0 (.u rfl) ?_
          refine ld rfl .no Fx.ag5 (.u rfl) (fun _ => Rd.own (.there .here) rfl) ?_
          refine cw rfl .no Fx.cv5_3 (.u rfl) (fun _ => wrap_i64 (by omega) (by omega)) ?_
          refine mv rfl .no (.u rfl) ?_
          refine cp rfl .no (.u rfl) (.u rfl) rfl ?_
          refine mv rfl .no (.u rfl) ?_
          refine lA rfl (.f rfl rfl) Fx.ag49 (.u rfl) (fun _ => RdN.own (.there .here)) (fun _ => rfl) ?_
          refine kp rfl (.f rfl rfl) Fx.go35 (Eva.cons (.u rfl) (Eva.cons (.s rfl) Eva.nil)) (Gp.add (.there (.there .here)) Gp.nil) (fun hc hle hq => fits_ok s hd _ b1 _ RdNP.add hwf.1) ?_
          refine nt rfl (.f rfl rfl) (.s rfl) ?_
          refine pkO rfl .no (.u rfl) (.s rfl) ?_
          refine mv rfl .no (.u rfl) ?_
          refine mv rfl (.f rfl rfl) (.u rfl) ?_
          refine fz rfl (.f rfl rfl) Fx.fo49_3 (.u rfl) ?_
          refine ld rfl (.f rfl rfl) Fx.ag32 (.s rfl) (fun _ => Rd.own (.there .here) rfl) ?_
          refine lk rfl (.f rfl rfl) Fx.mp62 Fx.zv3 (.s rfl) (.s rfl) .here (cnt_upd _ _ _ _) ?_
          refine cp rfl (.f rfl rfl) (.s rfl) (.u rfl) rfl ?_
          refine pkO rfl .no (.u rfl) (.s rfl) ?_
          refine mv rfl .no (.u rfl) ?_
          refine mv rfl (.f rfl rfl) (.u rfl) ?_
          refine cp rfl (.f rfl rfl) (.s rfl) (.u rfl) rfl ?_
          refine mv rfl (.f rfl rfl) (.s rfl) ?_
          refine mv rfl (.tc rfl rfl) (.u rfl) ?_
          refine mv rfl (.tc rfl rfl) (.u rfl) ?_
          refine ar rfl (.tc rfl rfl) (.s rfl) (.u rfl) rfl (fun hc => wrap_i64 (by omega) (by omega)) ?_
          refine ih rfl (.tc rfl rfl) Fx.se30 (.s rfl) (.s rfl) (fun hc => by simp only [Bool.and_eq_true, decide_eq_true_eq] at hc; omega) (fun hc => by simp only [Bool.and_eq_true, decide_eq_true_eq] at hc; omega) (fun hc => (hs.lv i (by omega)).nn (k := k) (by omega)) ?_
          refine lA rfl (.tc rfl rfl) Fx.ag49 (.s rfl) (fun hc => ((((hs.mono hGl0).mono hGl1).lv i (by omega)).gat (k - 1) (by simp only [Bool.and_eq_true, decide_eq_true_eq] at hc; omega) (by omega)).rd) (fun _ => rfl) ?_
          refine lA rfl (.tc rfl rfl) Fx.ag49 (.u rfl) (fun _ => RdN.own (.there .here)) (fun _ => rfl) ?_
          refine kv rfl (.tc rfl rfl) Fx.go36 (Eva.cons (.s rfl) (Eva.cons (.s rfl) Eva.nil)) (fun hc => stands_ok _ _ _ (hs.wf i (by omega) _ (getD_mem (by simp only [Bool.and_eq_true, decide_eq_true_eq] at hc; omega))).level.1) ?_
          refine nt rfl (.tc rfl rfl) (.s rfl) ?_
          refine pkA rfl (.f rfl rfl) (.s rfl) (.s rfl) ?_
          refine pkO rfl .no (.u rfl) (.s rfl) ?_
          refine .nil ?_
          refine .code ?_
          refine .cond rfl (fun c5 => ?_) (fun c5 => ?_)
          · have c5k := c5
            try simp only [decide_eq_true_eq, gt_iff_lt, Bool.or_eq_true, Bool.and_eq_true, Bool.not_eq_true'] at c5
            refine .seq ?_
            refine Wk.rg [0] rfl rfl ?_
            refine asg rfl .no (.u rfl) ?_
            refine .nil ?_
            refine .code ?_
            refine .ret ?_
            refine We.fin0 Try.results24 (.tmp rfl .nil) ?_
            exact ⟨rfl, fin_false (rt_bad (by omega) (by omega) hP c5k)⟩
          · have c5k := c5
            try simp only [decide_eq_false_iff_not, Int.not_lt, gt_iff_lt, Bool.or_eq_false_iff, Bool.not_eq_false'] at c5
            refine .skip ?_
            refine .blk ?_
            refine .code ?_
            refine Wk.rg [0, 1] rfl rfl ?_
            refine ar rfl .no (.u rfl) (.u rfl) rfl (fun _ => wrap_i64 (by omega) (by omega)) ?_
            refine mv rfl .no (.u rfl) ?_
            refine .nil ?_
            have hst := rt_good (by omega) hP c5k
            refine We.lpo (k + 1) ?_ ?_ ?_ ?_ ?_
            · exact (ESub.cons rfl rfl (ESub.cons rfl rfl (ESub.cons rfl rfl (ESub.cons rfl rfl (ESub.cons rfl rfl (ESub.cons rfl rfl (ESub.cons rfl rfl (ESub.cons rfl rfl (ESub.cons rfl rfl (ESub.cons rfl rfl ESub.nil))))))))))
            · exact (MSub.cons .here (cnt_step (by omega) hst.2) (MSub.cons (.there .here) rfl MSub.nil))
            · first | omega | (dsimp only; omega)
            · exact hGl1
            · exact hst.1
        · have c4k := c4
          try simp only [decide_eq_false_iff_not, Int.not_lt] at c4
          refine .exit ?_
          refine .xcode ?_
          refine .xlp ?_
          refine .xblk ?_
          refine .blk ?_
          refine .code ?_
          refine Wk.rg [0, 1] rfl rfl ?_
          refine ar rfl .no (.u rfl) (.u rfl) rfl (fun _ => wrap_i64 (by omega) (by omega)) ?_
          refine mv rfl .no (.u rfl) ?_
          refine .nil ?_
          refine We.lpo (i + 1) ?_ ?_ ?_ ?_ ?_
          · exact (ESub.cons rfl (congrArg _ (by rw [show tot s (i + 1) = tot s i + (s.lv i).length from rfl]; omega)) (ESub.cons rfl rfl (ESub.cons rfl rfl (ESub.cons rfl rfl (ESub.cons rfl rfl ESub.nil)))))
          · exact (MSub.cons .here (cnt_next (by omega)) (MSub.cons .here rfl MSub.nil))
          · first | omega | (dsimp only; omega)
          · exact hGl0.trans hGl1
          · exact ⟨by omega, by rw [show tot s (i + 1) = tot s i + (s.lv i).length from rfl]; omega, fun j hj => (by by_cases e : j = i; (subst e; exact hP.lvOk (by omega)); exact hall j (by omega)), hP.next (by omega)⟩
    · have c2k := c2
      try simp only [decide_eq_false_iff_not, Int.not_lt] at c2
      refine .exit ?_
      refine .xcode ?_
      refine .xlp ?_
      refine .xblk ?_
      refine .code ?_
      refine .seq ?_
      refine Wk.rg [0] rfl rfl ?_
      refine asg rfl .no (.u rfl) ?_
      refine .nil ?_
      refine .code ?_
      refine .ret ?_
      refine We.fin0 Try.results24 (.tmp rfl .nil) ?_
      exact ⟨rfl, fin_true (rs_done c1 (by omega) ht hall hdi)⟩

end Go.Proofs.Ytnhipfnbnilleaa
