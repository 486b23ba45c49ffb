/- Contracts of functions, walked. -/
import Derived.Test.YtnhipfnbnilleaaPickE
namespace Go.Proofs.Ytnhipfnbnilleaa
open Go.Tan Go.RowKit

theorem opts_ok (G : PM) : Ct Try.prog 25 ([] : List Value).toArray G [] (fun _ μ' u => μ' = [] ∧ u = (Opts.mk 100 100 1 10 10 2 10).val) := by
  refine Ct.of Try.func25 rfl Try.ntmps25 rfl fun w0 hs0 => ?_
  refine .seq ?_
  refine Wk.rg [0] rfl rfl ?_
  refine al rfl Fx.zr25 ?_; intro b0
  refine .nil ?_
  refine .code ?_
  refine .seq ?_
  refine Wk.rg [0, 1, 2] rfl rfl ?_
  refine bC rfl .no Fx.bp23_0_1_2 (.cons (.u rfl) rfl (.cons (.u rfl) rfl (.cons (.u rfl) rfl .nil))) rfl ?_
  refine bC rfl .no Fx.bp25_0_1_2_3_4 (.cons (.u rfl) rfl (.cons (.u rfl) rfl (.cons (.u rfl) rfl (.cons (.u rfl) rfl (.cons (.u rfl) rfl .nil))))) rfl ?_
  refine sw rfl (.u rfl) (.u rfl) rfl Fx.sz25 .here rfl (by decide) ?_
  refine .nil ?_
  refine .code ?_
  refine .ret ?_
  refine We.fin0 Try.results25 (.cell rfl (fun w hw => run_loadVarN Fx.ag25 (RdN.own .here) rfl hw) .nil) ?_
  exact ⟨rfl, rfl⟩

theorem light_ok (s : State) (hd : Nat → Sh) (G : PM) (hs : StR G s hd) : Ct Try.prog 13 ([s.val hd] : List Value).toArray G [] (fun _ μ' u => μ' = [] ∧ u = .bool (decide (tot s 5 ≤ 300))) := by
  refine Ct.of Try.func13 rfl Try.ntmps13 rfl fun w0 hs0 => ?_
  refine .seq ?_
  refine Wk.rg [0, 1] rfl rfl ?_
  refine bx rfl (.u rfl) rfl ?_; intro b1
  refine asg rfl .no (.u rfl) ?_
  refine .nil ?_
  refine .code ?_
  refine .seq ?_
  refine Wk.rg [0] rfl rfl ?_
  refine asg rfl .no (.u rfl) ?_
  refine .nil ?_
  refine .code ?_
  refine .seq ?_
  refine .seq ?_
  refine Wk.rg [0] rfl rfl ?_
  refine mv rfl .no (.u rfl) ?_
  refine .nil ?_
  refine .code ?_
  refine .block ?_
  refine Wk.lop (α := Nat) (fun k => [(3, true, .int .i64 (300 - tot s k)), (5, true, .int .i64 (k : Int))]) (fun _ => [])
    (fun k Gl => k ≤ 5 ∧ tot s k ≤ 300) (fun k => 5 - k) 0 [(1, true, _)] [.blk b1 _]
    (ESub.cons rfl rfl (ESub.cons rfl rfl (ESub.cons rfl rfl ESub.nil)))
    (MSub.cons .here rfl MSub.nil) ?_ ?_
  · exact ⟨by omega, by simp [tot]⟩
  intro k N0 Gl0 hN0 hGl0 hF0
  try dsimp only at hF0 hN0 ⊢
  obtain ⟨hk, ht⟩ := hF0; have hn := tot_nonneg s k
  refine .seq ?_
  refine Wk.rg [0] rfl rfl ?_
  refine cp rfl .no (.u rfl) (.u rfl) rfl ?_
  refine .nil ?_
  refine .code ?_
  refine .seq ?_
  refine .cond rfl (fun c1 => ?_) (fun c1 => ?_)
  · have c1k := c1
    try simp only [decide_eq_true_eq] at c1
    refine .skip ?_
    refine .code ?_
    refine .seq ?_
    refine .block ?_
    refine .seq ?_
    refine Wk.rg [0, 1] rfl rfl ?_
    refine mv rfl .no (.u rfl) ?_
    refine asg rfl .no (.u rfl) ?_
    refine .nil ?_
    refine .code ?_
    refine .seq ?_
    refine .seq ?_
    refine Wk.rg [0, 1, 2, 3, 4, 5, 6] rfl rfl ?_
    refine mv rfl .no (.u rfl) ?_
    refine fz rfl .no Fx.fo35_0 (.u rfl) ?_
    refine iA rfl .no Fx.ar31 (.u rfl) (.u rfl) (fun _ => by omega) (fun _ => by omega) ?_
    refine ld rfl .no Fx.ag30 (.u rfl) (fun _ => Rd.own .here (s.cell_lv hd (k := k) (by omega))) ?_
    refine ln rfl .no Fx.sn30 (.u rfl) ?_
    refine mv rfl .no (.u rfl) ?_
    refine cp rfl .no (.u rfl) (.u rfl) rfl ?_
    refine .nil ?_
    refine .code ?_
    refine .cond rfl (fun c2 => ?_) (fun c2 => ?_)
    · have c2k := c2
      try simp only [decide_eq_true_eq, gt_iff_lt] at c2
      refine .seq ?_
      refine Wk.rg [0] rfl rfl ?_
      refine asg rfl .no (.u rfl) ?_
      refine .nil ?_
      refine .code ?_
      refine .ret ?_
      refine We.fin0 Try.results13 (.tmp rfl .nil) ?_
      exact ⟨rfl, by have := tot_mono s (show k + 1 ≤ 5 by omega); rw [show tot s (k + 1) = tot s k + (s.lv k).length from rfl] at this; simp only [tup, Value.bool.injEq]; symm; rw [decide_eq_false_iff_not]; omega⟩
    · have c2k := c2
      try simp only [decide_eq_false_iff_not, Int.not_lt, gt_iff_lt] at c2
      refine .skip ?_
      refine .code ?_
      refine Wk.rg [0, 1, 2, 3, 4, 5, 6, 7] rfl rfl ?_
      refine mv rfl .no (.u rfl) ?_
      refine mv rfl .no (.u rfl) ?_
      refine fz rfl .no Fx.fo35_0 (.u rfl) ?_
      refine iA rfl .no Fx.ar31 (.u rfl) (.u rfl) (fun _ => by omega) (fun _ => by omega) ?_
      refine ld rfl .no Fx.ag30 (.u rfl) (fun _ => Rd.own .here (s.cell_lv hd (k := k) (by omega))) ?_
      refine ln rfl .no Fx.sn30 (.u rfl) ?_
      refine ar rfl .no (.u rfl) (.u rfl) rfl (fun _ => wrap_i64 (by omega) (by omega)) ?_
      refine asg rfl .no (.u rfl) ?_
      refine .nil ?_
      refine .blk ?_
      refine .code ?_
      refine Wk.rg [0, 1] rfl rfl ?_
      refine ar rfl .no (.u rfl) (.u rfl) rfl (fun _ => wrap_i64 (by omega) (by omega)) ?_
      refine mv rfl .no (.u rfl) ?_
      refine .nil ?_
      refine We.lpo (k + 1) ?_ ?_ ?_ ?_ ?_
      · exact (ESub.cons rfl (congrArg _ (by simp only [tot]; omega)) (ESub.cons rfl rfl (ESub.cons rfl rfl ESub.nil)))
      · exact (MSub.cons .here rfl MSub.nil)
      · first | omega | (dsimp only; omega)
      · exact hGl0
      · exact ⟨by omega, by simp only [tot]; omega⟩
  · have c1k := c1
    try simp only [decide_eq_false_iff_not, Int.not_lt] at c1
    refine .exit ?_
    refine .xcode ?_
    refine .xlp ?_
    refine .xblk ?_
    refine .code ?_
    refine .seq ?_
    refine Wk.rg [0] rfl rfl ?_
    refine asg rfl .no (.u rfl) ?_
    refine .nil ?_
    refine .code ?_
    refine .ret ?_
    refine We.fin0 Try.results13 (.tmp rfl .nil) ?_
    exact ⟨rfl, by (obtain rfl : k = 5 := by omega); simp only [tup, Value.bool.injEq]; symm; rw [decide_eq_true_eq]; omega⟩

theorem down_ok (s : State) (hd : Nat → Sh) (G : PM) (hs : StR G s hd) (why level : Int) (h : Sh) (l : List Meta) (hsl : SlR G 40 Meta.cells h l) (hl : l.length * 112 ≤ 140737488351232) (hne : 0 < l.length) (h0 : 0 ≤ level) (h5 : level < 5) : Ct Try.prog 29 ([s.val hd, .int .u8 why, .int .i64 level, h.val l.length] : List Value).toArray G [] (fun G' μ' u => μ' = [] ∧ ∃ h1 h2 : Sh, u = .tuple #[(downJ s why level l).val h1 h2, .bool true] ∧ JobR G' (downJ s why level l) h1 h2) := by
  refine Ct.of Try.func29 rfl Try.ntmps29 rfl fun w0 hs0 => ?_
  have hgt := hsl.nn hne
  refine .seq ?_
  refine Wk.rg [0, 1, 2] rfl rfl ?_
  refine bx rfl (.u rfl) rfl ?_; intro b4
  refine al rfl Fx.zr39 ?_; intro b8
  refine asg rfl .no (.u rfl) ?_
  refine .nil ?_
  refine .code ?_
  refine .seq ?_
  refine Wk.draw (mc := false) [0, 1, 2, 3, 4, 5, 6, 7, 8, 9] Fx.mix (by kernel_rfl) ?_
  refine mv rfl .no (.u rfl) ?_
  refine ih rfl .no Fx.se30 (.u rfl) (.u rfl) (fun _ => by decide) (fun _ => by omega) (fun _ => hgt) ?_
  refine fa rfl .no Fx.fo49_6 (.u rfl) ?_
  refine ld rfl .no Fx.ag9 (.u rfl) (fun _ => (hsl.gat 0 rfl hne 6 _ rfl).rd) ?_
  refine mv rfl .no (.u rfl) ?_
  refine ih rfl .no Fx.se30 (.u rfl) (.u rfl) (fun _ => by decide) (fun _ => by omega) (fun _ => hgt) ?_
  refine fa rfl .no Fx.fo49_7 (.u rfl) ?_
  refine ld rfl .no Fx.ag9 (.u rfl) (fun _ => (hsl.gat 0 rfl hne 7 _ rfl).rd) ?_
  refine asg rfl .no (.u rfl) ?_
  refine asg rfl .no (.u rfl) ?_
  refine .nil ?_
  refine .code ?_
  refine .seq ?_
  refine .seq ?_
  refine Wk.rg [0, 1, 2] rfl rfl ?_
  refine mv rfl .no (.u rfl) ?_
  refine ln rfl .no Fx.sn30 (.u rfl) ?_
  refine mv rfl .no (.u rfl) ?_
  refine .nil ?_
  refine .code ?_
  refine .block ?_
  refine Wk.lop (α := Nat) (fun k => [(10, true, .string (fmin (l.take k) (l.getD 0 Meta.zero).min)), (11, true, .string (fmax (l.take k) (l.getD 0 Meta.zero).max)), (24, true, .int .i64 (k : Int))]) (fun _ => [])
    (fun k Gl => k ≤ l.length) (fun k => l.length - k) 0 [(1, true, _), (2, true, _), (3, true, _), (4, true, _), (8, true, _), (22, true, _), (23, true, _)] [.blk b8 _, .blk b4 _]
    (ESub.cons rfl rfl (ESub.cons rfl rfl (ESub.cons rfl rfl (ESub.cons rfl rfl (ESub.cons rfl rfl (ESub.cons rfl rfl (ESub.cons rfl rfl (ESub.cons rfl rfl (ESub.cons rfl rfl (ESub.cons rfl rfl ESub.nil))))))))))
    (MSub.cons .here rfl (MSub.cons .here rfl MSub.nil)) ?_ ?_
  · show 0 ≤ l.length; omega
  intro k N0 Gl0 hN0 hGl0 hF0
  try dsimp only at hF0 hN0 ⊢
  have hk : k ≤ l.length := hF0
  refine .seq ?_
  refine Wk.rg [0] rfl rfl ?_
  refine cp rfl .no (.u rfl) (.u rfl) rfl ?_
  refine .nil ?_
  refine .code ?_
  refine .seq ?_
  refine .cond rfl (fun c1 => ?_) (fun c1 => ?_)
  · have c1k := c1
    try simp only [decide_eq_true_eq] at c1
    refine .skip ?_
    refine .code ?_
    refine .seq ?_
    refine .block ?_
    refine .seq ?_
    refine Wk.rg [0, 1, 2, 3] rfl rfl ?_
    refine ih rfl .no Fx.se30 (.u rfl) (.u rfl) (fun _ => by omega) (fun _ => by omega) (fun _ => hgt) ?_
    refine lA rfl .no Fx.ag49 (.u rfl) (fun _ => ((hsl.mono hGl0).gat k (by omega) (by omega)).rd) (fun _ => rfl) ?_
    refine al rfl Fx.zr49 ?_; intro b13
    refine sw rfl (.u rfl) (.u rfl) rfl Fx.sz49 .here rfl (Meta.one _) ?_
    refine .nil ?_
    refine .code ?_
    refine Wk.draw (mc := false) [0, 1, 2, 3, 4, 5, 6, 7, 8, 9] Fx.mix (by kernel_rfl) ?_
    refine mv rfl .no (.u rfl) ?_
    refine fz rfl .no Fx.fo49_6 (.u rfl) ?_
    refine ld rfl .no Fx.ag9 (.u rfl) (fun _ => Rd.own .here rfl) ?_
    refine mi rfl .no (.u rfl) (.u rfl) ?_
    refine mv rfl .no (.u rfl) ?_
    refine fz rfl .no Fx.fo49_7 (.u rfl) ?_
    refine ld rfl .no Fx.ag9 (.u rfl) (fun _ => Rd.own .here rfl) ?_
    refine ma rfl .no (.u rfl) (.u rfl) ?_
    refine asg rfl .no (.u rfl) ?_
    refine asg rfl .no (.u rfl) ?_
    refine .nil ?_
    refine .blk ?_
    refine .code ?_
    refine Wk.rg [0, 1] rfl rfl ?_
    refine ar rfl .no (.u rfl) (.u rfl) rfl (fun _ => wrap_i64 (by omega) (by omega)) ?_
    refine mv rfl .no (.u rfl) ?_
    refine .nil ?_
    refine We.lpo (k + 1) ?_ ?_ ?_ ?_ ?_
    · exact (ESub.cons rfl (congrArg _ (fmin_snoc (by omega)).symm) (ESub.cons rfl (congrArg _ (fmax_snoc (by omega)).symm) (ESub.cons rfl rfl (ESub.cons rfl rfl (ESub.cons rfl rfl (ESub.cons rfl rfl (ESub.cons rfl rfl (ESub.cons rfl rfl (ESub.cons rfl rfl (ESub.cons rfl rfl ESub.nil))))))))))
    · exact (MSub.cons (.there .here) rfl (MSub.cons (.there .here) rfl MSub.nil))
    · first | omega | (dsimp only; omega)
    · exact hGl0
    · show k + 1 ≤ l.length; omega
  · have c1k := c1
    try simp only [decide_eq_false_iff_not, Int.not_lt] at c1
    refine .exit ?_
    refine .xcode ?_
    refine .xlp ?_
    refine .xblk ?_
    refine .code ?_
    refine .seq ?_
    refine Wk.draw (mc := false) [0, 1, 2, 3, 4, 6, 7, 8, 9, 10, 5, 11, 12, 13, 14, 15] Fx.mix (by kernel_rfl) ?_
    obtain rfl : k = l.length := by omega
    simp only [List.take_length]
    refine mv rfl .no (.u rfl) ?_
    refine mv rfl .no (.u rfl) ?_
    refine mv rfl .no (.u rfl) ?_
    refine ar rfl .no (.u rfl) (.u rfl) rfl (fun _ => wrap_i64 (by omega) (by omega)) ?_
    refine mv rfl .no (.u rfl) ?_
    refine lA rfl .no Fx.ag35 (.u rfl) (fun _ => RdN.own (.there .here)) (fun _ => rfl) ?_
    refine mv rfl .no (.u rfl) ?_
    refine ar rfl .no (.u rfl) (.u rfl) rfl (fun _ => wrap_i64 (by omega) (by omega)) ?_
    refine mv rfl .no (.u rfl) ?_
    refine mv rfl .no (.u rfl) ?_
    refine kc rfl Fx.go31 (Eva.cons (.u rfl) Eva.nil) (numbers_ok _ _ _ (hsl.mono hGl0) hl) ?_
    rintro v1 G1 μ1 hG1 ⟨rfl, hn1, rfl, hs1⟩
    simp only [lay, List.nil_append]
    refine kc rfl Fx.go19 (Eva.cons (.u rfl) (Eva.cons (.u rfl) (Eva.cons (.u rfl) (Eva.cons (.u rfl) Eva.nil)))) (over_ok _ _ _ ((hs.mono hGl0).mono hG1) _ _ _) ?_
    rintro v2 G2 μ2 hG2 ⟨rfl, hn2, rfl, hs2⟩
    simp only [lay, List.nil_append]
    refine kc rfl Fx.go31 (Eva.cons (.u rfl) Eva.nil) (numbers_ok _ _ _ hs2 (ovl_len hs _ _ _)) ?_
    rintro v3 G3 μ3 hG3 ⟨rfl, hn3, rfl, hs3⟩
    simp only [lay, List.nil_append]
    refine bC rfl .no Fx.bp39_0_1_2_3_4 (.cons (.u rfl) rfl (.cons (.u rfl) rfl (.cons (.u rfl) rfl (.cons (.u rfl) rfl (.cons (.u rfl) rfl .nil))))) rfl ?_
    refine sw rfl (.u rfl) (.u rfl) rfl Fx.sz39 .here rfl (by simp [Value.oneCell', Sh.val, bFold, put]) ?_
    refine asg rfl .no (.u rfl) ?_
    refine .nil ?_
    refine .code ?_
    refine .ret ?_
    refine We.fin0 Try.results29 (.cell rfl (fun w hw => run_loadVarN Fx.ag39 (RdN.own .here) rfl hw) (.tmp rfl .nil)) ?_
    exact ⟨rfl, hn1, hn3, rfl, downJ_ok (((hs.mono hGl0).mono hG1).mono (hG2.trans hG3)) hl (hs1.mono (hG2.trans hG3)) hs3⟩

theorem rdown_ok (s : State) (hd : Nat → Sh) (G : PM) (hs : StR G s hd) (why level : Int) (h : Sh) (l : List Meta) (hsl : SlR G 40 Meta.cells h l) (hl : l.length * 112 ≤ 140737488351232) (hne : 0 < l.length) (h0 : 0 ≤ level) (h5 : level < 5) : Ct Try.prog 33 ([s.val hd, .int .u8 why, .int .i64 level, h.val l.length] : List Value).toArray G [] (fun G' μ' u => μ' = [] ∧ ∃ h1 h2 : Sh, u = (downJ s why level l).val h1 h2 ∧ JobR G' (downJ s why level l) h1 h2) := by
  refine Ct.of Try.func33 rfl Try.ntmps33 rfl fun w0 hs0 => ?_
  have hgt := hsl.nn hne
  refine .seq ?_
  refine Wk.rg [0, 1] rfl rfl ?_
  refine bx rfl (.u rfl) rfl ?_; intro b4
  refine al rfl Fx.zr39 ?_; intro b8
  refine .nil ?_
  refine .code ?_
  refine .seq ?_
  refine Wk.rg [0, 1, 2, 3, 4] rfl rfl ?_
  refine mv rfl .no (.u rfl) ?_
  refine ih rfl .no Fx.se30 (.u rfl) (.u rfl) (fun _ => by decide) (fun _ => by omega) (fun _ => hgt) ?_
  refine fa rfl .no Fx.fo49_6 (.u rfl) ?_
  refine ld rfl .no Fx.ag9 (.u rfl) (fun _ => (hsl.gat 0 rfl hne 6 _ rfl).rd) ?_
  refine asg rfl .no (.u rfl) ?_
  refine .nil ?_
  refine .code ?_
  refine .seq ?_
  refine Wk.rg [0, 1, 2, 3, 4] rfl rfl ?_
  refine mv rfl .no (.u rfl) ?_
  refine ih rfl .no Fx.se30 (.u rfl) (.u rfl) (fun _ => by decide) (fun _ => by omega) (fun _ => hgt) ?_
  refine fa rfl .no Fx.fo49_7 (.u rfl) ?_
  refine ld rfl .no Fx.ag9 (.u rfl) (fun _ => (hsl.gat 0 rfl hne 7 _ rfl).rd) ?_
  refine asg rfl .no (.u rfl) ?_
  refine .nil ?_
  refine .code ?_
  refine .seq ?_
  refine .seq ?_
  refine Wk.rg [0] rfl rfl ?_
  refine asg rfl .no (.u rfl) ?_
  refine .nil ?_
  refine .code ?_
  refine .block ?_
  refine Wk.lop (α := Nat) (fun k => [(9, true, .string (fmin (l.take k) (l.getD 0 Meta.zero).min)), (10, true, .string (fmax (l.take k) (l.getD 0 Meta.zero).max)), (11, true, .int .i64 (k : Int))]) (fun _ => [])
    (fun k Gl => k ≤ l.length ∧ 1 ≤ k) (fun k => l.length - k) 1 [(1, true, _), (2, true, _), (3, true, _), (4, true, _), (8, true, _)] [.blk b8 _, .blk b4 _]
    (ESub.cons rfl (congrArg _ (fmin_one hne).symm) (ESub.cons rfl (congrArg _ (fmax_one hne).symm) (ESub.cons rfl rfl (ESub.cons rfl rfl (ESub.cons rfl rfl (ESub.cons rfl rfl (ESub.cons rfl rfl (ESub.cons rfl rfl ESub.nil))))))))
    (MSub.cons .here rfl (MSub.cons .here rfl MSub.nil)) ?_ ?_
  · show 1 ≤ l.length ∧ 1 ≤ 1; omega
  intro k N0 Gl0 hN0 hGl0 hF0
  try dsimp only at hF0 hN0 ⊢
  obtain ⟨hk, hk1⟩ := hF0
  refine .seq ?_
  refine .seq ?_
  refine Wk.rg [0, 1, 2, 3] rfl rfl ?_
  refine mv rfl .no (.u rfl) ?_
  refine mv rfl .no (.u rfl) ?_
  refine ln rfl .no Fx.sn30 (.u rfl) ?_
  refine cp rfl .no (.u rfl) (.u rfl) rfl ?_
  refine .nil ?_
  refine .code ?_
  refine .cond rfl (fun c1 => ?_) (fun c1 => ?_)
  · have c1k := c1
    try simp only [decide_eq_true_eq] at c1
    refine .skip ?_
    refine .code ?_
    refine .seq ?_
    refine .block ?_
    refine .seq ?_
    refine Wk.rg [0, 1, 2, 3, 4, 5, 6, 7] rfl rfl ?_
    refine mv rfl .no (.u rfl) ?_
    refine mv rfl .no (.u rfl) ?_
    refine mv rfl .no (.u rfl) ?_
    refine ih rfl .no Fx.se30 (.u rfl) (.u rfl) (fun _ => by omega) (fun _ => by omega) (fun _ => hgt) ?_
    refine fa rfl .no Fx.fo49_6 (.u rfl) ?_
    refine ld rfl .no Fx.ag9 (.u rfl) (fun _ => ((hsl.mono hGl0).gat k (by omega) (by omega) 6 _ rfl).rd) ?_
    refine mi rfl .no (.u rfl) (.u rfl) ?_
    refine asg rfl .no (.u rfl) ?_
    refine .nil ?_
    refine .code ?_
    refine Wk.rg [0, 1, 2, 3, 4, 5, 6, 7] rfl rfl ?_
    refine mv rfl .no (.u rfl) ?_
    refine mv rfl .no (.u rfl) ?_
    refine mv rfl .no (.u rfl) ?_
    refine ih rfl .no Fx.se30 (.u rfl) (.u rfl) (fun _ => by omega) (fun _ => by omega) (fun _ => hgt) ?_
    refine fa rfl .no Fx.fo49_7 (.u rfl) ?_
    refine ld rfl .no Fx.ag9 (.u rfl) (fun _ => ((hsl.mono hGl0).gat k (by omega) (by omega) 7 _ rfl).rd) ?_
    refine ma rfl .no (.u rfl) (.u rfl) ?_
    refine asg rfl .no (.u rfl) ?_
    refine .nil ?_
    refine .blk ?_
    refine .code ?_
    refine Wk.rg [0, 1, 2] rfl rfl ?_
    refine mv rfl .no (.u rfl) ?_
    refine ar rfl .no (.u rfl) (.u rfl) rfl (fun _ => wrap_i64 (by omega) (by omega)) ?_
    refine asg rfl .no (.u rfl) ?_
    refine .nil ?_
    refine We.lpo (k + 1) ?_ ?_ ?_ ?_ ?_
    · exact (ESub.cons rfl (congrArg _ (fmin_snoc (by omega)).symm) (ESub.cons rfl (congrArg _ (fmax_snoc (by omega)).symm) (ESub.cons rfl rfl (ESub.cons rfl rfl (ESub.cons rfl rfl (ESub.cons rfl rfl (ESub.cons rfl rfl (ESub.cons rfl rfl ESub.nil))))))))
    · exact (MSub.cons .here rfl (MSub.cons .here rfl MSub.nil))
    · first | omega | (dsimp only; omega)
    · exact hGl0
    · show k + 1 ≤ l.length ∧ 1 ≤ k + 1; omega
  · have c1k := c1
    try simp only [decide_eq_false_iff_not, Int.not_lt] at c1
    refine .exit ?_
    refine .xcode ?_
    refine .xlp ?_
    refine .xblk ?_
    refine .code ?_
    refine .seq ?_
    refine Wk.draw (mc := false) [0, 1, 2, 3, 4, 6, 7, 8, 9, 10, 5, 11, 12, 13, 14] Fx.mix (by kernel_rfl) ?_
    obtain rfl : k = l.length := by omega
    simp only [List.take_length]
    refine mv rfl .no (.u rfl) ?_
    refine mv rfl .no (.u rfl) ?_
    refine mv rfl .no (.u rfl) ?_
    refine ar rfl .no (.u rfl) (.u rfl) rfl (fun _ => wrap_i64 (by omega) (by omega)) ?_
    refine mv rfl .no (.u rfl) ?_
    refine lA rfl .no Fx.ag35 (.u rfl) (fun _ => RdN.own (.there .here)) (fun _ => rfl) ?_
    refine mv rfl .no (.u rfl) ?_
    refine ar rfl .no (.u rfl) (.u rfl) rfl (fun _ => wrap_i64 (by omega) (by omega)) ?_
    refine mv rfl .no (.u rfl) ?_
    refine mv rfl .no (.u rfl) ?_
    refine kc rfl Fx.go34 (Eva.cons (.u rfl) Eva.nil) (rnumbers_ok _ _ _ (hsl.mono hGl0) hl) ?_
    rintro v1 G1 μ1 hG1 ⟨rfl, hn1, rfl, hs1⟩
    simp only [lay, List.nil_append]
    refine kc rfl Fx.go43 (Eva.cons (.u rfl) (Eva.cons (.u rfl) (Eva.cons (.u rfl) (Eva.cons (.u rfl) Eva.nil)))) (rover_ok _ _ _ ((hs.mono hGl0).mono hG1) _ _ _) ?_
    rintro v2 G2 μ2 hG2 ⟨rfl, hn2, rfl, hs2⟩
    simp only [lay, List.nil_append]
    refine kc rfl Fx.go34 (Eva.cons (.u rfl) Eva.nil) (rnumbers_ok _ _ _ hs2 (ovl_len hs _ _ _)) ?_
    rintro v3 G3 μ3 hG3 ⟨rfl, hn3, rfl, hs3⟩
    simp only [lay, List.nil_append]
    refine bC rfl .no Fx.bp39_0_1_2_3_4 (.cons (.u rfl) rfl (.cons (.u rfl) rfl (.cons (.u rfl) rfl (.cons (.u rfl) rfl (.cons (.u rfl) rfl .nil))))) rfl ?_
    refine sw rfl (.u rfl) (.u rfl) rfl Fx.sz39 .here rfl (by simp [Value.oneCell', Sh.val, bFold, put]) ?_
    refine .nil ?_
    refine .code ?_
    refine .ret ?_
    refine We.fin0 Try.results33 (.cell rfl (fun w hw => run_loadVarN Fx.ag39 (RdN.own .here) rfl hw) .nil) ?_
    exact ⟨rfl, hn1, hn3, rfl, downJ_ok (((hs.mono hGl0).mono hG1).mono (hG2.trans hG3)) hl (hs1.mono (hG2.trans hG3)) hs3⟩

end Go.Proofs.Ytnhipfnbnilleaa
