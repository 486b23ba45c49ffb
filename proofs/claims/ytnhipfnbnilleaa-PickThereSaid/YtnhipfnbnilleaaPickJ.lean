/- Contracts of functions, walked. -/
import Derived.Test.YtnhipfnbnilleaaPickI
import Derived.Test.YtnhipfnbnilleaaPickP
import Derived.Test.YtnhipfnbnilleaaTanG
namespace Go.Proofs.Ytnhipfnbnilleaa
open Go.Tan Go.RowKit

theorem meta_key {m : Meta} (h : m.wf) : ∃ D L, Try.prog.keyLits D 49 m.cells = some L := by
  refine ⟨4, key_struct (D := 3) Try.underlying49 (by rw [Fx.co49]; rfl) (by kernel_rfl) fun f hf => ?_⟩
  simp only [List.mem_cons, List.not_mem_nil, or_false] at hf
  rcases hf with rfl | rfl | rfl | rfl | rfl | rfl | rfl | rfl | rfl
  · rw [Fx.co5]; exact key_int (D := 2) (v := m.level) Try.underlying5 (by rw [show IntKind.u8.min = 0 by decide]; exact h.level.1) (by rw [show IntKind.u8.max = 255 by decide]; have := h.level.2; omega)
  · rw [Fx.co32]; exact key_int (D := 2) (v := m.gen) Try.underlying32 (by rw [show IntKind.u64.min = 0 by decide]; exact h.gen.1) (by rw [show IntKind.u64.max = 18446744073709551615 by decide]; have := h.gen.2; omega)
  · rw [Fx.co32]; exact key_int (D := 2) (v := m.epoch) Try.underlying32 (by rw [show IntKind.u64.min = 0 by decide]; exact h.epoch.1) (by rw [show IntKind.u64.max = 18446744073709551615 by decide]; have := h.epoch.2; omega)
  · rw [Fx.co32]; exact key_int (D := 2) (v := m.number) Try.underlying32 (by rw [show IntKind.u64.min = 0 by decide]; exact h.number.1) (by rw [show IntKind.u64.max = 18446744073709551615 by decide]; have := h.number.2; omega)
  · rw [Fx.co3]; exact key_int (D := 2) (v := m.size) Try.underlying3 (by rw [show IntKind.i64.min = -9223372036854775808 by decide]; exact h.size.1) (by rw [show IntKind.i64.max = 9223372036854775807 by decide]; have := h.size.2; omega)
  · rw [Fx.co3]; exact key_int (D := 2) (v := m.count) Try.underlying3 (by rw [show IntKind.i64.min = -9223372036854775808 by decide]; exact h.count.1) (by rw [show IntKind.i64.max = 9223372036854775807 by decide]; have := h.count.2; omega)
  · rw [Fx.co9]; exact key_str (D := 2) (s := m.min) Try.underlying9 h.minL
  · rw [Fx.co9]; exact key_str (D := 2) (s := m.max) Try.underlying9 h.maxL
  · rw [Fx.co47]
    refine key_arr (D := 2) Try.underlying47 (by rw [Fx.co47]; rfl) fun j hj => ?_
    rw [Fx.co5]
    have e : ((((m.cells.drop 8).take 32)).drop (j * 1)).take 1 = [.int .u8 (m.root j)] := by
      have e0 : (m.cells.drop 8).take 32 = (List.range 32).map fun i => Value.int .u8 (m.root i) := rfl
      rw [e0, Nat.mul_one, List.drop_eq_getElem_cons (by simpa using hj)]
      simp
    rw [e]
    exact key_int (D := 1) Try.underlying5 (by rw [show IntKind.u8.min = 0 by decide]; exact (h.root j hj).1) (by rw [show IntKind.u8.max = 255 by decide]; exact (h.root j hj).2)
theorem meta_formed (m : Meta) : (Value.agg m.cells.toArray).formed Try.prog 49 = true := by
  simp [Value.formed, Try.underlying49, Fx.co49, Meta.len]
theorem SameMetas_ok (h1 h2 : Sh) (l : List Meta) (G : PM) (ha : SlR G 40 Meta.cells h1 l) (hb : SlR G 40 Meta.cells h2 l) (hl : l.length * 112 ≤ 140737488351232) (hw : ∀ m ∈ l, m.wf) : Ct Try.prog 18 ([h1.val l.length, h2.val l.length] : List Value).toArray G [] (fun _ μ' u => μ' = [] ∧ u = .bool true) := by
  refine Ct.of Try.func18 rfl Try.ntmps18 rfl fun w0 hs0 => ?_
  refine .seq ?_
  refine Wk.rg [0] rfl rfl ?_
  refine asg rfl .no (.u rfl) ?_
  refine .nil ?_
  refine .code ?_
  refine .seq ?_
  refine .seq ?_
  refine Wk.rg [0, 1, 2, 3, 4] rfl rfl ?_
  refine mv rfl .no (.u rfl) ?_
  refine ln rfl .no Fx.sn30 (.u rfl) ?_
  refine mv rfl .no (.u rfl) ?_
  refine ln rfl .no Fx.sn30 (.u rfl) ?_
  refine cp rfl .no (.u rfl) (.u rfl) rfl ?_
  refine .nil ?_
  refine .code ?_
  refine .cond rfl (fun c1 => ?_) (fun c1 => ?_)
  · have c1k := c1
    exact absurd c1k (by simp)
  · have c1k := c1
    try simp only [decide_eq_true_eq, decide_eq_false_iff_not, Int.not_lt, Int.not_le, gt_iff_lt, ge_iff_le, Bool.or_eq_true, Bool.and_eq_true, Bool.or_eq_false_iff, Bool.not_eq_true', Bool.not_eq_false', Int.toNat_natCast] at c1
    refine .skip ?_
    refine .code ?_
    refine .seq ?_
    refine .seq ?_
    refine Wk.rg [0] rfl rfl ?_
    refine asg rfl .no (.u rfl) ?_
    refine .nil ?_
    refine .code ?_
    refine .block ?_
    refine Wk.lop (α := Nat) (fun k => [(5, true, .int .i64 (k : Int))]) (fun _ => [])
      (fun k Gl => k ≤ l.length) (fun k => l.length - k) 0 [(0, true, _), (1, true, _)] []
      (ESub.cons rfl rfl (ESub.cons rfl rfl (ESub.cons rfl rfl ESub.nil)))
      MSub.nil ?_ ?_
    · show 0 ≤ l.length; omega
    intro k N0 Gl0 hN0 hGl0 hF0
    try dsimp only at hF0 hN0 ⊢
    have hk : k ≤ l.length := hF0
    refine .seq ?_
    refine .seq ?_
    refine Wk.rg [0, 1, 2, 3] rfl rfl ?_
    refine mv rfl .no (.u rfl) ?_
    refine mv rfl .no (.u rfl) ?_
    refine ln rfl .no Fx.sn30 (.u rfl) ?_
    refine cp rfl .no (.u rfl) (.u rfl) rfl ?_
    refine .nil ?_
    refine .code ?_
    refine .cond rfl (fun c2 => ?_) (fun c2 => ?_)
    · have c2k := c2
      try simp only [decide_eq_true_eq] at c2
      refine .skip ?_
      refine .code ?_
      refine .seq ?_
      refine .block ?_
      refine .seq ?_
      refine Wk.draw (mc := false) [0, 1, 2, 3, 4, 5, 6, 7, 8] Fx.mix (by kernel_rfl) ?_
      refine mv rfl .no (.u rfl) ?_
      refine mv rfl .no (.u rfl) ?_
      refine ih rfl .no Fx.se30 (.u rfl) (.u rfl) (fun _ => by omega) (fun _ => by omega) (fun _ => ha.nn (k := k) (by omega)) ?_
      refine lA rfl .no Fx.ag49 (.u rfl) (fun _ => ((ha.mono hGl0).gat k (by omega) (by omega)).rd) (fun _ => rfl) ?_
      refine mv rfl .no (.u rfl) ?_
      refine mv rfl .no (.u rfl) ?_
      refine ih rfl .no Fx.se30 (.u rfl) (.u rfl) (fun _ => by omega) (fun _ => by omega) (fun _ => hb.nn (k := k) (by omega)) ?_
      refine lA rfl .no Fx.ag49 (.u rfl) (fun _ => ((hb.mono hGl0).gat k (by omega) (by omega)).rd) (fun _ => rfl) ?_
      refine nq rfl .no (.u rfl) (.u rfl) Fx.kt49 (by decide) Fx.eg49 (fun _ => meta_formed _) (fun _ => meta_key (hw _ (getD_mem (k := k) (by omega)))) ?_
      refine .nil ?_
      refine .code ?_
      refine .cond rfl (fun c3 => ?_) (fun c3 => ?_)
      · have c3k := c3
        exact absurd c3k (by decide)
      · have c3k := c3
        try simp only [] at c3
        refine .skip ?_
        refine .blk ?_
        refine .code ?_
        refine Wk.rg [0, 1, 2] rfl rfl ?_
        refine mv rfl .no (.u rfl) ?_
        refine ar rfl .no (.u rfl) (.u rfl) rfl (fun _ => wrap_i64 (by omega) (by omega)) ?_
        refine asg rfl .no (.u rfl) ?_
        refine .nil ?_
        refine We.lpo (k + 1) ?_ ?_ ?_ ?_ ?_
        · exact (ESub.cons rfl rfl (ESub.cons rfl rfl (ESub.cons rfl rfl ESub.nil)))
        · exact MSub.nil
        · first | omega | (dsimp only; omega)
        · exact hGl0
        · show k + 1 ≤ l.length; omega
    · have c2k := c2
      try simp only [decide_eq_false_iff_not, Int.not_lt] at c2
      refine .exit ?_
      refine .xcode ?_
      refine .xlp ?_
      refine .xblk ?_
      refine .code ?_
      refine .seq ?_
      refine Wk.rg [0] rfl rfl ?_
      refine asg rfl .no (.u rfl) ?_
      refine .nil ?_
      refine .code ?_
      refine .ret ?_
      refine We.fin0 Try.results18 (.tmp rfl .nil) ?_
      exact ⟨rfl, rfl⟩

theorem find_ok (s : State) (hd : Nat → Sh) (G : PM) (hs : StR G s hd) (level : Int) (h0 : 0 ≤ level) (h5 : level < 5) (h : Sh) (M : List Meta) (hsl : SlR G 1 encU h (nums M)) (hl0 : (nums M).length * 112 ≤ 140737488351232) (hp : (s.lv level.toNat).Pairwise (fun a b => a.number ≠ b.number)) (hM : ∀ m ∈ M, m ∈ s.lv level.toNat) : Ct Try.prog 17 ([s.val hd, .int .i64 level, h.val (nums M).length] : List Value).toArray G [] (fun G' μ' u => μ' = [] ∧ ∃ h : Sh, u = .tuple #[h.val M.length, .bool true] ∧ SlR G' 40 Meta.cells h M) := by
  refine Ct.of Try.func17 rfl Try.ntmps17 rfl fun w0 hs0 => ?_
  have hnl : (nums M).length = M.length := nums_len M
  have hl : M.length * 112 ≤ 140737488351232 := by rw [← hnl]; exact hl0
  have hli := hs.len level.toNat (by omega)
  refine .seq ?_
  refine Wk.rg [0, 1, 2] rfl rfl ?_
  refine bx rfl (.u rfl) rfl ?_; intro b3
  refine asg rfl .no (.u rfl) ?_
  refine asg rfl .no (.u rfl) ?_
  refine .nil ?_
  refine .code ?_
  refine .seq ?_
  refine Wk.rg [0] rfl rfl ?_
  refine asg rfl .no (.u rfl) ?_
  refine .nil ?_
  refine .code ?_
  refine .seq ?_
  refine .seq ?_
  refine Wk.rg [0, 1, 2] rfl rfl ?_
  refine mv rfl .no (.u rfl) ?_
  refine ln rfl .no Fx.sn37 (.u rfl) ?_
  refine mv rfl .no (.u rfl) ?_
  refine .nil ?_
  refine .code ?_
  refine .block ?_
  refine wk_nilRow 49 40 ?_
  refine Wk.lop (α := Nat × Value) (fun gh => [(8, true, gh.2), (16, true, .int .i64 (gh.1 : Int))]) (fun gh => [.row gh.2 49 40 (M.take gh.1).length ((M.take gh.1).flatMap Meta.cells)])
    (fun gh Gl => gh.1 ≤ M.length) (fun gh => M.length - gh.1) (0, .slice none 0 0) [(1, true, _), (3, true, _), (14, true, _), (15, true, _)] [.blk b3 _]
    (ESub.cons rfl rfl (ESub.cons rfl rfl (ESub.cons rfl rfl (ESub.cons rfl rfl (ESub.cons rfl rfl (ESub.cons rfl rfl ESub.nil))))))
    (MSub.cons .here rfl (MSub.cons .here rfl MSub.nil)) ?_ ?_
  · show 0 ≤ M.length; omega
  intro gh N0 Gl0 hN0 hGl0 hF0
  obtain ⟨k, v⟩ := gh; dsimp only at hF0 hN0 ⊢
  have hk : k ≤ M.length := hF0
  refine .seq ?_
  refine Wk.rg [0] rfl rfl ?_
  refine cp rfl .no (.u rfl) (.u rfl) rfl ?_
  refine .nil ?_
  refine .code ?_
  refine .seq ?_
  refine .cond rfl (fun c1 => ?_) (fun c1 => ?_)
  · have c1k := c1
    try simp only [decide_eq_true_eq] at c1
    refine .skip ?_
    refine .code ?_
    refine .seq ?_
    refine .block ?_
    refine .seq ?_
    refine Wk.rg [0, 1, 2] rfl rfl ?_
    refine ih rfl .no Fx.se37 (.u rfl) (.u rfl) (fun _ => by omega) (fun _ => by omega) (fun _ => hsl.nn (k := k) (by omega)) ?_
    refine ld rfl .no Fx.ag32 (.u rfl) (fun _ => ((hsl.mono hGl0).ua k (by omega) (by omega)).rd) ?_
    refine asg rfl .no (.u rfl) ?_
    refine .nil ?_
    refine .code ?_
    refine .seq ?_
    refine Wk.rg [0, 1, 2] rfl rfl ?_
    have hlt : (M.take k).length = k := by rw [List.length_take]; omega
    refine mv rfl .no (.u rfl) ?_
    refine lr rfl .no Fx.sn30 (.u rfl) .here ?_
    refine asg rfl .no (.u rfl) ?_
    refine .nil ?_
    refine .code ?_
    refine .seq ?_
    refine .seq ?_
    refine Wk.rg [0, 1, 2, 3, 4, 5] rfl rfl ?_
    refine mv rfl .no (.u rfl) ?_
    refine fz rfl .no Fx.fo35_0 (.u rfl) ?_
    refine iA rfl .no Fx.ar31 (.u rfl) (.u rfl) (fun _ => by omega) (fun _ => by omega) ?_
    refine ld rfl .no Fx.ag30 (.u rfl) (fun _ => Rd.own (.there .here) (s.cell_lv hd (k := level.toNat) (by omega))) ?_
    refine ln rfl .no Fx.sn30 (.u rfl) ?_
    refine mv rfl .no (.u rfl) ?_
    refine .nil ?_
    refine .code ?_
    refine .block ?_
    refine Wk.lop (α := Nat × Value) (fun gh => [(8, true, gh.2), (27, true, .int .i64 (gh.1 : Int))]) (fun gh => [.row gh.2 49 40 (fnd M (s.lv level.toNat) k gh.1).length ((fnd M (s.lv level.toNat) k gh.1).flatMap Meta.cells)])
      (fun gh Gl => gh.1 ≤ (s.lv level.toNat).length) (fun gh => (s.lv level.toNat).length - gh.1) (0, v) [(1, true, _), (3, true, _), (10, true, _), (11, true, _), (14, true, _), (15, true, _), (16, true, _), (25, true, _), (26, true, _)] [.blk b3 _]
      (ESub.cons rfl rfl (ESub.cons rfl rfl (ESub.cons rfl rfl (ESub.cons rfl rfl (ESub.cons rfl rfl (ESub.cons rfl rfl (ESub.cons rfl rfl (ESub.cons rfl rfl (ESub.cons rfl rfl (ESub.cons rfl rfl (ESub.cons rfl rfl ESub.nil)))))))))))
      (MSub.cons .here fd_start (MSub.cons .here rfl MSub.nil)) ?_ ?_
    · show 0 ≤ (s.lv level.toNat).length; omega
    intro gh N1 Gl1 hN1 hGl1 hF1
    obtain ⟨i, u⟩ := gh; dsimp only at hF1 hN1 ⊢
    have hi : i ≤ (s.lv level.toNat).length := hF1
    refine .seq ?_
    refine Wk.rg [0] rfl rfl ?_
    refine cp rfl .no (.u rfl) (.u rfl) rfl ?_
    refine .nil ?_
    refine .code ?_
    refine .seq ?_
    refine .cond rfl (fun c2 => ?_) (fun c2 => ?_)
    · have c2k := c2
      try simp only [decide_eq_true_eq] at c2
      refine .skip ?_
      refine .code ?_
      refine .seq ?_
      refine .block ?_
      refine .seq ?_
      refine Wk.rg [0, 1, 2, 3] rfl rfl ?_
      refine ih rfl .no Fx.se30 (.u rfl) (.u rfl) (fun _ => by omega) (fun _ => by omega) (fun _ => (hs.lv level.toNat (by omega)).nn (k := i) (by omega)) ?_
      refine lA rfl .no Fx.ag49 (.u rfl) (fun _ => ((((hs.mono hGl0).mono hGl1).lv level.toNat (by omega)).gat i (by omega) (by omega)).rd) (fun _ => rfl) ?_
      refine al rfl Fx.zr49 ?_; intro b13
      refine sw rfl (.u rfl) (.u rfl) rfl Fx.sz49 .here rfl (Meta.one _) ?_
      refine .nil ?_
      refine .code ?_
      refine .seq ?_
      refine Wk.rg [0, 1, 2, 3] rfl rfl ?_
      refine fz rfl .no Fx.fo49_3 (.u rfl) ?_
      refine ld rfl .no Fx.ag32 (.u rfl) (fun _ => Rd.own .here rfl) ?_
      refine mv rfl .no (.u rfl) ?_
      refine cp rfl .no (.u rfl) (.u rfl) rfl ?_
      refine .nil ?_
      refine .code ?_
      refine .cond rfl (fun c3 => ?_) (fun c3 => ?_)
      · have c3k := c3
        try simp only [decide_eq_true_eq, decide_eq_false_iff_not, Int.not_lt, Int.not_le, gt_iff_lt, ge_iff_le, Bool.or_eq_true, Bool.and_eq_true, Bool.or_eq_false_iff, Bool.not_eq_true', Bool.not_eq_false', Int.toNat_natCast] at c3
        refine Wk.rg [0, 1, 2, 3, 4] rfl rfl ?_
        have hfl := fd_len (i := i) hp hM (show k < M.length by omega)
        refine mv rfl .no (.u rfl) ?_
        refine lA rfl .no Fx.ag49 (.u rfl) (fun _ => RdN.own .here) (fun _ => rfl) ?_
        refine Go.Tan.b1 rfl Fx.se30 Fx.zv49 (.u rfl) rfl rfl (by decide) ?_; intro b37
        refine ap rfl Fx.se30 Fx.zv49 rfl (.u rfl) (.u rfl) (.there (.there .here)) (rfl) (fun _ => ⟨_, _, rfl, RdN.own .here⟩) (Meta.one _) (by omega) (by unfold maxLen; omega) ?_; intro v38
        refine asg rfl .no (.u rfl) ?_
        refine .nil ?_
        refine .blk ?_
        refine .code ?_
        refine Wk.rg [0, 1] rfl rfl ?_
        refine ar rfl .no (.u rfl) (.u rfl) rfl (fun _ => wrap_i64 (by omega) (by omega)) ?_
        refine mv rfl .no (.u rfl) ?_
        refine .nil ?_
        refine We.lpo (i + 1, v38) ?_ ?_ ?_ ?_ ?_
        · exact (ESub.cons rfl rfl (ESub.cons rfl rfl (ESub.cons rfl rfl (ESub.cons rfl rfl (ESub.cons rfl rfl (ESub.cons rfl rfl (ESub.cons rfl rfl (ESub.cons rfl rfl (ESub.cons rfl rfl (ESub.cons rfl rfl (ESub.cons rfl rfl ESub.nil)))))))))))
        · exact (MSub.cons .here (fd_yes (by omega) c3k) (MSub.cons (.there (.there .here)) rfl MSub.nil))
        · first | omega | (dsimp only; omega)
        · exact hGl1
        · show i + 1 ≤ (s.lv level.toNat).length; omega
      · have c3k := c3
        try simp only [decide_eq_true_eq, decide_eq_false_iff_not, Int.not_lt, Int.not_le, gt_iff_lt, ge_iff_le, Bool.or_eq_true, Bool.and_eq_true, Bool.or_eq_false_iff, Bool.not_eq_true', Bool.not_eq_false', Int.toNat_natCast] at c3
        refine .skip ?_
        refine .blk ?_
        refine .code ?_
        refine Wk.rg [0, 1] rfl rfl ?_
        refine ar rfl .no (.u rfl) (.u rfl) rfl (fun _ => wrap_i64 (by omega) (by omega)) ?_
        refine mv rfl .no (.u rfl) ?_
        refine .nil ?_
        refine We.lpo (i + 1, u) ?_ ?_ ?_ ?_ ?_
        · exact (ESub.cons rfl rfl (ESub.cons rfl rfl (ESub.cons rfl rfl (ESub.cons rfl rfl (ESub.cons rfl rfl (ESub.cons rfl rfl (ESub.cons rfl rfl (ESub.cons rfl rfl (ESub.cons rfl rfl (ESub.cons rfl rfl (ESub.cons rfl rfl ESub.nil)))))))))))
        · exact (MSub.cons (.there .here) (fd_no (by omega) c3k) (MSub.cons (.there .here) rfl MSub.nil))
        · first | omega | (dsimp only; omega)
        · exact hGl1
        · show i + 1 ≤ (s.lv level.toNat).length; omega
    · have c2k := c2
      try simp only [decide_eq_false_iff_not, Int.not_lt] at c2
      refine .exit ?_
      refine .xcode ?_
      refine .xlp ?_
      refine .xblk ?_
      refine .code ?_
      refine .seq ?_
      refine Wk.rg [0, 1, 2, 3, 4] rfl rfl ?_
      have hend : fnd M (s.lv level.toNat) k i = M.take (k + 1) := fd_end hp hM (by omega) (by omega)
      have hlt2 : (M.take (k + 1)).length = k + 1 := by rw [List.length_take]; omega
      refine mv rfl .no (.u rfl) ?_
      refine lr rfl .no Fx.sn30 (.u rfl) .here ?_
      refine mv rfl .no (.u rfl) ?_
      refine ar rfl .no (.u rfl) (.u rfl) rfl (fun _ => wrap_i64 (by omega) (by omega)) ?_
      refine cp rfl .no (.u rfl) (.u rfl) rfl ?_
      refine .nil ?_
      refine .code ?_
      refine .cond rfl (fun c4 => ?_) (fun c4 => ?_)
      · have c4k := c4
        exact absurd c4k (by rw [hend, hlt, hlt2]; simp)
      · have c4k := c4
        try simp only [decide_eq_true_eq, decide_eq_false_iff_not, Int.not_lt, Int.not_le, gt_iff_lt, ge_iff_le, Bool.or_eq_true, Bool.and_eq_true, Bool.or_eq_false_iff, Bool.not_eq_true', Bool.not_eq_false', Int.toNat_natCast] at c4
        refine .skip ?_
        refine .blk ?_
        refine .code ?_
        refine Wk.rg [0, 1] rfl rfl ?_
        refine ar rfl .no (.u rfl) (.u rfl) rfl (fun _ => wrap_i64 (by omega) (by omega)) ?_
        refine mv rfl .no (.u rfl) ?_
        refine .nil ?_
        refine We.lpo (k + 1, u) ?_ ?_ ?_ ?_ ?_
        · exact (ESub.cons rfl rfl (ESub.cons rfl rfl (ESub.cons rfl rfl (ESub.cons rfl rfl (ESub.cons rfl rfl (ESub.cons rfl rfl ESub.nil))))))
        · exact (MSub.cons .here (by rw [hend]) (MSub.cons .here rfl MSub.nil))
        · first | omega | (dsimp only; omega)
        · exact hGl0.trans hGl1
        · show k + 1 ≤ M.length; omega
  · have c1k := c1
    try simp only [decide_eq_false_iff_not, Int.not_lt] at c1
    refine .exit ?_
    refine .xcode ?_
    refine .xlp ?_
    refine .xblk ?_
    refine .code ?_
    refine .seq ?_
    refine Wk.rg [0, 1, 2] rfl rfl ?_
    refine mv rfl .no (.u rfl) ?_
    refine asg rfl .no (.u rfl) ?_
    refine asg rfl .no (.u rfl) ?_
    refine .nil ?_
    refine .code ?_
    refine .ret ?_
    refine we_fr .here (fun b hb => by cases hb) ?_
    intro Gf hh hlef hv hcap hnn hrd; subst hv
    refine We.fin0 Try.results17 (.tmp rfl (.tmp rfl .nil)) ?_
    have hko : k = M.length := by omega
    subst hko
    rw [List.take_length] at hcap hnn hrd
    exact ⟨rfl, hh, by rw [List.take_length]; rfl, SlR.ofRow (metas_len _) hcap hnn hrd⟩

theorem PickThere_ok (s : State) (hd : Nat → Sh) (G : PM) (hs : StR G s hd) (o : Opts) (turn : Int) (ht0 : 0 ≤ turn) (ht1 : turn < 18446744073709551616) : Ct Try.prog 5 ([s.val hd, o.val, .int .u64 turn] : List Value).toArray G [] (fun _ μ' u => μ' = [] ∧ u = .bool true) := by
  refine Ct.of Try.func5 rfl Try.ntmps5 rfl fun w0 hs0 => ?_
  refine .seq ?_
  refine Wk.rg [0, 1, 2] rfl rfl ?_
  refine bx rfl (.u rfl) rfl ?_; intro b3
  refine bx rfl (.u rfl) rfl ?_; intro b4
  refine asg rfl .no (.u rfl) ?_
  refine .nil ?_
  refine .code ?_
  refine .seq ?_
  refine Wk.rg [0, 1] rfl rfl ?_
  refine kv rfl .no Fx.go8 Eva.nil (fun _ => shown_ok _) ?_
  refine asg rfl .no (.u rfl) ?_
  refine .nil ?_
  refine .code ?_
  refine .seq ?_
  refine .seq ?_
  refine Wk.rg [0, 1, 2] rfl rfl ?_
  refine lA rfl .no Fx.ag35 (.u rfl) (fun _ => RdN.own (.there .here)) (fun _ => rfl) ?_
  refine kv rfl .no Fx.go13 (Eva.cons (.u rfl) Eva.nil) (fun _ => light_ok _ _ _ (by assumption)) ?_
  refine nt rfl .no (.u rfl) ?_
  refine .nil ?_
  refine .code ?_
  refine .cond rfl (fun c1 => ?_) (fun c1 => ?_)
  · have c1k := c1
    try simp only [decide_eq_false_iff_not, Int.not_le, Bool.not_eq_true'] at c1
    refine .seq ?_
    refine Wk.rg [0, 1] rfl rfl ?_
    refine mv rfl .no (.u rfl) ?_
    refine asg rfl .no (.u rfl) ?_
    refine .nil ?_
    refine .code ?_
    refine .ret ?_
    refine We.fin0 Try.results5 (.tmp rfl .nil) ?_
    exact ⟨rfl, rfl⟩
  · have c1k := c1
    try simp only [decide_eq_true_eq, Bool.not_eq_false'] at c1
    refine .skip ?_
    refine .code ?_
    refine .seq ?_
    refine Wk.rg [0, 1, 2, 3, 4, 5, 6, 7, 8, 9] rfl rfl ?_
    refine lA rfl .no Fx.ag35 (.u rfl) (fun _ => RdN.own (.there .here)) (fun _ => rfl) ?_
    refine lA rfl .no Fx.ag25 (.u rfl) (fun _ => RdN.own .here) (fun _ => rfl) ?_
    refine mv rfl .no (.u rfl) ?_
    refine kc rfl Fx.go14 (Eva.cons (.u rfl) (Eva.cons (.u rfl) (Eva.cons (.u rfl) Eva.nil))) (Pick_ok s hd _ hs o turn ht0 ht1) ?_
    rintro v1 G1 μ1 hG1 ⟨rfl, j1, j2, rfl, hJ1⟩
    simp only [lay, List.nil_append]
    have hs1 := hs.mono hG1
    generalize hpj : pickJ s o turn = pj at hJ1 ⊢
    obtain ⟨j, isj⟩ := pj
    dsimp only at hJ1 ⊢
    refine mv rfl .no (.u rfl) ?_
    refine ex rfl .no (.u rfl) rfl ?_
    refine ex rfl .no (.u rfl) rfl ?_
    refine al rfl Fx.zr39 ?_; intro b8
    refine sw rfl (.u rfl) (.u rfl) rfl Fx.sz39 .here rfl (Job.one _ _ _) ?_
    refine asg rfl .no (.u rfl) ?_
    refine .nil ?_
    refine .code ?_
    refine .seq ?_
    refine .seq ?_
    refine Wk.rg [0, 1] rfl rfl ?_
    refine mv rfl .no (.u rfl) ?_
    refine nt rfl .no (.u rfl) ?_
    refine .nil ?_
    refine .code ?_
    refine .cond rfl (fun c2 => ?_) (fun c2 => ?_)
    · have c2k := c2
      try simp only [Bool.not_eq_true'] at c2
      refine .seq ?_
      refine Wk.rg [0, 1, 2, 3, 4, 5, 6] rfl rfl ?_
      refine mv rfl .no (.u rfl) ?_
      refine mv rfl .no (.u rfl) ?_
      refine lA rfl (.t rfl rfl) Fx.ag39 (.u rfl) (fun _ => RdN.own .here) (fun _ => rfl) ?_
      refine bC rfl (.t rfl rfl) Fx.bp39_ .nil rfl ?_
      refine kv rfl (.t rfl rfl) Fx.go16 (Eva.cons (.s rfl) (Eva.cons (.s rfl) Eva.nil)) (fun hc => Same_ok _ Job.zero _ _ ⟨none, 0⟩ ⟨none, 0⟩ _ hJ1 JobR.zero) ?_
      refine pkA rfl .no (.u rfl) (.s rfl) ?_
      refine asg rfl .no (.u rfl) ?_
      refine .nil ?_
      refine .code ?_
      refine .ret ?_
      refine We.fin0 Try.results5 (.tmp rfl .nil) ?_
      obtain rfl : isj = false := by simpa using c2k
      obtain rfl := pick_false hpj
      exact ⟨rfl, by simp [tup, sameJ_self]⟩
    · have c2k := c2
      try simp only [Bool.not_eq_false'] at c2
      refine .skip ?_
      refine .code ?_
      refine .seq ?_
      refine .seq ?_
      refine Wk.rg [0, 1, 2, 3, 4, 5, 6, 7, 8, 9, 10, 11, 12, 13, 14, 15, 16, 17, 18, 19, 20, 21, 22, 23, 24, 25, 26, 27, 28, 29, 30, 31, 32, 33] rfl rfl ?_
      obtain rfl : isj = true := by simpa using c2k
      obtain ⟨hrs, LM, HM, hf⟩ := pick_jf ht0 hpj
      obtain ⟨why, lev, to, low, high⟩ := j
      obtain rfl : low = nums LM := hf.low
      obtain rfl : high = nums HM := hf.high
      have hl0 : 0 ≤ lev := hf.l0
      have hl5 : lev < 5 := hf.l5
      have hq0 : lev ≤ to := hf.t0
      have hq1 : to ≤ lev + 1 := hf.t1
      have hq5 : to < 5 := hf.t5
      have hne : 0 < LM.length := hf.ne
      have hnl : (nums LM).length = LM.length := nums_len LM
      have hlv0 := hs.len 0 (by omega)
      dsimp only [Job.cells]
      refine fz rfl .no Fx.fo39_1 (.u rfl) ?_
      refine ld rfl .no Fx.ag3 (.u rfl) (fun _ => Rd.own .here rfl) ?_
      refine cp rfl .no (.u rfl) (.u rfl) rfl ?_
      refine mv rfl .no (.u rfl) ?_
      refine fz rfl (.f rfl rfl) Fx.fo39_1 (.u rfl) ?_
      refine ld rfl (.f rfl rfl) Fx.ag3 (.s rfl) (fun _ => Rd.own .here rfl) ?_
      refine cp rfl (.f rfl rfl) (.s rfl) (.u rfl) rfl ?_
      refine pkO rfl .no (.u rfl) (.s rfl) ?_
      refine mv rfl .no (.u rfl) ?_
      refine fz rfl (.f rfl rfl) Fx.fo39_2 (.u rfl) ?_
      refine ld rfl (.f rfl rfl) Fx.ag3 (.s rfl) (fun _ => Rd.own .here rfl) ?_
      refine fz rfl (.f rfl rfl) Fx.fo39_1 (.u rfl) ?_
      refine ld rfl (.f rfl rfl) Fx.ag3 (.s rfl) (fun _ => Rd.own .here rfl) ?_
      refine cp rfl (.f rfl rfl) (.s rfl) (.s rfl) rfl ?_
      refine pkO rfl .no (.u rfl) (.s rfl) ?_
      refine mv rfl .no (.u rfl) ?_
      refine fz rfl (.f rfl rfl) Fx.fo39_2 (.u rfl) ?_
      refine ld rfl (.f rfl rfl) Fx.ag3 (.s rfl) (fun _ => Rd.own .here rfl) ?_
      refine fz rfl (.f rfl rfl) Fx.fo39_1 (.u rfl) ?_
      refine ld rfl (.f rfl rfl) Fx.ag3 (.s rfl) (fun _ => Rd.own .here rfl) ?_
      refine ar rfl (.f rfl rfl) (.s rfl) (.u rfl) rfl (fun hc => wrap_i64 (by omega) (by omega)) ?_
      refine cp rfl (.f rfl rfl) (.s rfl) (.s rfl) rfl ?_
      refine pkO rfl .no (.u rfl) (.s rfl) ?_
      refine mv rfl .no (.u rfl) ?_
      refine fz rfl (.f rfl rfl) Fx.fo39_2 (.u rfl) ?_
      refine ld rfl (.f rfl rfl) Fx.ag3 (.s rfl) (fun _ => Rd.own .here rfl) ?_
      refine cp rfl (.f rfl rfl) (.s rfl) (.u rfl) rfl ?_
      refine pkO rfl .no (.u rfl) (.s rfl) ?_
      refine mv rfl .no (.u rfl) ?_
      refine fz rfl (.f rfl rfl) Fx.fo39_3 (.u rfl) ?_
      refine ld rfl (.f rfl rfl) Fx.ag37 (.s rfl) (fun _ => Rd.own .here rfl) ?_
      refine ln rfl (.f rfl rfl) Fx.sn37 (.s rfl) ?_
      refine cp rfl (.f rfl rfl) (.s rfl) (.u rfl) rfl ?_
      refine pkO rfl .no (.u rfl) (.s rfl) ?_
      refine .nil ?_
      refine .code ?_
      refine .cond rfl (fun c3 => ?_) (fun c3 => ?_)
      · have c3k := c3
        exfalso; simp only [Bool.or_eq_true, decide_eq_true_eq, beq_iff_eq] at c3k; omega
      · have c3k := c3
        try simp only [decide_eq_false_iff_not, Int.not_lt, Int.not_le, gt_iff_lt, ge_iff_le, Bool.or_eq_false_iff] at c3
        refine .skip ?_
        refine .code ?_
        refine .seq ?_
        refine Wk.rg [0, 1, 2, 3, 4, 5, 6, 7, 8, 9, 10] rfl rfl ?_
        refine lA rfl .no Fx.ag35 (.u rfl) (fun _ => RdN.own (.there (.there .here))) (fun _ => rfl) ?_
        refine fz rfl .no Fx.fo39_1 (.u rfl) ?_
        refine ld rfl .no Fx.ag3 (.u rfl) (fun _ => Rd.own .here rfl) ?_
        refine fz rfl .no Fx.fo39_3 (.u rfl) ?_
        refine ld rfl .no Fx.ag37 (.u rfl) (fun _ => Rd.own .here rfl) ?_
        refine kc rfl Fx.go17 (Eva.cons (.u rfl) (Eva.cons (.u rfl) (Eva.cons (.u rfl) Eva.nil))) (find_ok s hd _ hs1 lev hl0 hl5 j1 LM hJ1.low hJ1.lenL (lv_pair (rightP_of hrs) (by omega)) hf.lowIn) ?_
        rintro v2 G2 μ2 hG2 ⟨rfl, k1, rfl, hk1⟩
        simp only [lay, List.nil_append]
        refine mv rfl .no (.u rfl) ?_
        refine ex rfl .no (.u rfl) rfl ?_
        refine ex rfl .no (.u rfl) rfl ?_
        refine asg rfl .no (.u rfl) ?_
        refine asg rfl .no (.u rfl) ?_
        refine .nil ?_
        refine .code ?_
        refine .seq ?_
        refine Wk.rg [0, 1, 2, 3, 4, 5, 6, 7, 8, 9, 10] rfl rfl ?_
        refine lA rfl .no Fx.ag35 (.u rfl) (fun _ => RdN.own (.there (.there .here))) (fun _ => rfl) ?_
        refine fz rfl .no Fx.fo39_2 (.u rfl) ?_
        refine ld rfl .no Fx.ag3 (.u rfl) (fun _ => Rd.own .here rfl) ?_
        refine fz rfl .no Fx.fo39_4 (.u rfl) ?_
        refine ld rfl .no Fx.ag37 (.u rfl) (fun _ => Rd.own .here rfl) ?_
        refine kc rfl Fx.go17 (Eva.cons (.u rfl) (Eva.cons (.u rfl) (Eva.cons (.u rfl) Eva.nil))) (find_ok s hd _ (hs1.mono hG2) to (by omega) hq5 j2 HM (hJ1.high.mono hG2) hJ1.lenH (lv_pair (rightP_of hrs) (by omega)) hf.highIn) ?_
        rintro v3 G3 μ3 hG3 ⟨rfl, k2, rfl, hk2⟩
        simp only [lay, List.nil_append]
        refine mv rfl .no (.u rfl) ?_
        refine ex rfl .no (.u rfl) rfl ?_
        refine ex rfl .no (.u rfl) rfl ?_
        refine asg rfl .no (.u rfl) ?_
        refine asg rfl .no (.u rfl) ?_
        refine .nil ?_
        refine .code ?_
        refine .seq ?_
        refine .seq ?_
        refine Wk.rg [0, 1, 2, 3, 4, 5, 6, 7, 8, 9, 10, 11, 12, 13, 14, 15, 16, 17, 18, 19, 20, 21, 22] rfl rfl ?_
        refine mv rfl .no (.u rfl) ?_
        refine nt rfl .no (.u rfl) ?_
        refine mv rfl .no (.u rfl) ?_
        refine mv rfl (.f rfl rfl) (.u rfl) ?_
        refine nt rfl (.f rfl rfl) (.s rfl) ?_
        refine pkO rfl .no (.u rfl) (.s rfl) ?_
        refine mv rfl .no (.u rfl) ?_
        refine fz rfl (.f rfl rfl) Fx.fo39_2 (.u rfl) ?_
        refine ld rfl (.f rfl rfl) Fx.ag3 (.s rfl) (fun _ => Rd.own .here rfl) ?_
        refine fz rfl (.f rfl rfl) Fx.fo39_1 (.u rfl) ?_
        refine ld rfl (.f rfl rfl) Fx.ag3 (.s rfl) (fun _ => Rd.own .here rfl) ?_
        refine cp rfl (.f rfl rfl) (.s rfl) (.s rfl) rfl ?_
        refine mv rfl (.f rfl rfl) (.s rfl) ?_
        refine mv rfl (.tc rfl rfl) (.u rfl) ?_
        refine ln rfl (.tc rfl rfl) Fx.sn30 (.s rfl) ?_
        refine cp rfl (.tc rfl rfl) (.s rfl) (.u rfl) rfl ?_
        refine mv rfl (.tc rfl rfl) (.s rfl) ?_
        refine mv rfl (.fc rfl rfl) (.u rfl) ?_
        refine ln rfl (.fc rfl rfl) Fx.sn30 (.s rfl) ?_
        refine cp rfl (.fc rfl rfl) (.s rfl) (.u rfl) rfl ?_
        refine pkO rfl (.tc rfl rfl) (.s rfl) (.s rfl) ?_
        refine pkA rfl (.f rfl rfl) (.s rfl) (.s rfl) ?_
        refine pkO rfl .no (.u rfl) (.s rfl) ?_
        refine .nil ?_
        refine .code ?_
        refine .cond rfl (fun c4 => ?_) (fun c4 => ?_)
        · have c4k := c4
          exfalso
          by_cases he : to = lev
          · obtain ⟨m, rfl, rfl, _⟩ := hf.stay he
            simp at c4k
          · simp [he] at c4k
        · have c4k := c4
          try simp only [Bool.or_eq_false_iff, Bool.not_eq_false'] at c4
          refine .skip ?_
          refine .code ?_
          refine .seq ?_
          refine .seq ?_
          refine Wk.rg [0, 1, 2, 3, 4] rfl rfl ?_
          refine fz rfl .no Fx.fo39_2 (.u rfl) ?_
          refine ld rfl .no Fx.ag3 (.u rfl) (fun _ => Rd.own .here rfl) ?_
          refine fz rfl .no Fx.fo39_1 (.u rfl) ?_
          refine ld rfl .no Fx.ag3 (.u rfl) (fun _ => Rd.own .here rfl) ?_
          refine cp rfl .no (.u rfl) (.u rfl) rfl ?_
          refine .nil ?_
          refine .code ?_
          refine .cond rfl (fun c5 => ?_) (fun c5 => ?_)
          · have c5k := c5
            try simp only [decide_eq_true_eq, decide_eq_false_iff_not, Int.not_lt, Int.not_le, gt_iff_lt, ge_iff_le, Bool.or_eq_true, Bool.and_eq_true, Bool.or_eq_false_iff, Bool.not_eq_true', Bool.not_eq_false', Int.toNat_natCast] at c5
            refine .seq ?_
            refine Wk.draw (mc := false) [0, 1, 2, 3, 4, 5, 6, 7, 8, 9, 10, 11, 12, 13] Fx.mix (by kernel_rfl) ?_
            refine mv rfl .no (.u rfl) ?_
            refine mv rfl .no (.u rfl) ?_
            refine mv rfl (.t rfl rfl) (.u rfl) ?_
            refine ih rfl (.t rfl rfl) Fx.se30 (.u rfl) (.u rfl) (fun _ => by decide) (fun _ => by omega) (fun _ => hk1.nn (k := 0) hne) ?_
            refine fa rfl (.t rfl rfl) Fx.fo49_1 (.u rfl) ?_
            refine ld rfl (.t rfl rfl) Fx.ag32 (.u rfl) (fun _ => ((hk1.mono hG3).gat 0 rfl hne 1 _ rfl).rd) ?_
            refine fz rfl (.t rfl rfl) Fx.fo39_1 (.u rfl) ?_
            refine ld rfl (.t rfl rfl) Fx.ag3 (.u rfl) (fun _ => Rd.own .here rfl) ?_
            refine fz rfl (.t rfl rfl) Fx.fo35_5 (.u rfl) ?_
            refine iA rfl (.t rfl rfl) Fx.ar33 (.u rfl) (.u rfl) (fun _ => by omega) (fun _ => by omega) ?_
            refine ld rfl (.t rfl rfl) Fx.ag32 (.u rfl) (fun _ => Rd.own (.there (.there .here)) (s.cell_gen hd (k := lev.toNat) (by omega))) ?_
            refine cp rfl (.t rfl rfl) (.u rfl) (.u rfl) rfl ?_
            refine pkA rfl .no (.u rfl) (.u rfl) ?_
            refine asg rfl .no (.u rfl) ?_
            refine .nil ?_
            refine .code ?_
            refine .ret ?_
            refine We.fin0 Try.results5 (.tmp rfl .nil) ?_
            obtain ⟨m, rfl, _, hol⟩ := hf.stay (by simpa using c5k)
            exact ⟨rfl, by simpa [tup, isOld] using hol⟩
          · have c5k := c5
            try simp only [decide_eq_true_eq, decide_eq_false_iff_not, Int.not_lt, Int.not_le, gt_iff_lt, ge_iff_le, Bool.or_eq_true, Bool.and_eq_true, Bool.or_eq_false_iff, Bool.not_eq_true', Bool.not_eq_false', Int.toNat_natCast] at c5
            refine .skip ?_
            refine .code ?_
            refine .seq ?_
            refine Wk.draw (mc := false) [0, 1, 2, 3, 4, 5, 6, 7, 8, 9] Fx.mix (by kernel_rfl) ?_
            obtain ⟨hHM, hlv⟩ : HM = ovl s to (lowMin LM) (lowMax LM) ∧ (0 < lev ∨ LM = s.lv 0) := hf.down (by simpa using c5k)
            subst hHM
            have hlm : LM.length * 112 ≤ 140737488351232 := by rw [← hnl]; exact hJ1.lenL
            refine mv rfl .no (.u rfl) ?_
            refine ih rfl .no Fx.se30 (.u rfl) (.u rfl) (fun _ => by decide) (fun _ => by omega) (fun _ => hk1.nn (k := 0) hne) ?_
            refine fa rfl .no Fx.fo49_6 (.u rfl) ?_
            refine ld rfl .no Fx.ag9 (.u rfl) (fun _ => ((hk1.mono hG3).gat 0 rfl hne 6 _ rfl).rd) ?_
            refine mv rfl .no (.u rfl) ?_
            refine ih rfl .no Fx.se30 (.u rfl) (.u rfl) (fun _ => by decide) (fun _ => by omega) (fun _ => hk1.nn (k := 0) hne) ?_
            refine fa rfl .no Fx.fo49_7 (.u rfl) ?_
            refine ld rfl .no Fx.ag9 (.u rfl) (fun _ => ((hk1.mono hG3).gat 0 rfl hne 7 _ rfl).rd) ?_
            refine asg rfl .no (.u rfl) ?_
            refine asg rfl .no (.u rfl) ?_
            refine .nil ?_
            refine .code ?_
            refine .seq ?_
            refine .seq ?_
            refine Wk.rg [0, 1, 2] rfl rfl ?_
            refine mv rfl .no (.u rfl) ?_
            refine ln rfl .no Fx.sn30 (.u rfl) ?_
            refine mv rfl .no (.u rfl) ?_
            refine .nil ?_
            refine .code ?_
            refine .block ?_
            refine Wk.lop (α := Nat) (fun k => [(14, true, .string (fmin (LM.take k) (LM.getD 0 Meta.zero).min)), (15, true, .string (fmax (LM.take k) (LM.getD 0 Meta.zero).max)), (141, true, .int .i64 (k : Int))]) (fun _ => [])
              (fun k Gl => k ≤ LM.length) (fun k => LM.length - k) 0 [(3, true, _), (7, true, _), (8, true, _), (10, true, _), (12, true, _), (139, true, _), (140, true, _)] [.blk b8 _, .blk b4 _, .blk b3 _]
              (ESub.cons rfl rfl (ESub.cons rfl rfl (ESub.cons rfl rfl (ESub.cons rfl rfl (ESub.cons rfl rfl (ESub.cons rfl rfl (ESub.cons rfl rfl (ESub.cons rfl rfl (ESub.cons rfl rfl (ESub.cons rfl rfl ESub.nil))))))))))
              (MSub.cons .here rfl (MSub.cons .here rfl (MSub.cons .here rfl MSub.nil))) ?_ ?_
            · show 0 ≤ LM.length; omega
            intro k N0 Gl0 hN0 hGl0 hF0
            try dsimp only at hF0 hN0 ⊢
            have hk : k ≤ LM.length := hF0
            refine .seq ?_
            refine Wk.rg [0] rfl rfl ?_
            refine cp rfl .no (.u rfl) (.u rfl) rfl ?_
            refine .nil ?_
            refine .code ?_
            refine .seq ?_
            refine .cond rfl (fun c6 => ?_) (fun c6 => ?_)
            · have c6k := c6
              try simp only [decide_eq_true_eq] at c6
              refine .skip ?_
              refine .code ?_
              refine .seq ?_
              refine .block ?_
              refine .seq ?_
              refine Wk.rg [0, 1, 2, 3] rfl rfl ?_
              refine ih rfl .no Fx.se30 (.u rfl) (.u rfl) (fun _ => by omega) (fun _ => by omega) (fun _ => hk1.nn (k := k) (by omega)) ?_
              refine lA rfl .no Fx.ag49 (.u rfl) (fun _ => (((hk1.mono hG3).mono hGl0).gat k (by omega) (by omega)).rd) (fun _ => rfl) ?_
              refine al rfl Fx.zr49 ?_; intro b17
              refine sw rfl (.u rfl) (.u rfl) rfl Fx.sz49 .here rfl (Meta.one _) ?_
              refine .nil ?_
              refine .code ?_
              refine Wk.draw (mc := false) [0, 1, 2, 3, 4, 5, 6, 7, 8, 9] Fx.mix (by kernel_rfl) ?_
              refine mv rfl .no (.u rfl) ?_
              refine fz rfl .no Fx.fo49_6 (.u rfl) ?_
              refine ld rfl .no Fx.ag9 (.u rfl) (fun _ => Rd.own .here rfl) ?_
              refine mi rfl .no (.u rfl) (.u rfl) ?_
              refine mv rfl .no (.u rfl) ?_
              refine fz rfl .no Fx.fo49_7 (.u rfl) ?_
              refine ld rfl .no Fx.ag9 (.u rfl) (fun _ => Rd.own .here rfl) ?_
              refine ma rfl .no (.u rfl) (.u rfl) ?_
              refine asg rfl .no (.u rfl) ?_
              refine asg rfl .no (.u rfl) ?_
              refine .nil ?_
              refine .blk ?_
              refine .code ?_
              refine Wk.rg [0, 1] rfl rfl ?_
              refine ar rfl .no (.u rfl) (.u rfl) rfl (fun _ => wrap_i64 (by omega) (by omega)) ?_
              refine mv rfl .no (.u rfl) ?_
              refine .nil ?_
              refine We.lpo (k + 1) ?_ ?_ ?_ ?_ ?_
              · exact (ESub.cons rfl (congrArg _ (fmin_snoc (by omega)).symm) (ESub.cons rfl (congrArg _ (fmax_snoc (by omega)).symm) (ESub.cons rfl rfl (ESub.cons rfl rfl (ESub.cons rfl rfl (ESub.cons rfl rfl (ESub.cons rfl rfl (ESub.cons rfl rfl (ESub.cons rfl rfl (ESub.cons rfl rfl ESub.nil))))))))))
              · exact (MSub.cons (.there .here) rfl (MSub.cons (.there .here) rfl (MSub.cons (.there .here) rfl MSub.nil)))
              · first | omega | (dsimp only; omega)
              · exact hGl0
              · show k + 1 ≤ LM.length; omega
            · have c6k := c6
              try simp only [decide_eq_false_iff_not, Int.not_lt] at c6
              refine .exit ?_
              refine .xcode ?_
              refine .xlp ?_
              refine .xblk ?_
              refine .code ?_
              refine .seq ?_
              refine Wk.rg [0, 1, 2, 3, 4, 5, 6, 7, 8, 9, 10, 11, 12, 13, 14, 15, 16, 17, 18, 19, 20, 21, 22, 23, 24, 25] rfl rfl ?_
              obtain rfl : k = LM.length := by omega
              simp only [List.take_length]
              refine mv rfl .no (.u rfl) ?_
              refine mv rfl .no (.u rfl) ?_
              refine mv rfl (.t rfl rfl) (.u rfl) ?_
              refine lA rfl (.t rfl rfl) Fx.ag35 (.u rfl) (fun _ => RdN.own (.there (.there .here))) (fun _ => rfl) ?_
              refine fz rfl (.t rfl rfl) Fx.fo39_2 (.u rfl) ?_
              refine ld rfl (.t rfl rfl) Fx.ag3 (.u rfl) (fun _ => Rd.own .here rfl) ?_
              refine mv rfl (.t rfl rfl) (.u rfl) ?_
              refine mv rfl (.t rfl rfl) (.u rfl) ?_
              refine kcg rfl rfl (.t rfl rfl) Fx.go19 (Eva.cons (.u rfl) (Eva.cons (.u rfl) (Eva.cons (.u rfl) (Eva.cons (.u rfl) Eva.nil)))) (over_ok s hd _ (((hs1.mono hG2).mono hG3).mono hGl0) to _ _) ?_
              rintro v4 G4 μ4 hG4 ⟨rfl, k4, rfl, hk4⟩
              simp only [lay, List.nil_append]
              refine kv rfl (.t rfl rfl) Fx.go18 (Eva.cons (.u rfl) (Eva.cons (.u rfl) Eva.nil)) (fun _ => SameMetas_ok _ _ (ovl s to (lowMin LM) (lowMax LM)) _ ((hk2.mono hGl0).mono hG4) hk4 (ovl_len hs _ _ _) (fun m hm => hs.wf to.toNat (by omega) m (ovl_in_lv hm))) ?_
              refine pkA rfl .no (.u rfl) (.u rfl) ?_
              refine mv rfl .no (.u rfl) ?_
              refine fz rfl (.t rfl rfl) Fx.fo39_1 (.u rfl) ?_
              refine ld rfl (.t rfl rfl) Fx.ag3 (.s rfl) (fun _ => Rd.own .here rfl) ?_
              refine cp rfl (.t rfl rfl) (.s rfl) (.u rfl) rfl ?_
              refine mv rfl (.t rfl rfl) (.s rfl) ?_
              refine mv rfl (.fc rfl rfl) (.u rfl) ?_
              refine ln rfl (.fc rfl rfl) Fx.sn30 (.s rfl) ?_
              refine fz rfl (.fc rfl rfl) Fx.fo35_0 (.u rfl) ?_
              refine iA rfl (.fc rfl rfl) Fx.ar31 (.s rfl) (.u rfl) (fun hc => by decide) (fun hc => by decide) ?_
              refine ld rfl (.fc rfl rfl) Fx.ag30 (.s rfl) (fun _ => Rd.own (.there (.there .here)) rfl) ?_
              refine ln rfl (.fc rfl rfl) Fx.sn30 (.s rfl) ?_
              refine cp rfl (.fc rfl rfl) (.s rfl) (.s rfl) rfl ?_
              refine pkO rfl (.t rfl rfl) (.s rfl) (.s rfl) ?_
              refine pkA rfl .no (.u rfl) (.s rfl) ?_
              refine asg rfl .no (.u rfl) ?_
              refine .nil ?_
              refine .code ?_
              refine .ret ?_
              refine We.fin0 Try.results5 (.tmp rfl .nil) ?_
              refine ⟨rfl, ?_⟩
              rcases hlv with hlv | hlv
              · have h1 : 0 < lev := hlv
                simp [tup, h1]
              · simp [tup, hlv]

end Go.Proofs.Ytnhipfnbnilleaa
