/- Contracts of functions, walked. -/
import Derived.Test.YtnhipfnbnilleaaPickD
namespace Go.Proofs.Ytnhipfnbnilleaa
open Go.Tan Go.RowKit

theorem numbers_ok (h : Sh) (l : List Meta) (G : PM) (hs : SlR G 40 Meta.cells h l) (hl : l.length * 112 ≤ 140737488351232) : Ct Try.prog 31 ([h.val l.length] : List Value).toArray G [] (fun G' μ' u => μ' = [] ∧ ∃ h : Sh, u = h.val (nums l).length ∧ SlR G' 1 encU h (nums l)) := by
  refine Ct.of Try.func31 rfl Try.ntmps31 rfl fun w0 hs0 => ?_
  refine .seq ?_
  refine Wk.rg [0] rfl rfl ?_
  refine asg rfl .no (.u rfl) ?_
  refine .nil ?_
  refine .code ?_
  refine .seq ?_
  refine Wk.rg [0] rfl rfl ?_
  refine asg rfl .no (.u rfl) ?_
  refine .nil ?_
  refine .code ?_
  refine .seq ?_
  refine .seq ?_
  refine Wk.rg [0, 1, 2] rfl rfl ?_
  refine mv rfl .no (.u rfl) ?_
  refine ln rfl .no Fx.sn30 (.u rfl) ?_
  refine mv rfl .no (.u rfl) ?_
  refine .nil ?_
  refine .code ?_
  refine .block ?_
  refine wk_nilRow 32 1 ?_
  refine Wk.lop (α := Nat × Value) (fun gh => [(3, true, gh.2), (8, true, .int .i64 (gh.1 : Int))]) (fun gh => [.row gh.2 32 1 gh.1 ((nums (l.take gh.1)).flatMap encU)])
    (fun gh Gl => gh.1 ≤ l.length) (fun gh => l.length - gh.1) (0, .slice none 0 0) [(6, true, _), (7, true, _)] []
    (ESub.cons rfl rfl (ESub.cons rfl rfl (ESub.cons rfl rfl (ESub.cons rfl rfl ESub.nil))))
    (MSub.cons .here rfl MSub.nil) ?_ ?_
  · show 0 ≤ l.length; omega
  intro gh N0 Gl0 hN0 hGl0 hF0
  obtain ⟨k, v⟩ := gh; dsimp only at hF0 hN0 ⊢
  have hk : k ≤ l.length := hF0
  refine .seq ?_
  refine Wk.rg [0] rfl rfl ?_
  refine cp rfl .no (.u rfl) (.u rfl) rfl ?_
  refine .nil ?_
  refine .code ?_
  refine .seq ?_
  refine .cond rfl (fun c1 => ?_) (fun c1 => ?_)
  · have c1k := c1
    try simp only [decide_eq_true_eq] at c1
    refine .skip ?_
    refine .code ?_
    refine .seq ?_
    refine .block ?_
    refine .seq ?_
    refine Wk.rg [0, 1, 2, 3] rfl rfl ?_
    refine ih rfl .no Fx.se30 (.u rfl) (.u rfl) (fun _ => by omega) (fun _ => by omega) (fun _ => hs.nn (k := k) (by omega)) ?_
    refine lA rfl .no Fx.ag49 (.u rfl) (fun _ => ((hs.mono hGl0).gat k (by omega) (by omega)).rd) (fun _ => rfl) ?_
    refine al rfl Fx.zr49 ?_; intro b5
    refine sw rfl (.u rfl) (.u rfl) rfl Fx.sz49 .here rfl (Meta.one _) ?_
    refine .nil ?_
    refine .code ?_
    refine Wk.rg [0, 1, 2, 3, 4, 5] rfl rfl ?_
    refine mv rfl .no (.u rfl) ?_
    refine fz rfl .no Fx.fo49_3 (.u rfl) ?_
    refine ld rfl .no Fx.ag32 (.u rfl) (fun _ => Rd.own .here rfl) ?_
    refine Go.Tan.b1 rfl Fx.se37 Fx.zv32 (.u rfl) rfl rfl (by decide) ?_; intro b15
    refine ap rfl Fx.se37 Fx.zv32 rfl (.u rfl) (.u rfl) (.there (.there .here)) (rfl) (fun _ => ⟨_, _, rfl, RdN.own .here⟩) (by simp [Value.oneCell']) (by omega) (by unfold maxLen; omega) ?_; intro v16
    refine asg rfl .no (.u rfl) ?_
    refine .nil ?_
    refine .blk ?_
    refine .code ?_
    refine Wk.rg [0, 1] rfl rfl ?_
    refine ar rfl .no (.u rfl) (.u rfl) rfl (fun _ => wrap_i64 (by omega) (by omega)) ?_
    refine mv rfl .no (.u rfl) ?_
    refine .nil ?_
    refine We.lpo (k + 1, v16) ?_ ?_ ?_ ?_ ?_
    · exact (ESub.cons rfl rfl (ESub.cons rfl rfl (ESub.cons rfl rfl (ESub.cons rfl rfl ESub.nil))))
    · exact (MSub.cons .here (num_row (by omega)) MSub.nil)
    · first | omega | (dsimp only; omega)
    · exact hGl0
    · show k + 1 ≤ l.length; omega
  · have c1k := c1
    try simp only [decide_eq_false_iff_not, Int.not_lt] at c1
    refine .exit ?_
    refine .xcode ?_
    refine .xlp ?_
    refine .xblk ?_
    refine .code ?_
    refine .seq ?_
    refine Wk.rg [0, 1] rfl rfl ?_
    refine mv rfl .no (.u rfl) ?_
    refine asg rfl .no (.u rfl) ?_
    refine .nil ?_
    refine .code ?_
    refine .ret ?_
    refine we_fr .here (fun b hb => by cases hb) ?_
    intro Gf hh hlef hv hcap hnn hrd; subst hv
    refine We.fin0 Try.results31 (.tmp rfl .nil) ?_
    obtain rfl : k = l.length := by omega
    exact ⟨rfl, hh, num_val l hh, SlR.ofRow (by simp [encU]) (by simpa [nums] using hcap) (fun _ => hnn (by simp_all [nums])) (by simpa using hrd)⟩

theorem rnumbers_ok (h : Sh) (l : List Meta) (G : PM) (hs : SlR G 40 Meta.cells h l) (hl : l.length * 112 ≤ 140737488351232) : Ct Try.prog 34 ([h.val l.length] : List Value).toArray G [] (fun G' μ' u => μ' = [] ∧ ∃ h : Sh, u = h.val (nums l).length ∧ SlR G' 1 encU h (nums l)) := by
  refine Ct.of Try.func34 rfl Try.ntmps34 rfl fun w0 hs0 => ?_
  refine .seq ?_
  refine Wk.rg [0] rfl rfl ?_
  refine asg rfl .no (.u rfl) ?_
  refine .nil ?_
  refine .code ?_
  refine .seq ?_
  refine Wk.rg [0] rfl rfl ?_
  refine asg rfl .no (.u rfl) ?_
  refine .nil ?_
  refine .code ?_
  refine .seq ?_
  refine .seq ?_
  refine Wk.rg [0] rfl rfl ?_
  refine asg rfl .no (.u rfl) ?_
  refine .nil ?_
  refine .code ?_
  refine .block ?_
  refine wk_nilRow 32 1 ?_
  refine Wk.lop (α := Nat × Value) (fun gh => [(3, true, gh.2), (4, true, .int .i64 (gh.1 : Int))]) (fun gh => [.row gh.2 32 1 gh.1 ((nums (l.take gh.1)).flatMap encU)])
    (fun gh Gl => gh.1 ≤ l.length) (fun gh => l.length - gh.1) (0, .slice none 0 0) [(0, true, _)] []
    (ESub.cons rfl rfl (ESub.cons rfl rfl (ESub.cons rfl rfl ESub.nil)))
    (MSub.cons .here rfl MSub.nil) ?_ ?_
  · show 0 ≤ l.length; omega
  intro gh N0 Gl0 hN0 hGl0 hF0
  obtain ⟨k, v⟩ := gh; dsimp only at hF0 hN0 ⊢
  have hk : k ≤ l.length := hF0
  refine .seq ?_
  refine .seq ?_
  refine Wk.rg [0, 1, 2, 3] rfl rfl ?_
  refine mv rfl .no (.u rfl) ?_
  refine mv rfl .no (.u rfl) ?_
  refine ln rfl .no Fx.sn30 (.u rfl) ?_
  refine cp rfl .no (.u rfl) (.u rfl) rfl ?_
  refine .nil ?_
  refine .code ?_
  refine .cond rfl (fun c1 => ?_) (fun c1 => ?_)
  · have c1k := c1
    try simp only [decide_eq_true_eq] at c1
    refine .skip ?_
    refine .code ?_
    refine .seq ?_
    refine .block ?_
    refine Wk.rg [0, 1, 2, 3, 4, 5, 6, 7, 8] rfl rfl ?_
    refine mv rfl .no (.u rfl) ?_
    refine mv rfl .no (.u rfl) ?_
    refine mv rfl .no (.u rfl) ?_
    refine ih rfl .no Fx.se30 (.u rfl) (.u rfl) (fun _ => by omega) (fun _ => by omega) (fun _ => hs.nn (k := k) (by omega)) ?_
    refine fa rfl .no Fx.fo49_3 (.u rfl) ?_
    refine ld rfl .no Fx.ag32 (.u rfl) (fun _ => ((hs.mono hGl0).gat k (by omega) (by omega) 3 _ rfl).rd) ?_
    refine Go.Tan.b1 rfl Fx.se37 Fx.zv32 (.u rfl) rfl rfl (by decide) ?_; intro b17
    refine ap rfl Fx.se37 Fx.zv32 rfl (.u rfl) (.u rfl) (.there .here) (rfl) (fun _ => ⟨_, _, rfl, RdN.own .here⟩) (by simp [Value.oneCell']) (by omega) (by unfold maxLen; omega) ?_; intro v17
    refine asg rfl .no (.u rfl) ?_
    refine .nil ?_
    refine .blk ?_
    refine .code ?_
    refine Wk.rg [0, 1, 2] rfl rfl ?_
    refine mv rfl .no (.u rfl) ?_
    refine ar rfl .no (.u rfl) (.u rfl) rfl (fun _ => wrap_i64 (by omega) (by omega)) ?_
    refine asg rfl .no (.u rfl) ?_
    refine .nil ?_
    refine We.lpo (k + 1, v17) ?_ ?_ ?_ ?_ ?_
    · exact (ESub.cons rfl rfl (ESub.cons rfl rfl (ESub.cons rfl rfl ESub.nil)))
    · exact (MSub.cons .here (num_row (by omega)) MSub.nil)
    · first | omega | (dsimp only; omega)
    · exact hGl0
    · show k + 1 ≤ l.length; omega
  · have c1k := c1
    try simp only [decide_eq_false_iff_not, Int.not_lt] at c1
    refine .exit ?_
    refine .xcode ?_
    refine .xlp ?_
    refine .xblk ?_
    refine .code ?_
    refine .seq ?_
    refine Wk.rg [0, 1] rfl rfl ?_
    refine mv rfl .no (.u rfl) ?_
    refine asg rfl .no (.u rfl) ?_
    refine .nil ?_
    refine .code ?_
    refine .ret ?_
    refine we_fr .here (fun b hb => by cases hb) ?_
    intro Gf hh hlef hv hcap hnn hrd; subst hv
    refine We.fin0 Try.results34 (.tmp rfl .nil) ?_
    obtain rfl : k = l.length := by omega
    exact ⟨rfl, hh, num_val l hh, SlR.ofRow (by simp [encU]) (by simpa [nums] using hcap) (fun _ => hnn (by simp_all [nums])) (by simpa using hrd)⟩

theorem over_ok (s : State) (hd : Nat → Sh) (G : PM) (hs : StR G s hd) (level : Int) (lo hi : ByteArray) : Ct Try.prog 19 ([s.val hd, .int .i64 level, .string lo, .string hi] : List Value).toArray G [] (fun G' μ' u => μ' = [] ∧ ∃ h : Sh, u = h.val (ovl s level lo hi).length ∧ SlR G' 40 Meta.cells h (ovl s level lo hi)) := by
  refine Ct.of Try.func19 rfl Try.ntmps19 rfl fun w0 hs0 => ?_
  refine .seq ?_
  refine Wk.rg [0, 1] rfl rfl ?_
  refine bx rfl (.u rfl) rfl ?_; intro b4
  refine asg rfl .no (.u rfl) ?_
  refine .nil ?_
  refine .code ?_
  refine .seq ?_
  refine Wk.rg [0] rfl rfl ?_
  refine asg rfl .no (.u rfl) ?_
  refine .nil ?_
  refine .code ?_
  refine .seq ?_
  refine .seq ?_
  refine Wk.rg [0, 1, 2, 3, 4, 5] rfl rfl ?_
  refine mv rfl .no (.u rfl) ?_
  refine cp rfl .no (.u rfl) (.u rfl) rfl ?_
  refine mv rfl .no (.u rfl) ?_
  refine mv rfl (.f rfl rfl) (.u rfl) ?_
  refine cp rfl (.f rfl rfl) (.s rfl) (.u rfl) rfl ?_
  refine pkO rfl .no (.u rfl) (.s rfl) ?_
  refine .nil ?_
  refine .code ?_
  refine .cond rfl (fun c1 => ?_) (fun c1 => ?_)
  · have c1k := c1
    try simp only [decide_eq_true_eq, ge_iff_le, Bool.or_eq_true] at c1
    refine .seq ?_
    refine Wk.rg [0] rfl rfl ?_
    refine asg rfl .no (.u rfl) ?_
    refine .nil ?_
    refine .code ?_
    refine .ret ?_
    refine We.fin0 Try.results19 (.tmp rfl .nil) ?_
    exact ⟨rfl, ⟨none, 0⟩, by rw [ovl_out c1]; rfl, by rw [ovl_out c1]; exact SlR.nul⟩
  · have c1k := c1
    try simp only [decide_eq_false_iff_not, Int.not_lt, Int.not_le, ge_iff_le, Bool.or_eq_false_iff] at c1
    refine .skip ?_
    refine .code ?_
    refine .seq ?_
    refine .seq ?_
    refine Wk.rg [0, 1, 2, 3, 4, 5] rfl rfl ?_
    have hli := hs.len level.toNat (by omega)
    refine mv rfl .no (.u rfl) ?_
    refine fz rfl .no Fx.fo35_0 (.u rfl) ?_
    refine iA rfl .no Fx.ar31 (.u rfl) (.u rfl) (fun _ => by omega) (fun _ => by omega) ?_
    refine ld rfl .no Fx.ag30 (.u rfl) (fun _ => Rd.own .here (s.cell_lv hd (k := level.toNat) (by omega))) ?_
    refine ln rfl .no Fx.sn30 (.u rfl) ?_
    refine mv rfl .no (.u rfl) ?_
    refine .nil ?_
    refine .code ?_
    refine .block ?_
    refine wk_nilRow 49 40 ?_
    refine Wk.lop (α := Nat × Value) (fun gh => [(9, true, gh.2), (23, true, .int .i64 (gh.1 : Int))]) (fun gh => [.row gh.2 49 40 (((s.lv level.toNat).take gh.1).filter (ovp lo hi)).length ((((s.lv level.toNat).take gh.1).filter (ovp lo hi)).flatMap Meta.cells)])
      (fun gh Gl => gh.1 ≤ (s.lv level.toNat).length) (fun gh => (s.lv level.toNat).length - gh.1) (0, .slice none 0 0) [(2, true, _), (3, true, _), (21, true, _), (22, true, _)] [.blk b4 _]
      (ESub.cons rfl rfl (ESub.cons rfl rfl (ESub.cons rfl rfl (ESub.cons rfl rfl (ESub.cons rfl rfl (ESub.cons rfl rfl ESub.nil))))))
      (MSub.cons .here rfl (MSub.cons .here rfl MSub.nil)) ?_ ?_
    · show 0 ≤ (s.lv level.toNat).length; omega
    intro gh N0 Gl0 hN0 hGl0 hF0
    obtain ⟨k, v⟩ := gh; dsimp only at hF0 hN0 ⊢
    have hk : k ≤ (s.lv level.toNat).length := hF0; have hfl := filt_len (s.lv level.toNat) (ovp lo hi) k
    refine .seq ?_
    refine Wk.rg [0] rfl rfl ?_
    refine cp rfl .no (.u rfl) (.u rfl) rfl ?_
    refine .nil ?_
    refine .code ?_
    refine .seq ?_
    refine .cond rfl (fun c2 => ?_) (fun c2 => ?_)
    · have c2k := c2
      try simp only [decide_eq_true_eq] at c2
      refine .skip ?_
      refine .code ?_
      refine .seq ?_
      refine .block ?_
      refine .seq ?_
      refine Wk.rg [0, 1, 2, 3] rfl rfl ?_
      refine ih rfl .no Fx.se30 (.u rfl) (.u rfl) (fun _ => by omega) (fun _ => by omega) (fun _ => (hs.lv level.toNat (by omega)).nn (k := k) (by omega)) ?_
      refine lA rfl .no Fx.ag49 (.u rfl) (fun _ => (((hs.mono hGl0).lv level.toNat (by omega)).gat k (by omega) (by omega)).rd) (fun _ => rfl) ?_
      refine al rfl Fx.zr49 ?_; intro b11
      refine sw rfl (.u rfl) (.u rfl) rfl Fx.sz49 .here rfl (Meta.one _) ?_
      refine .nil ?_
      refine .code ?_
      refine .seq ?_
      refine Wk.rg [0, 1, 2, 3, 4, 5, 6, 7, 8, 9] rfl rfl ?_
      refine fz rfl .no Fx.fo49_7 (.u rfl) ?_
      refine ld rfl .no Fx.ag9 (.u rfl) (fun _ => Rd.own .here rfl) ?_
      refine mv rfl .no (.u rfl) ?_
      refine cs rfl .no (.u rfl) (.u rfl) rfl ?_
      refine mv rfl .no (.u rfl) ?_
      refine fz rfl (.t rfl rfl) Fx.fo49_6 (.u rfl) ?_
      refine ld rfl (.t rfl rfl) Fx.ag9 (.s rfl) (fun _ => Rd.own .here rfl) ?_
      refine mv rfl (.t rfl rfl) (.u rfl) ?_
      refine cs rfl (.t rfl rfl) (.s rfl) (.s rfl) rfl ?_
      refine pkA rfl .no (.u rfl) (.s rfl) ?_
      refine .nil ?_
      refine .code ?_
      refine .cond rfl (fun c3 => ?_) (fun c3 => ?_)
      · have c3k := c3
        try simp only [Bool.or_eq_true, Bool.and_eq_true, Bool.not_eq_true'] at c3
        refine Wk.rg [0, 1, 2, 3, 4] rfl rfl ?_
        refine mv rfl .no (.u rfl) ?_
        refine lA rfl .no Fx.ag49 (.u rfl) (fun _ => RdN.own .here) (fun _ => rfl) ?_
        refine Go.Tan.b1 rfl Fx.se30 Fx.zv49 (.u rfl) rfl rfl (by decide) ?_; intro b39
        refine ap rfl Fx.se30 Fx.zv49 rfl (.u rfl) (.u rfl) (.there (.there .here)) (rfl) (fun _ => ⟨_, _, rfl, RdN.own .here⟩) (Meta.one _) (by omega) (by unfold maxLen; omega) ?_; intro v40
        refine asg rfl .no (.u rfl) ?_
        refine .nil ?_
        refine .blk ?_
        refine .code ?_
        refine Wk.rg [0, 1] rfl rfl ?_
        refine ar rfl .no (.u rfl) (.u rfl) rfl (fun _ => wrap_i64 (by omega) (by omega)) ?_
        refine mv rfl .no (.u rfl) ?_
        refine .nil ?_
        refine We.lpo (k + 1, v40) ?_ ?_ ?_ ?_ ?_
        · exact (ESub.cons rfl rfl (ESub.cons rfl rfl (ESub.cons rfl rfl (ESub.cons rfl rfl (ESub.cons rfl rfl (ESub.cons rfl rfl ESub.nil))))))
        · exact (MSub.cons .here (ov_yes (by omega) c3k) (MSub.cons (.there (.there .here)) rfl MSub.nil))
        · first | omega | (dsimp only; omega)
        · exact hGl0
        · show k + 1 ≤ (s.lv level.toNat).length; omega
      · have c3k := c3
        try simp only [decide_eq_true_eq, decide_eq_false_iff_not, Int.not_lt, Int.not_le, gt_iff_lt, ge_iff_le, Bool.or_eq_true, Bool.and_eq_true, Bool.or_eq_false_iff, Bool.not_eq_true', Bool.not_eq_false', Int.toNat_natCast] at c3
        refine .skip ?_
        refine .blk ?_
        refine .code ?_
        refine Wk.rg [0, 1] rfl rfl ?_
        refine ar rfl .no (.u rfl) (.u rfl) rfl (fun _ => wrap_i64 (by omega) (by omega)) ?_
        refine mv rfl .no (.u rfl) ?_
        refine .nil ?_
        refine We.lpo (k + 1, v) ?_ ?_ ?_ ?_ ?_
        · exact (ESub.cons rfl rfl (ESub.cons rfl rfl (ESub.cons rfl rfl (ESub.cons rfl rfl (ESub.cons rfl rfl (ESub.cons rfl rfl ESub.nil))))))
        · exact (MSub.cons (.there .here) (ov_no (by omega) c3k) (MSub.cons (.there .here) rfl MSub.nil))
        · first | omega | (dsimp only; omega)
        · exact hGl0
        · show k + 1 ≤ (s.lv level.toNat).length; omega
    · have c2k := c2
      try simp only [decide_eq_false_iff_not, Int.not_lt] at c2
      refine .exit ?_
      refine .xcode ?_
      refine .xlp ?_
      refine .xblk ?_
      refine .code ?_
      refine .seq ?_
      refine Wk.rg [0, 1] rfl rfl ?_
      refine mv rfl .no (.u rfl) ?_
      refine asg rfl .no (.u rfl) ?_
      refine .nil ?_
      refine .code ?_
      refine .ret ?_
      refine we_fr .here (fun b hb => by cases hb) ?_
      intro Gf hh hlef hv hcap hnn hrd; subst hv
      refine We.fin0 Try.results19 (.tmp rfl .nil) ?_
      have hko : k = (s.lv level.toNat).length := by omega
      subst hko
      rw [List.take_length] at hcap hnn hrd
      exact ⟨rfl, hh, by rw [ovl_in c1, List.take_length]; rfl, by rw [ovl_in c1]; exact SlR.ofRow (metas_len _) hcap hnn hrd⟩

theorem rover_ok (s : State) (hd : Nat → Sh) (G : PM) (hs : StR G s hd) (level : Int) (lo hi : ByteArray) : Ct Try.prog 43 ([s.val hd, .int .i64 level, .string lo, .string hi] : List Value).toArray G [] (fun G' μ' u => μ' = [] ∧ ∃ h : Sh, u = h.val (ovl s level lo hi).length ∧ SlR G' 40 Meta.cells h (ovl s level lo hi)) := by
  refine Ct.of Try.func43 rfl Try.ntmps43 rfl fun w0 hs0 => ?_
  refine .seq ?_
  refine Wk.rg [0, 1] rfl rfl ?_
  refine bx rfl (.u rfl) rfl ?_; intro b4
  refine asg rfl .no (.u rfl) ?_
  refine .nil ?_
  refine .code ?_
  refine .seq ?_
  refine Wk.rg [0] rfl rfl ?_
  refine asg rfl .no (.u rfl) ?_
  refine .nil ?_
  refine .code ?_
  refine .seq ?_
  refine .seq ?_
  refine Wk.rg [0, 1, 2, 3, 4, 5] rfl rfl ?_
  refine mv rfl .no (.u rfl) ?_
  refine cp rfl .no (.u rfl) (.u rfl) rfl ?_
  refine mv rfl .no (.u rfl) ?_
  refine mv rfl (.f rfl rfl) (.u rfl) ?_
  refine cp rfl (.f rfl rfl) (.s rfl) (.u rfl) rfl ?_
  refine pkO rfl .no (.u rfl) (.s rfl) ?_
  refine .nil ?_
  refine .code ?_
  refine .cond rfl (fun c1 => ?_) (fun c1 => ?_)
  · have c1k := c1
    try simp only [decide_eq_true_eq, ge_iff_le, Bool.or_eq_true] at c1
    refine .seq ?_
    refine Wk.rg [0, 1] rfl rfl ?_
    refine mv rfl .no (.u rfl) ?_
    refine asg rfl .no (.u rfl) ?_
    refine .nil ?_
    refine .code ?_
    refine .ret ?_
    refine We.fin0 Try.results43 (.tmp rfl .nil) ?_
    exact ⟨rfl, ⟨none, 0⟩, by rw [ovl_out c1]; rfl, by rw [ovl_out c1]; exact SlR.nul⟩
  · have c1k := c1
    try simp only [decide_eq_false_iff_not, Int.not_lt, Int.not_le, ge_iff_le, Bool.or_eq_false_iff] at c1
    refine .skip ?_
    refine .code ?_
    refine .seq ?_
    refine .seq ?_
    refine Wk.rg [0] rfl rfl ?_
    have hli := hs.len level.toNat (by omega)
    refine asg rfl .no (.u rfl) ?_
    refine .nil ?_
    refine .code ?_
    refine .block ?_
    refine wk_nilRow 49 40 ?_
    refine Wk.lop (α := Nat × Value) (fun gh => [(9, true, gh.2), (10, true, .int .i64 (gh.1 : Int))]) (fun gh => [.row gh.2 49 40 (((s.lv level.toNat).take gh.1).filter (ovp lo hi)).length ((((s.lv level.toNat).take gh.1).filter (ovp lo hi)).flatMap Meta.cells)])
      (fun gh Gl => gh.1 ≤ (s.lv level.toNat).length) (fun gh => (s.lv level.toNat).length - gh.1) (0, .slice none 0 0) [(1, true, _), (2, true, _), (3, true, _), (4, true, _)] [.blk b4 _]
      (ESub.cons rfl rfl (ESub.cons rfl rfl (ESub.cons rfl rfl (ESub.cons rfl rfl (ESub.cons rfl rfl (ESub.cons rfl rfl ESub.nil))))))
      (MSub.cons .here rfl (MSub.cons .here rfl MSub.nil)) ?_ ?_
    · show 0 ≤ (s.lv level.toNat).length; omega
    intro gh N0 Gl0 hN0 hGl0 hF0
    obtain ⟨k, v⟩ := gh; dsimp only at hF0 hN0 ⊢
    have hk : k ≤ (s.lv level.toNat).length := hF0; have hfl := filt_len (s.lv level.toNat) (ovp lo hi) k
    refine .seq ?_
    refine .seq ?_
    refine Wk.rg [0, 1, 2, 3, 4, 5, 6] rfl rfl ?_
    refine mv rfl .no (.u rfl) ?_
    refine mv rfl .no (.u rfl) ?_
    refine fz rfl .no Fx.fo35_0 (.u rfl) ?_
    refine iA rfl .no Fx.ar31 (.u rfl) (.u rfl) (fun _ => by omega) (fun _ => by omega) ?_
    refine ld rfl .no Fx.ag30 (.u rfl) (fun _ => Rd.own (.there .here) (s.cell_lv hd (k := level.toNat) (by omega))) ?_
    refine ln rfl .no Fx.sn30 (.u rfl) ?_
    refine cp rfl .no (.u rfl) (.u rfl) rfl ?_
    refine .nil ?_
    refine .code ?_
    refine .cond rfl (fun c2 => ?_) (fun c2 => ?_)
    · have c2k := c2
      try simp only [decide_eq_true_eq] at c2
      refine .skip ?_
      refine .code ?_
      refine .seq ?_
      refine .block ?_
      refine .seq ?_
      refine Wk.rg [0, 1, 2, 3, 4, 5, 6, 7, 8] rfl rfl ?_
      refine mv rfl .no (.u rfl) ?_
      refine fz rfl .no Fx.fo35_0 (.u rfl) ?_
      refine iA rfl .no Fx.ar31 (.u rfl) (.u rfl) (fun _ => by omega) (fun _ => by omega) ?_
      refine ld rfl .no Fx.ag30 (.u rfl) (fun _ => Rd.own (.there .here) (s.cell_lv hd (k := level.toNat) (by omega))) ?_
      refine mv rfl .no (.u rfl) ?_
      refine ih rfl .no Fx.se30 (.u rfl) (.u rfl) (fun _ => by omega) (fun _ => by omega) (fun _ => (hs.lv level.toNat (by omega)).nn (k := k) (by omega)) ?_
      refine lA rfl .no Fx.ag49 (.u rfl) (fun _ => (((hs.mono hGl0).lv level.toNat (by omega)).gat k (by omega) (by omega)).rd) (fun _ => rfl) ?_
      refine al rfl Fx.zr49 ?_; intro b11
      refine sw rfl (.u rfl) (.u rfl) rfl Fx.sz49 .here rfl (Meta.one _) ?_
      refine .nil ?_
      refine .code ?_
      refine .seq ?_
      refine Wk.rg [0, 1, 2, 3, 4, 5, 6, 7, 8, 9] rfl rfl ?_
      refine fz rfl .no Fx.fo49_7 (.u rfl) ?_
      refine ld rfl .no Fx.ag9 (.u rfl) (fun _ => Rd.own .here rfl) ?_
      refine mv rfl .no (.u rfl) ?_
      refine cs rfl .no (.u rfl) (.u rfl) rfl ?_
      refine mv rfl .no (.u rfl) ?_
      refine fz rfl (.t rfl rfl) Fx.fo49_6 (.u rfl) ?_
      refine ld rfl (.t rfl rfl) Fx.ag9 (.s rfl) (fun _ => Rd.own .here rfl) ?_
      refine mv rfl (.t rfl rfl) (.u rfl) ?_
      refine cs rfl (.t rfl rfl) (.s rfl) (.s rfl) rfl ?_
      refine pkA rfl .no (.u rfl) (.s rfl) ?_
      refine .nil ?_
      refine .code ?_
      refine .cond rfl (fun c3 => ?_) (fun c3 => ?_)
      · have c3k := c3
        try simp only [Bool.or_eq_true, Bool.and_eq_true, Bool.not_eq_true'] at c3
        refine Wk.rg [0, 1, 2, 3, 4] rfl rfl ?_
        refine mv rfl .no (.u rfl) ?_
        refine lA rfl .no Fx.ag49 (.u rfl) (fun _ => RdN.own .here) (fun _ => rfl) ?_
        refine Go.Tan.b1 rfl Fx.se30 Fx.zv49 (.u rfl) rfl rfl (by decide) ?_; intro b47
        refine ap rfl Fx.se30 Fx.zv49 rfl (.u rfl) (.u rfl) (.there (.there .here)) (rfl) (fun _ => ⟨_, _, rfl, RdN.own .here⟩) (Meta.one _) (by omega) (by unfold maxLen; omega) ?_; intro v48
        refine asg rfl .no (.u rfl) ?_
        refine .nil ?_
        refine .blk ?_
        refine .code ?_
        refine Wk.rg [0, 1, 2] rfl rfl ?_
        refine mv rfl .no (.u rfl) ?_
        refine ar rfl .no (.u rfl) (.u rfl) rfl (fun _ => wrap_i64 (by omega) (by omega)) ?_
        refine asg rfl .no (.u rfl) ?_
        refine .nil ?_
        refine We.lpo (k + 1, v48) ?_ ?_ ?_ ?_ ?_
        · exact (ESub.cons rfl rfl (ESub.cons rfl rfl (ESub.cons rfl rfl (ESub.cons rfl rfl (ESub.cons rfl rfl (ESub.cons rfl rfl ESub.nil))))))
        · exact (MSub.cons .here (ov_yes (by omega) c3k) (MSub.cons (.there (.there .here)) rfl MSub.nil))
        · first | omega | (dsimp only; omega)
        · exact hGl0
        · show k + 1 ≤ (s.lv level.toNat).length; omega
      · have c3k := c3
        try simp only [decide_eq_true_eq, decide_eq_false_iff_not, Int.not_lt, Int.not_le, gt_iff_lt, ge_iff_le, Bool.or_eq_true, Bool.and_eq_true, Bool.or_eq_false_iff, Bool.not_eq_true', Bool.not_eq_false', Int.toNat_natCast] at c3
        refine .skip ?_
        refine .blk ?_
        refine .code ?_
        refine Wk.rg [0, 1, 2] rfl rfl ?_
        refine mv rfl .no (.u rfl) ?_
        refine ar rfl .no (.u rfl) (.u rfl) rfl (fun _ => wrap_i64 (by omega) (by omega)) ?_
        refine asg rfl .no (.u rfl) ?_
        refine .nil ?_
        refine We.lpo (k + 1, v) ?_ ?_ ?_ ?_ ?_
        · exact (ESub.cons rfl rfl (ESub.cons rfl rfl (ESub.cons rfl rfl (ESub.cons rfl rfl (ESub.cons rfl rfl (ESub.cons rfl rfl ESub.nil))))))
        · exact (MSub.cons (.there .here) (ov_no (by omega) c3k) (MSub.cons (.there .here) rfl MSub.nil))
        · first | omega | (dsimp only; omega)
        · exact hGl0
        · show k + 1 ≤ (s.lv level.toNat).length; omega
    · have c2k := c2
      try simp only [decide_eq_false_iff_not, Int.not_lt] at c2
      refine .exit ?_
      refine .xcode ?_
      refine .xlp ?_
      refine .xblk ?_
      refine .code ?_
      refine .seq ?_
      refine Wk.rg [0, 1] rfl rfl ?_
      refine mv rfl .no (.u rfl) ?_
      refine asg rfl .no (.u rfl) ?_
      refine .nil ?_
      refine .code ?_
      refine .ret ?_
      refine we_fr .here (fun b hb => by cases hb) ?_
      intro Gf hh hlef hv hcap hnn hrd; subst hv
      refine We.fin0 Try.results43 (.tmp rfl .nil) ?_
      have hko : k = (s.lv level.toNat).length := by omega
      subst hko
      rw [List.take_length] at hcap hnn hrd
      exact ⟨rfl, hh, by rw [ovl_in c1, List.take_length]; rfl, by rw [ovl_in c1]; exact SlR.ofRow (metas_len _) hcap hnn hrd⟩

end Go.Proofs.Ytnhipfnbnilleaa
