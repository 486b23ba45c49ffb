/- Contracts of functions, walked. -/
import Derived.Test.YtnhipfnbnilleaaPickC
namespace Go.Proofs.Ytnhipfnbnilleaa
open Go.Tan Go.RowKit

theorem full_ok (s : State) (hd : Nat → Sh) (G : PM) (hs : StR G s hd) (b : Nat) (hp : RdNP G b 0 (s.cells hd)) (o : Opts) (level : Int) (h0 : 0 ≤ level) (h5 : level < 5) (hz : ∀ m ∈ s.lv level.toNat, 1 ≤ m.size) : Ct Try.prog 28 ([.pointer (some ⟨b, 0, none⟩), o.val, .int .i64 level] : List Value).toArray G [] (fun _ μ' u => μ' = [] ∧ u = .bool (fullB s o level)) := by
  refine Ct.of Try.func28 rfl Try.ntmps28 rfl fun w0 hs0 => ?_
  have hli := hs.len level.toNat (by omega); have hlim := limit_bd o level
  refine .seq ?_
  refine Wk.rg [0, 1] rfl rfl ?_
  refine bx rfl (.u rfl) rfl ?_; intro b4
  refine asg rfl .no (.u rfl) ?_
  refine .nil ?_
  refine .code ?_
  refine .seq ?_
  refine Wk.rg [0, 1, 2, 3, 4, 5, 6] rfl rfl ?_
  refine mv rfl .no (.u rfl) ?_
  refine mv rfl .no (.u rfl) ?_
  refine nc rfl .no (.u rfl) ?_
  refine fz rfl .no Fx.fo35_0 (.u rfl) ?_
  refine iA rfl .no Fx.ar31 (.u rfl) (.u rfl) (fun _ => by omega) (fun _ => by omega) ?_
  refine ld rfl .no Fx.ag30 (.u rfl) (fun _ => (hp.z (s.cell_lv hd (k := level.toNat) (by omega))).rd) ?_
  refine asg rfl .no (.u rfl) ?_
  refine .nil ?_
  refine .code ?_
  refine .seq ?_
  refine .seq ?_
  refine Wk.rg [0, 1] rfl rfl ?_
  refine mv rfl .no (.u rfl) ?_
  refine cp rfl .no (.u rfl) (.u rfl) rfl ?_
  refine .nil ?_
  refine .code ?_
  refine .cond rfl (fun c1 => ?_) (fun c1 => ?_)
  · have c1k := c1
    try simp only [decide_eq_true_eq, decide_eq_false_iff_not, Int.not_lt, Int.not_le, gt_iff_lt, ge_iff_le, Bool.or_eq_true, Bool.and_eq_true, Bool.or_eq_false_iff, Bool.not_eq_true', Bool.not_eq_false', Int.toNat_natCast] at c1
    refine .seq ?_
    refine Wk.rg [0, 1, 2, 3, 4, 5] rfl rfl ?_
    refine mv rfl .no (.u rfl) ?_
    refine ln rfl .no Fx.sn30 (.u rfl) ?_
    refine fz rfl .no Fx.fo25_2 (.u rfl) ?_
    refine ld rfl .no Fx.ag3 (.u rfl) (fun _ => Rd.own .here rfl) ?_
    refine cp rfl .no (.u rfl) (.u rfl) rfl ?_
    refine asg rfl .no (.u rfl) ?_
    refine .nil ?_
    refine .code ?_
    refine .ret ?_
    refine We.fin0 Try.results28 (.tmp rfl .nil) ?_
    exact ⟨rfl, by rw [fullB, if_pos (by simpa using c1)]; rw [show level = 0 by simpa using c1]; rfl⟩
  · have c1k := c1
    try simp only [decide_eq_true_eq, decide_eq_false_iff_not, Int.not_lt, Int.not_le, gt_iff_lt, ge_iff_le, Bool.or_eq_true, Bool.and_eq_true, Bool.or_eq_false_iff, Bool.not_eq_true', Bool.not_eq_false', Int.toNat_natCast] at c1
    refine .skip ?_
    refine .code ?_
    refine .seq ?_
    refine Wk.rg [0, 1, 2, 3] rfl rfl ?_
    refine lA rfl .no Fx.ag25 (.u rfl) (fun _ => RdN.own .here) (fun _ => rfl) ?_
    refine mv rfl .no (.u rfl) ?_
    refine kv rfl .no Fx.go11 (Eva.cons (.u rfl) (Eva.cons (.u rfl) Eva.nil)) (fun _ => limit_ok _ _ _) ?_
    refine asg rfl .no (.u rfl) ?_
    refine .nil ?_
    refine .code ?_
    refine .seq ?_
    refine .seq ?_
    refine Wk.rg [0, 1, 2] rfl rfl ?_
    refine mv rfl .no (.u rfl) ?_
    refine ln rfl .no Fx.sn30 (.u rfl) ?_
    refine mv rfl .no (.u rfl) ?_
    refine .nil ?_
    refine .code ?_
    refine .block ?_
    refine Wk.lop (α := Nat × Int) (fun gh => [(8, true, .int .i64 gh.2), (29, true, .int .i64 (gh.1 : Int))]) (fun _ => [])
      (fun gh Gl => gh.1 ≤ (s.lv level.toNat).length ∧ 0 ≤ gh.2 ∧ gh.2 ≤ 1000000000000 ∧ over (limit o level) (s.lv level.toNat) = over gh.2 ((s.lv level.toNat).drop gh.1)) (fun gh => (s.lv level.toNat).length - gh.1) (0, limit o level) [(27, true, _), (28, true, _)] [.blk b4 _]
      (ESub.cons rfl rfl (ESub.cons rfl rfl (ESub.cons rfl rfl (ESub.cons rfl rfl ESub.nil))))
      (MSub.cons .here rfl MSub.nil) ?_ ?_
    · exact ⟨by omega, hlim.1, hlim.2, by simp⟩
    intro gh N0 Gl0 hN0 hGl0 hF0
    obtain ⟨k, r⟩ := gh; dsimp only at hF0 hN0 ⊢
    obtain ⟨hk, hr0, hr1, hov⟩ := hF0
    refine .seq ?_
    refine Wk.rg [0] rfl rfl ?_
    refine cp rfl .no (.u rfl) (.u rfl) rfl ?_
    refine .nil ?_
    refine .code ?_
    refine .seq ?_
    refine .cond rfl (fun c2 => ?_) (fun c2 => ?_)
    · have c2k := c2
      try simp only [decide_eq_true_eq] at c2
      refine .skip ?_
      refine .code ?_
      refine .seq ?_
      refine .block ?_
      refine .seq ?_
      refine Wk.rg [0, 1, 2, 3] rfl rfl ?_
      have hsz := hz _ (getD_mem (k := k) (by omega)); have hsw := (hs.wf level.toNat (by omega) _ (getD_mem (k := k) (by omega))).size
      refine ih rfl .no Fx.se30 (.u rfl) (.u rfl) (fun _ => by omega) (fun _ => by omega) (fun _ => (hs.lv level.toNat (by omega)).nn (k := k) (by omega)) ?_
      refine lA rfl .no Fx.ag49 (.u rfl) (fun _ => (((hs.mono hGl0).lv level.toNat (by omega)).gat k (by omega) (by omega)).rd) (fun _ => rfl) ?_
      refine al rfl Fx.zr49 ?_; intro b10
      refine sw rfl (.u rfl) (.u rfl) rfl Fx.sz49 .here rfl (Meta.one _) ?_
      refine .nil ?_
      refine .code ?_
      refine .seq ?_
      refine .seq ?_
      refine Wk.rg [0, 1, 2, 3] rfl rfl ?_
      refine fz rfl .no Fx.fo49_4 (.u rfl) ?_
      refine ld rfl .no Fx.ag3 (.u rfl) (fun _ => Rd.own .here rfl) ?_
      refine mv rfl .no (.u rfl) ?_
      refine cp rfl .no (.u rfl) (.u rfl) rfl ?_
      refine .nil ?_
      refine .code ?_
      refine .cond rfl (fun c3 => ?_) (fun c3 => ?_)
      · have c3k := c3
        try simp only [decide_eq_true_eq, gt_iff_lt] at c3
        refine .seq ?_
        refine Wk.rg [0] rfl rfl ?_
        refine asg rfl .no (.u rfl) ?_
        refine .nil ?_
        refine .code ?_
        refine .ret ?_
        refine We.fin0 Try.results28 (.tmp rfl .nil) ?_
        exact ⟨rfl, by rw [fullB, if_neg (by simpa using c1), hov, over_hit (by omega) c3]; rfl⟩
      · have c3k := c3
        try simp only [decide_eq_false_iff_not, Int.not_lt, gt_iff_lt] at c3
        refine .skip ?_
        refine .code ?_
        refine Wk.rg [0, 1, 2, 3, 4] rfl rfl ?_
        refine mv rfl .no (.u rfl) ?_
        refine fz rfl .no Fx.fo49_4 (.u rfl) ?_
        refine ld rfl .no Fx.ag3 (.u rfl) (fun _ => Rd.own .here rfl) ?_
        refine ar rfl .no (.u rfl) (.u rfl) rfl (fun _ => wrap_i64 (by omega) (by omega)) ?_
        refine asg rfl .no (.u rfl) ?_
        refine .nil ?_
        refine .blk ?_
        refine .code ?_
        refine Wk.rg [0, 1] rfl rfl ?_
        refine ar rfl .no (.u rfl) (.u rfl) rfl (fun _ => wrap_i64 (by omega) (by omega)) ?_
        refine mv rfl .no (.u rfl) ?_
        refine .nil ?_
        refine We.lpo (k + 1, r - ((s.lv level.toNat).getD k Meta.zero).size) ?_ ?_ ?_ ?_ ?_
        · exact (ESub.cons rfl rfl (ESub.cons rfl rfl (ESub.cons rfl rfl (ESub.cons rfl rfl ESub.nil))))
        · exact (MSub.cons (.there .here) rfl MSub.nil)
        · first | omega | (dsimp only; omega)
        · exact hGl0
        · exact ⟨by omega, by omega, by omega, over_step hov (by omega) c3⟩
    · have c2k := c2
      try simp only [decide_eq_false_iff_not, Int.not_lt] at c2
      refine .exit ?_
      refine .xcode ?_
      refine .xlp ?_
      refine .xblk ?_
      refine .code ?_
      refine .seq ?_
      refine Wk.rg [0] rfl rfl ?_
      refine asg rfl .no (.u rfl) ?_
      refine .nil ?_
      refine .code ?_
      refine .ret ?_
      refine We.fin0 Try.results28 (.tmp rfl .nil) ?_
      exact ⟨rfl, by rw [fullB, if_neg (by simpa using c1), hov, over_end (by omega)]; rfl⟩

theorem Full_ok (s : State) (hd : Nat → Sh) (G : PM) (hs : StR G s hd) (o : Opts) (level : Int) : Ct Try.prog 20 ([s.val hd, o.val, .int .i64 level] : List Value).toArray G [] (fun _ μ' u => μ' = [] ∧ u = .bool (fullTop s o level)) := by
  refine Ct.of Try.func20 rfl Try.ntmps20 rfl fun w0 hs0 => ?_
  refine .seq ?_
  refine Wk.rg [0, 1, 2] rfl rfl ?_
  refine bx rfl (.u rfl) rfl ?_; intro b3
  refine bx rfl (.u rfl) rfl ?_; intro b4
  refine asg rfl .no (.u rfl) ?_
  refine .nil ?_
  refine .code ?_
  refine .seq ?_
  refine Wk.rg [0, 1, 2, 3, 4, 5, 6, 7, 8, 9, 10, 11, 12, 13, 14, 15, 16, 17, 18, 19] rfl rfl ?_
  refine mv rfl .no (.u rfl) ?_
  refine cp rfl .no (.u rfl) (.u rfl) rfl ?_
  refine mv rfl .no (.u rfl) ?_
  refine mv rfl (.t rfl rfl) (.u rfl) ?_
  refine cp rfl (.t rfl rfl) (.s rfl) (.u rfl) rfl ?_
  refine pkA rfl .no (.u rfl) (.s rfl) ?_
  refine mv rfl .no (.u rfl) ?_
  refine lA rfl (.t rfl rfl) Fx.ag25 (.u rfl) (fun _ => RdN.own .here) (fun _ => rfl) ?_
  refine kv rfl (.t rfl rfl) Fx.go9 (Eva.cons (.s rfl) Eva.nil) (fun hc => right_ok _ _) ?_
  refine pkA rfl .no (.u rfl) (.s rfl) ?_
  refine mv rfl .no (.u rfl) ?_
  refine lA rfl (.t rfl rfl) Fx.ag35 (.u rfl) (fun _ => RdN.own (.there .here)) (fun _ => rfl) ?_
  refine kv rfl (.t rfl rfl) Fx.go24 (Eva.cons (.s rfl) Eva.nil) (fun hc => vRight_ok _ _ _ (by assumption)) ?_
  refine pkA rfl .no (.u rfl) (.s rfl) ?_
  refine mv rfl .no (.u rfl) ?_
  refine lA rfl (.t rfl rfl) Fx.ag25 (.u rfl) (fun _ => RdN.own .here) (fun _ => rfl) ?_
  refine mv rfl (.t rfl rfl) (.u rfl) ?_
  refine kp rfl (.t rfl rfl) Fx.go28 (Eva.cons (.u rfl) (Eva.cons (.s rfl) (Eva.cons (.s rfl) Eva.nil))) (Gp.add (.there .here) Gp.nil) (fun hc hle hq => by simp only [Bool.and_eq_true, decide_eq_true_eq] at hc; exact full_ok s hd _ (hs.mono hle) b3 RdNP.add o level (by omega) (by omega) (right_sizes hc.2 (by omega))) ?_
  refine pkA rfl .no (.u rfl) (.s rfl) ?_
  refine asg rfl .no (.u rfl) ?_
  refine .nil ?_
  refine .code ?_
  refine .ret ?_
  refine We.fin0 Try.results20 (.tmp rfl .nil) ?_
  exact ⟨rfl, rfl⟩

theorem rFull_ok (s : State) (hd : Nat → Sh) (G : PM) (hs : StR G s hd) (o : Opts) (level : Int) : Ct Try.prog 21 ([s.val hd, o.val, .int .i64 level] : List Value).toArray G [] (fun _ μ' u => μ' = [] ∧ u = .bool (fullTop s o level)) := by
  refine Ct.of Try.func21 rfl Try.ntmps21 rfl fun w0 hs0 => ?_
  refine .seq ?_
  refine Wk.rg [0, 1, 2] rfl rfl ?_
  refine bx rfl (.u rfl) rfl ?_; intro b3
  refine bx rfl (.u rfl) rfl ?_; intro b4
  refine asg rfl .no (.u rfl) ?_
  refine .nil ?_
  refine .code ?_
  refine .seq ?_
  refine .seq ?_
  refine Wk.rg [0, 1, 2, 3, 4, 5, 6, 7, 8, 9, 10, 11, 12, 13, 14, 15] rfl rfl ?_
  refine lA rfl .no Fx.ag35 (.u rfl) (fun _ => RdN.own (.there .here)) (fun _ => rfl) ?_
  refine kv rfl .no Fx.go32 (Eva.cons (.u rfl) Eva.nil) (fun _ => rRight_ok _ _ _ (by assumption)) ?_
  refine nt rfl .no (.u rfl) ?_
  refine mv rfl .no (.u rfl) ?_
  refine lA rfl (.f rfl rfl) Fx.ag25 (.u rfl) (fun _ => RdN.own .here) (fun _ => rfl) ?_
  refine kv rfl (.f rfl rfl) Fx.go10 (Eva.cons (.s rfl) Eva.nil) (fun hc => rright_ok _ _) ?_
  refine nt rfl (.f rfl rfl) (.s rfl) ?_
  refine pkO rfl .no (.u rfl) (.s rfl) ?_
  refine mv rfl .no (.u rfl) ?_
  refine mv rfl (.f rfl rfl) (.u rfl) ?_
  refine cp rfl (.f rfl rfl) (.s rfl) (.u rfl) rfl ?_
  refine pkO rfl .no (.u rfl) (.s rfl) ?_
  refine mv rfl .no (.u rfl) ?_
  refine mv rfl (.f rfl rfl) (.u rfl) ?_
  refine cp rfl (.f rfl rfl) (.s rfl) (.u rfl) rfl ?_
  refine pkO rfl .no (.u rfl) (.s rfl) ?_
  refine .nil ?_
  refine .code ?_
  refine .cond rfl (fun c1 => ?_) (fun c1 => ?_)
  · have c1k := c1
    try simp only [decide_eq_true_eq, gt_iff_lt, Bool.or_eq_true, Bool.not_eq_true'] at c1
    refine .seq ?_
    refine Wk.rg [0] rfl rfl ?_
    refine asg rfl .no (.u rfl) ?_
    refine .nil ?_
    refine .code ?_
    refine .ret ?_
    refine We.fin0 Try.results21 (.tmp rfl .nil) ?_
    exact ⟨rfl, ft_no c1⟩
  · have c1k := c1
    try simp only [decide_eq_false_iff_not, Int.not_lt, gt_iff_lt, Bool.or_eq_false_iff, Bool.not_eq_false'] at c1
    refine .skip ?_
    refine .code ?_
    refine .seq ?_
    refine .seq ?_
    refine Wk.rg [0, 1] rfl rfl ?_
    refine mv rfl .no (.u rfl) ?_
    refine cp rfl .no (.u rfl) (.u rfl) rfl ?_
    refine .nil ?_
    refine .code ?_
    refine .cond rfl (fun c2 => ?_) (fun c2 => ?_)
    · have c2k := c2
      try simp only [decide_eq_true_eq, decide_eq_false_iff_not, Int.not_lt, Int.not_le, gt_iff_lt, ge_iff_le, Bool.or_eq_true, Bool.and_eq_true, Bool.or_eq_false_iff, Bool.not_eq_true', Bool.not_eq_false', Int.toNat_natCast] at c2
      refine .seq ?_
      refine Wk.rg [0, 1, 2, 3, 4, 5, 6, 7] rfl rfl ?_
      refine fz rfl .no Fx.fo35_0 (.u rfl) ?_
      refine iA rfl .no Fx.ar31 (.u rfl) (.u rfl) (fun _ => by decide) (fun _ => by decide) ?_
      refine ld rfl .no Fx.ag30 (.u rfl) (fun _ => Rd.own (.there .here) rfl) ?_
      refine ln rfl .no Fx.sn30 (.u rfl) ?_
      refine fz rfl .no Fx.fo25_2 (.u rfl) ?_
      refine ld rfl .no Fx.ag3 (.u rfl) (fun _ => Rd.own .here rfl) ?_
      refine cp rfl .no (.u rfl) (.u rfl) rfl ?_
      refine asg rfl .no (.u rfl) ?_
      refine .nil ?_
      refine .code ?_
      refine .ret ?_
      refine We.fin0 Try.results21 (.tmp rfl .nil) ?_
      exact ⟨rfl, ft_zero c1 c2⟩
    · have c2k := c2
      try simp only [decide_eq_true_eq, decide_eq_false_iff_not, Int.not_lt, Int.not_le, gt_iff_lt, ge_iff_le, Bool.or_eq_true, Bool.and_eq_true, Bool.or_eq_false_iff, Bool.not_eq_true', Bool.not_eq_false', Int.toNat_natCast] at c2
      refine .skip ?_
      refine .code ?_
      refine .seq ?_
      refine Wk.rg [0, 1, 2, 3] rfl rfl ?_
      have hli := hs.len level.toNat (by omega); have hlim := limit_bd o level
      refine lA rfl .no Fx.ag25 (.u rfl) (fun _ => RdN.own .here) (fun _ => rfl) ?_
      refine mv rfl .no (.u rfl) ?_
      refine kv rfl .no Fx.go12 (Eva.cons (.u rfl) (Eva.cons (.u rfl) Eva.nil)) (fun _ => rlimit_ok _ _ _) ?_
      refine asg rfl .no (.u rfl) ?_
      refine .nil ?_
      refine .code ?_
      refine .seq ?_
      refine .seq ?_
      refine Wk.rg [0] rfl rfl ?_
      refine asg rfl .no (.u rfl) ?_
      refine .nil ?_
      refine .code ?_
      refine .block ?_
      refine Wk.lop (α := Nat × Int) (fun gh => [(7, true, .int .i64 gh.2), (8, true, .int .i64 (gh.1 : Int))]) (fun _ => [])
        (fun gh Gl => gh.1 ≤ (s.lv level.toNat).length ∧ 0 ≤ gh.2 ∧ gh.2 ≤ 1000000000000 ∧ over (limit o level) (s.lv level.toNat) = over gh.2 ((s.lv level.toNat).drop gh.1)) (fun gh => (s.lv level.toNat).length - gh.1) (0, limit o level) [(2, true, _), (3, true, _)] [.blk b4 _, .blk b3 _]
        (ESub.cons rfl rfl (ESub.cons rfl rfl (ESub.cons rfl rfl (ESub.cons rfl rfl ESub.nil))))
        (MSub.cons .here rfl (MSub.cons .here rfl MSub.nil)) ?_ ?_
      · exact ⟨by omega, hlim.1, hlim.2, by simp⟩
      intro gh N0 Gl0 hN0 hGl0 hF0
      obtain ⟨k, r⟩ := gh; dsimp only at hF0 hN0 ⊢
      obtain ⟨hk, hr0, hr1, hov⟩ := hF0
      refine .seq ?_
      refine .seq ?_
      refine Wk.rg [0, 1, 2, 3, 4, 5, 6] rfl rfl ?_
      refine mv rfl .no (.u rfl) ?_
      refine mv rfl .no (.u rfl) ?_
      refine fz rfl .no Fx.fo35_0 (.u rfl) ?_
      refine iA rfl .no Fx.ar31 (.u rfl) (.u rfl) (fun _ => by omega) (fun _ => by omega) ?_
      refine ld rfl .no Fx.ag30 (.u rfl) (fun _ => Rd.own (.there .here) (s.cell_lv hd (k := level.toNat) (by omega))) ?_
      refine ln rfl .no Fx.sn30 (.u rfl) ?_
      refine cp rfl .no (.u rfl) (.u rfl) rfl ?_
      refine .nil ?_
      refine .code ?_
      refine .cond rfl (fun c3 => ?_) (fun c3 => ?_)
      · have c3k := c3
        try simp only [decide_eq_true_eq] at c3
        refine .skip ?_
        refine .code ?_
        refine .seq ?_
        refine .block ?_
        refine .seq ?_
        refine .seq ?_
        refine Wk.rg [0, 1, 2, 3, 4, 5, 6, 7, 8, 9] rfl rfl ?_
        have hsz := right_sizes c1.1.1.1 (show level < 5 by omega) _ (getD_mem (k := k) (by omega)); have hsw := (hs.wf level.toNat (by omega) _ (getD_mem (k := k) (by omega))).size
        refine mv rfl .no (.u rfl) ?_
        refine fz rfl .no Fx.fo35_0 (.u rfl) ?_
        refine iA rfl .no Fx.ar31 (.u rfl) (.u rfl) (fun _ => by omega) (fun _ => by omega) ?_
        refine ld rfl .no Fx.ag30 (.u rfl) (fun _ => Rd.own (.there .here) (s.cell_lv hd (k := level.toNat) (by omega))) ?_
        refine mv rfl .no (.u rfl) ?_
        refine ih rfl .no Fx.se30 (.u rfl) (.u rfl) (fun _ => by omega) (fun _ => by omega) (fun _ => (hs.lv level.toNat (by omega)).nn (k := k) (by omega)) ?_
        refine fa rfl .no Fx.fo49_4 (.u rfl) ?_
        refine ld rfl .no Fx.ag3 (.u rfl) (fun _ => (((hs.mono hGl0).lv level.toNat (by omega)).gat k (by omega) (by omega) 4 _ rfl).rd) ?_
        refine mv rfl .no (.u rfl) ?_
        refine cp rfl .no (.u rfl) (.u rfl) rfl ?_
        refine .nil ?_
        refine .code ?_
        refine .cond rfl (fun c4 => ?_) (fun c4 => ?_)
        · have c4k := c4
          try simp only [decide_eq_true_eq, gt_iff_lt] at c4
          refine .seq ?_
          refine Wk.rg [0] rfl rfl ?_
          refine asg rfl .no (.u rfl) ?_
          refine .nil ?_
          refine .code ?_
          refine .ret ?_
          refine We.fin0 Try.results21 (.tmp rfl .nil) ?_
          exact ⟨rfl, ft_more c1 c2 (hov.trans (over_hit (by omega) c4))⟩
        · have c4k := c4
          try simp only [decide_eq_false_iff_not, Int.not_lt, gt_iff_lt] at c4
          refine .skip ?_
          refine .code ?_
          refine Wk.rg [0, 1, 2, 3, 4, 5, 6, 7, 8, 9, 10] rfl rfl ?_
          refine mv rfl .no (.u rfl) ?_
          refine mv rfl .no (.u rfl) ?_
          refine fz rfl .no Fx.fo35_0 (.u rfl) ?_
          refine iA rfl .no Fx.ar31 (.u rfl) (.u rfl) (fun _ => by omega) (fun _ => by omega) ?_
          refine ld rfl .no Fx.ag30 (.u rfl) (fun _ => Rd.own (.there .here) (s.cell_lv hd (k := level.toNat) (by omega))) ?_
          refine mv rfl .no (.u rfl) ?_
          refine ih rfl .no Fx.se30 (.u rfl) (.u rfl) (fun _ => by omega) (fun _ => by omega) (fun _ => (hs.lv level.toNat (by omega)).nn (k := k) (by omega)) ?_
          refine fa rfl .no Fx.fo49_4 (.u rfl) ?_
          refine ld rfl .no Fx.ag3 (.u rfl) (fun _ => (((hs.mono hGl0).lv level.toNat (by omega)).gat k (by omega) (by omega) 4 _ rfl).rd) ?_
          refine ar rfl .no (.u rfl) (.u rfl) rfl (fun _ => wrap_i64 (by omega) (by omega)) ?_
          refine asg rfl .no (.u rfl) ?_
          refine .nil ?_
          refine .blk ?_
          refine .code ?_
          refine Wk.rg [0, 1, 2] rfl rfl ?_
          refine mv rfl .no (.u rfl) ?_
          refine ar rfl .no (.u rfl) (.u rfl) rfl (fun _ => wrap_i64 (by omega) (by omega)) ?_
          refine asg rfl .no (.u rfl) ?_
          refine .nil ?_
          refine We.lpo (k + 1, r - ((s.lv level.toNat).getD k Meta.zero).size) ?_ ?_ ?_ ?_ ?_
          · exact (ESub.cons rfl rfl (ESub.cons rfl rfl (ESub.cons rfl rfl (ESub.cons rfl rfl ESub.nil))))
          · exact (MSub.cons .here rfl (MSub.cons .here rfl MSub.nil))
          · first | omega | (dsimp only; omega)
          · exact hGl0
          · exact ⟨by omega, by omega, by omega, over_step hov (by omega) c4⟩
      · have c3k := c3
        try simp only [decide_eq_false_iff_not, Int.not_lt] at c3
        refine .exit ?_
        refine .xcode ?_
        refine .xlp ?_
        refine .xblk ?_
        refine .code ?_
        refine .seq ?_
        refine Wk.rg [0] rfl rfl ?_
        refine asg rfl .no (.u rfl) ?_
        refine .nil ?_
        refine .code ?_
        refine .ret ?_
        refine We.fin0 Try.results21 (.tmp rfl .nil) ?_
        exact ⟨rfl, ft_more c1 c2 (hov.trans (over_end (by omega)))⟩

theorem oldf_ok (s : State) (hd : Nat → Sh) (G : PM) (hs : StR G s hd) (b : Nat) (hp : RdNP G b 0 (s.cells hd)) (m : Meta) (b2 b3 : Nat) (level : Int) (h2 : RdP G ⟨b2, 0, none⟩ (.pointer (some ⟨b, 0, none⟩))) (h3 : RdP G ⟨b3, 0, none⟩ (.int .i64 level)) (h0 : 0 ≤ level) (h5 : level < 5) : Ct Try.prog 38 ([m.val, .pointer (some ⟨b2, 0, none⟩), .pointer (some ⟨b3, 0, none⟩)] : List Value).toArray G [] (fun _ μ' u => μ' = [] ∧ u = .bool (isOld s level m)) := by
  refine Ct.of Try.func38 rfl Try.ntmps38 rfl fun w0 hs0 => ?_
  refine .seq ?_
  refine Wk.rg [0, 1] rfl rfl ?_
  refine bx rfl (.u rfl) rfl ?_; intro b3
  refine asg rfl .no (.u rfl) ?_
  refine .nil ?_
  refine .code ?_
  refine .seq ?_
  refine Wk.draw (mc := false) [0, 1, 2, 3, 4, 5, 6, 7, 8, 9] Fx.mix (by kernel_rfl) ?_
  refine fz rfl .no Fx.fo49_1 (.u rfl) ?_
  refine ld rfl .no Fx.ag32 (.u rfl) (fun _ => Rd.own .here rfl) ?_
  refine ld rfl .no Fx.ag57 (.u rfl) (fun _ => h2.rd) ?_
  refine ld rfl .no Fx.ag3 (.u rfl) (fun _ => h3.rd) ?_
  refine nc rfl .no (.u rfl) ?_
  refine fz rfl .no Fx.fo35_5 (.u rfl) ?_
  refine iA rfl .no Fx.ar33 (.u rfl) (.u rfl) (fun _ => by omega) (fun _ => by omega) ?_
  refine ld rfl .no Fx.ag32 (.u rfl) (fun _ => (hp.z (s.cell_gen hd (k := level.toNat) (by omega))).rd) ?_
  refine cp rfl .no (.u rfl) (.u rfl) rfl ?_
  refine asg rfl .no (.u rfl) ?_
  refine .nil ?_
  refine .code ?_
  refine .ret ?_
  refine We.fin0 Try.results38 (.tmp rfl .nil) ?_
  exact ⟨rfl, rfl⟩

theorem idx_ok (h : Sh) (l : List Meta) (G : PM) (hs : SlR G 40 Meta.cells h l) (hl : l.length * 112 ≤ 140737488351232) (f : Nat) (hf : goFn Try.prog f = true) (vc : List Value) (p : Meta → Bool) (hc : ∀ G', PM.le G G' → ∀ m ∈ l, Ct Try.prog f ([m.val] ++ vc).toArray G' [] fun _ μ' u => μ' = [] ∧ u = .bool (p m)) : Ct Try.prog 37 ([h.val l.length, .func (.func f) #[] vc.toArray] : List Value).toArray G [] (fun _ μ' u => μ' = [] ∧ u = .int .i64 (idxI p l)) := by
  refine Ct.of Try.func37 rfl Try.ntmps37 rfl fun w0 hs0 => ?_
  refine .seq ?_
  refine Wk.rg [0] rfl rfl ?_
  refine asg rfl .no (.u rfl) ?_
  refine .nil ?_
  refine .code ?_
  refine .seq ?_
  refine .seq ?_
  refine Wk.rg [0, 1, 2] rfl rfl ?_
  refine mv rfl .no (.u rfl) ?_
  refine ln rfl .no Fx.sn30 (.u rfl) ?_
  refine mv rfl .no (.u rfl) ?_
  refine .nil ?_
  refine .code ?_
  refine .block ?_
  refine Wk.lop (α := Nat) (fun k => [(8, true, .int .i64 (k : Int))]) (fun _ => [])
    (fun k Gl => k ≤ l.length ∧ ∀ j, j < k → p (l.getD j Meta.zero) = false) (fun k => l.length - k) 0 [(0, true, _), (1, true, _), (7, true, _)] []
    (ESub.cons rfl rfl (ESub.cons rfl rfl (ESub.cons rfl rfl (ESub.cons rfl rfl ESub.nil))))
    MSub.nil ?_ ?_
  · exact ⟨by omega, fun j hj => by omega⟩
  intro k N0 Gl0 hN0 hGl0 hF0
  try dsimp only at hF0 hN0 ⊢
  obtain ⟨hk, hno⟩ := hF0
  refine .seq ?_
  refine Wk.rg [0] rfl rfl ?_
  refine cp rfl .no (.u rfl) (.u rfl) rfl ?_
  refine .nil ?_
  refine .code ?_
  refine .seq ?_
  refine .cond rfl (fun c1 => ?_) (fun c1 => ?_)
  · have c1k := c1
    try simp only [decide_eq_true_eq] at c1
    refine .skip ?_
    refine .code ?_
    refine .seq ?_
    refine .block ?_
    refine .seq ?_
    refine Wk.rg [0, 1] rfl rfl ?_
    refine mv rfl .no (.u rfl) ?_
    refine asg rfl .no (.u rfl) ?_
    refine .nil ?_
    refine .code ?_
    refine .seq ?_
    refine Wk.rg [0, 1, 2, 3, 4, 5] rfl rfl ?_
    refine mv rfl .no (.u rfl) ?_
    refine mv rfl .no (.u rfl) ?_
    refine mv rfl .no (.u rfl) ?_
    refine ih rfl .no Fx.se30 (.u rfl) (.u rfl) (fun _ => by omega) (fun _ => by omega) (fun _ => hs.nn (k := k) (by omega)) ?_
    refine lA rfl .no Fx.ag49 (.u rfl) (fun _ => ((hs.mono hGl0).gat k (by omega) (by omega)).rd) (fun _ => rfl) ?_
    refine kf rfl .no (.u rfl) hf (Eva.cons (.u rfl) Eva.nil) (fun _ => hc _ hGl0 _ (getD_mem (k := k) (by omega))) ?_
    refine .nil ?_
    refine .code ?_
    refine .cond rfl (fun c2 => ?_) (fun c2 => ?_)
    · have c2k := c2
      try simp only [decide_eq_true_eq, decide_eq_false_iff_not, Int.not_lt, Int.not_le, gt_iff_lt, ge_iff_le, Bool.or_eq_true, Bool.and_eq_true, Bool.or_eq_false_iff, Bool.not_eq_true', Bool.not_eq_false', Int.toNat_natCast] at c2
      refine .seq ?_
      refine Wk.rg [0, 1] rfl rfl ?_
      refine mv rfl .no (.u rfl) ?_
      refine asg rfl .no (.u rfl) ?_
      refine .nil ?_
      refine .code ?_
      refine .ret ?_
      refine We.fin0 Try.results37 (.tmp rfl .nil) ?_
      exact ⟨rfl, idx_hit (by omega) hno c2k⟩
    · have c2k := c2
      try simp only [decide_eq_true_eq, decide_eq_false_iff_not, Int.not_lt, Int.not_le, gt_iff_lt, ge_iff_le, Bool.or_eq_true, Bool.and_eq_true, Bool.or_eq_false_iff, Bool.not_eq_true', Bool.not_eq_false', Int.toNat_natCast] at c2
      refine .skip ?_
      refine .blk ?_
      refine .code ?_
      refine Wk.rg [0, 1] rfl rfl ?_
      refine ar rfl .no (.u rfl) (.u rfl) rfl (fun _ => wrap_i64 (by omega) (by omega)) ?_
      refine mv rfl .no (.u rfl) ?_
      refine .nil ?_
      refine We.lpo (k + 1) ?_ ?_ ?_ ?_ ?_
      · exact (ESub.cons rfl rfl (ESub.cons rfl rfl (ESub.cons rfl rfl (ESub.cons rfl rfl ESub.nil))))
      · exact MSub.nil
      · first | omega | (dsimp only; omega)
      · exact hGl0
      · exact ⟨by omega, idx_step hno c2k⟩
  · have c1k := c1
    try simp only [decide_eq_false_iff_not, Int.not_lt] at c1
    refine .exit ?_
    refine .xcode ?_
    refine .xlp ?_
    refine .xblk ?_
    refine .code ?_
    refine .seq ?_
    refine Wk.rg [0] rfl rfl ?_
    refine asg rfl .no (.u rfl) ?_
    refine .nil ?_
    refine .code ?_
    refine .ret ?_
    refine We.fin0 Try.results37 (.tmp rfl .nil) ?_
    exact ⟨rfl, idx_none (by omega) hno⟩

theorem old_ok (s : State) (hd : Nat → Sh) (G : PM) (hs : StR G s hd) (b : Nat) (hp : RdNP G b 0 (s.cells hd)) (level : Int) (h0 : 0 ≤ level) (h5 : level < 5) : Ct Try.prog 30 ([.pointer (some ⟨b, 0, none⟩), .int .i64 level] : List Value).toArray G [] (fun _ μ' u => μ' = [] ∧ u = .int .i64 (idxI (isOld s level) (s.lv level.toNat))) := by
  refine Ct.of Try.func30 rfl Try.ntmps30 rfl fun w0 hs0 => ?_
  refine .seq ?_
  refine Wk.rg [0, 1, 2] rfl rfl ?_
  refine bx rfl (.u rfl) rfl ?_; intro b2
  refine bx rfl (.u rfl) rfl ?_; intro b3
  refine asg rfl .no (.u rfl) ?_
  refine .nil ?_
  refine .code ?_
  refine .seq ?_
  refine Wk.draw (mc := false) [0, 1, 2, 3, 4, 5, 6, 7, 8] Fx.mix (by kernel_rfl) ?_
  refine ld rfl .no Fx.ag57 (.u rfl) (fun _ => Rd.own (.there .here) rfl) ?_
  refine ld rfl .no Fx.ag3 (.u rfl) (fun _ => Rd.own .here rfl) ?_
  refine nc rfl .no (.u rfl) ?_
  refine fz rfl .no Fx.fo35_0 (.u rfl) ?_
  refine iA rfl .no Fx.ar31 (.u rfl) (.u rfl) (fun _ => by omega) (fun _ => by omega) ?_
  refine ld rfl .no Fx.ag30 (.u rfl) (fun _ => (hp.z (s.cell_lv hd (k := level.toNat) (by omega))).rd) ?_
  refine mf (vf := #[]) (vc := [Value.pointer (some ⟨b2, 0, none⟩), Value.pointer (some ⟨b3, 0, none⟩)].toArray) rfl .no (fun a ha _ => by simp) (fun a ha _ => by simp [(Ev.u (c := true) rfl : Ev _ true (.tmp 2) _).eval ha rfl, (Ev.u (c := true) rfl : Ev _ true (.tmp 3) _).eval ha rfl]) ?_
  refine kp rfl .no Fx.go37 (Eva.cons (.u rfl) (Eva.cons (.u rfl) Eva.nil)) (Gp.add .here (Gp.add .here Gp.nil)) (fun _ hle hq => idx_ok _ _ _ ((hs.mono hle).lv level.toNat (by omega)) (hs.len level.toNat (by omega)) 38 Fx.go38 [_, _] (isOld s level) (fun G' hle' m _ => oldf_ok s hd G' ((hs.mono hle).mono hle') b (hp.mono (hle.trans hle')) m b2 b3 level (RdP.mono (RdP.blk (fr := (0, 0)) (cs := [_]) (T := 57) (PM.add_same _ _ _) rfl) (hq.1.trans hle')) (RdP.mono (RdP.blk (fr := (0, 0)) (cs := [_]) (T := 3) (PM.add_same _ _ _) rfl) hle') h0 h5)) ?_
  refine asg rfl .no (.u rfl) ?_
  refine .nil ?_
  refine .code ?_
  refine .ret ?_
  refine We.fin0 Try.results30 (.tmp rfl .nil) ?_
  exact ⟨rfl, rfl⟩

theorem Old_ok (s : State) (hd : Nat → Sh) (G : PM) (hs : StR G s hd) (level : Int) : Ct Try.prog 22 ([s.val hd, .int .i64 level] : List Value).toArray G [] (fun _ μ' u => μ' = [] ∧ u = .bool (oldTop s level)) := by
  refine Ct.of Try.func22 rfl Try.ntmps22 rfl fun w0 hs0 => ?_
  refine .seq ?_
  refine Wk.rg [0, 1] rfl rfl ?_
  refine bx rfl (.u rfl) rfl ?_; intro b2
  refine asg rfl .no (.u rfl) ?_
  refine .nil ?_
  refine .code ?_
  refine .seq ?_
  refine Wk.rg [0, 1, 2, 3, 4, 5, 6, 7, 8, 9, 10, 11] rfl rfl ?_
  refine mv rfl .no (.u rfl) ?_
  refine cp rfl .no (.u rfl) (.u rfl) rfl ?_
  refine mv rfl .no (.u rfl) ?_
  refine mv rfl (.t rfl rfl) (.u rfl) ?_
  refine cp rfl (.t rfl rfl) (.s rfl) (.u rfl) rfl ?_
  refine pkA rfl .no (.u rfl) (.s rfl) ?_
  refine mv rfl .no (.u rfl) ?_
  refine mv rfl (.t rfl rfl) (.u rfl) ?_
  refine kp rfl (.t rfl rfl) Fx.go30 (Eva.cons (.u rfl) (Eva.cons (.s rfl) Eva.nil)) (Gp.add .here Gp.nil) (fun hc hle hq => by simp only [Bool.and_eq_true, decide_eq_true_eq] at hc; exact old_ok s hd _ (hs.mono hle) b2 RdNP.add level (by omega) (by omega)) ?_
  refine cp rfl (.t rfl rfl) (.s rfl) (.u rfl) rfl ?_
  refine pkA rfl .no (.u rfl) (.s rfl) ?_
  refine asg rfl .no (.u rfl) ?_
  refine .nil ?_
  refine .code ?_
  refine .ret ?_
  refine We.fin0 Try.results22 (.tmp rfl .nil) ?_
  exact ⟨rfl, rfl⟩

theorem rOld_ok (s : State) (hd : Nat → Sh) (G : PM) (hs : StR G s hd) (level : Int) : Ct Try.prog 23 ([s.val hd, .int .i64 level] : List Value).toArray G [] (fun _ μ' u => μ' = [] ∧ u = .bool (oldTop s level)) := by
  refine Ct.of Try.func23 rfl Try.ntmps23 rfl fun w0 hs0 => ?_
  refine .seq ?_
  refine Wk.rg [0, 1] rfl rfl ?_
  refine bx rfl (.u rfl) rfl ?_; intro b2
  refine asg rfl .no (.u rfl) ?_
  refine .nil ?_
  refine .code ?_
  refine .seq ?_
  refine .seq ?_
  refine Wk.rg [0, 1, 2, 3, 4, 5] rfl rfl ?_
  refine mv rfl .no (.u rfl) ?_
  refine cp rfl .no (.u rfl) (.u rfl) rfl ?_
  refine mv rfl .no (.u rfl) ?_
  refine mv rfl (.f rfl rfl) (.u rfl) ?_
  refine cp rfl (.f rfl rfl) (.s rfl) (.u rfl) rfl ?_
  refine pkO rfl .no (.u rfl) (.s rfl) ?_
  refine .nil ?_
  refine .code ?_
  refine .cond rfl (fun c1 => ?_) (fun c1 => ?_)
  · have c1k := c1
    try simp only [decide_eq_true_eq, ge_iff_le, Bool.or_eq_true] at c1
    refine .seq ?_
    refine Wk.rg [0] rfl rfl ?_
    refine asg rfl .no (.u rfl) ?_
    refine .nil ?_
    refine .code ?_
    refine .ret ?_
    refine We.fin0 Try.results23 (.tmp rfl .nil) ?_
    exact ⟨rfl, old_no c1⟩
  · have c1k := c1
    try simp only [decide_eq_false_iff_not, Int.not_lt, Int.not_le, ge_iff_le, Bool.or_eq_false_iff] at c1
    refine .skip ?_
    refine .code ?_
    refine .seq ?_
    refine .seq ?_
    refine Wk.rg [0] rfl rfl ?_
    have hli := hs.len level.toNat (by omega)
    refine asg rfl .no (.u rfl) ?_
    refine .nil ?_
    refine .code ?_
    refine .block ?_
    refine Wk.lop (α := Nat) (fun k => [(5, true, .int .i64 (k : Int))]) (fun _ => [])
      (fun k Gl => k ≤ (s.lv level.toNat).length ∧ ∀ j, j < k → isOld s level ((s.lv level.toNat).getD j Meta.zero) = false) (fun k => (s.lv level.toNat).length - k) 0 [(1, true, _), (2, true, _)] [.blk b2 _]
      (ESub.cons rfl rfl (ESub.cons rfl rfl (ESub.cons rfl rfl ESub.nil)))
      (MSub.cons .here rfl MSub.nil) ?_ ?_
    · exact ⟨by omega, fun j hj => by omega⟩
    intro k N0 Gl0 hN0 hGl0 hF0
    try dsimp only at hF0 hN0 ⊢
    obtain ⟨hk, hno⟩ := hF0
    refine .seq ?_
    refine .seq ?_
    refine Wk.rg [0, 1, 2, 3, 4, 5, 6] rfl rfl ?_
    refine mv rfl .no (.u rfl) ?_
    refine mv rfl .no (.u rfl) ?_
    refine fz rfl .no Fx.fo35_0 (.u rfl) ?_
    refine iA rfl .no Fx.ar31 (.u rfl) (.u rfl) (fun _ => by omega) (fun _ => by omega) ?_
    refine ld rfl .no Fx.ag30 (.u rfl) (fun _ => Rd.own .here (s.cell_lv hd (k := level.toNat) (by omega))) ?_
    refine ln rfl .no Fx.sn30 (.u rfl) ?_
    refine cp rfl .no (.u rfl) (.u rfl) rfl ?_
    refine .nil ?_
    refine .code ?_
    refine .cond rfl (fun c2 => ?_) (fun c2 => ?_)
    · have c2k := c2
      try simp only [decide_eq_true_eq] at c2
      refine .skip ?_
      refine .code ?_
      refine .seq ?_
      refine .block ?_
      refine .seq ?_
      refine Wk.draw (mc := false) [0, 1, 2, 3, 4, 5, 6, 7, 8, 9, 10, 11, 12] Fx.mix (by kernel_rfl) ?_
      refine mv rfl .no (.u rfl) ?_
      refine fz rfl .no Fx.fo35_0 (.u rfl) ?_
      refine iA rfl .no Fx.ar31 (.u rfl) (.u rfl) (fun _ => by omega) (fun _ => by omega) ?_
      refine ld rfl .no Fx.ag30 (.u rfl) (fun _ => Rd.own .here (s.cell_lv hd (k := level.toNat) (by omega))) ?_
      refine mv rfl .no (.u rfl) ?_
      refine ih rfl .no Fx.se30 (.u rfl) (.u rfl) (fun _ => by omega) (fun _ => by omega) (fun _ => (hs.lv level.toNat (by omega)).nn (k := k) (by omega)) ?_
      refine fa rfl .no Fx.fo49_1 (.u rfl) ?_
      refine ld rfl .no Fx.ag32 (.u rfl) (fun _ => (((hs.mono hGl0).lv level.toNat (by omega)).gat k (by omega) (by omega) 1 _ rfl).rd) ?_
      refine mv rfl .no (.u rfl) ?_
      refine fz rfl .no Fx.fo35_5 (.u rfl) ?_
      refine iA rfl .no Fx.ar33 (.u rfl) (.u rfl) (fun _ => by omega) (fun _ => by omega) ?_
      refine ld rfl .no Fx.ag32 (.u rfl) (fun _ => Rd.own .here (s.cell_gen hd (k := level.toNat) (by omega))) ?_
      refine cp rfl .no (.u rfl) (.u rfl) rfl ?_
      refine .nil ?_
      refine .code ?_
      refine .cond rfl (fun c3 => ?_) (fun c3 => ?_)
      · have c3k := c3
        try simp only [decide_eq_true_eq] at c3
        refine .seq ?_
        refine Wk.rg [0] rfl rfl ?_
        refine asg rfl .no (.u rfl) ?_
        refine .nil ?_
        refine .code ?_
        refine .ret ?_
        refine We.fin0 Try.results23 (.tmp rfl .nil) ?_
        exact ⟨rfl, old_hit c1 (by omega) hno c3k⟩
      · have c3k := c3
        try simp only [decide_eq_false_iff_not, Int.not_lt] at c3
        refine .skip ?_
        refine .blk ?_
        refine .code ?_
        refine Wk.rg [0, 1, 2] rfl rfl ?_
        refine mv rfl .no (.u rfl) ?_
        refine ar rfl .no (.u rfl) (.u rfl) rfl (fun _ => wrap_i64 (by omega) (by omega)) ?_
        refine asg rfl .no (.u rfl) ?_
        refine .nil ?_
        refine We.lpo (k + 1) ?_ ?_ ?_ ?_ ?_
        · exact (ESub.cons rfl rfl (ESub.cons rfl rfl (ESub.cons rfl rfl ESub.nil)))
        · exact (MSub.cons .here rfl MSub.nil)
        · first | omega | (dsimp only; omega)
        · exact hGl0
        · exact ⟨by omega, idx_step (p := isOld s level) hno c3k⟩
    · have c2k := c2
      try simp only [decide_eq_false_iff_not, Int.not_lt] at c2
      refine .exit ?_
      refine .xcode ?_
      refine .xlp ?_
      refine .xblk ?_
      refine .code ?_
      refine .seq ?_
      refine Wk.rg [0] rfl rfl ?_
      refine asg rfl .no (.u rfl) ?_
      refine .nil ?_
      refine .code ?_
      refine .ret ?_
      refine We.fin0 Try.results23 (.tmp rfl .nil) ?_
      exact ⟨rfl, old_none c1 (by omega) hno⟩

end Go.Proofs.Ytnhipfnbnilleaa
