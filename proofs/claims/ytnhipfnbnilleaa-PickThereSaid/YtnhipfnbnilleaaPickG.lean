/- Contracts of functions, walked. -/
import Derived.Test.YtnhipfnbnilleaaPickF
namespace Go.Proofs.Ytnhipfnbnilleaa
open Go.Tan Go.RowKit

theorem Pick_ok (s : State) (hd : Nat → Sh) (G : PM) (hs : StR G s hd) (o : Opts) (turn : Int) (ht0 : 0 ≤ turn) (ht1 : turn < 18446744073709551616) : Ct Try.prog 14 ([s.val hd, o.val, .int .u64 turn] : List Value).toArray G [] (fun G' μ' u => μ' = [] ∧ PickP s o turn G' u) := by
  refine Ct.of Try.func14 rfl Try.ntmps14 rfl fun w0 hs0 => ?_
  refine .seq ?_
  refine Wk.rg [0, 1, 2, 3] rfl rfl ?_
  refine bx rfl (.u rfl) rfl ?_; intro b3
  refine bx rfl (.u rfl) rfl ?_; intro b4
  refine al rfl Fx.zr39 ?_; intro b6
  refine asg rfl .no (.u rfl) ?_
  refine .nil ?_
  refine .code ?_
  refine .seq ?_
  refine .seq ?_
  refine Wk.rg [0, 1, 2, 3, 4, 5, 6, 7] rfl rfl ?_
  refine lA rfl .no Fx.ag25 (.u rfl) (fun _ => RdN.own (.there .here)) (fun _ => rfl) ?_
  refine kv rfl .no Fx.go9 (Eva.cons (.u rfl) Eva.nil) (fun _ => right_ok _ _) ?_
  refine nt rfl .no (.u rfl) ?_
  refine mv rfl .no (.u rfl) ?_
  refine lA rfl (.f rfl rfl) Fx.ag35 (.u rfl) (fun _ => RdN.own (.there (.there .here))) (fun _ => rfl) ?_
  refine kv rfl (.f rfl rfl) Fx.go24 (Eva.cons (.s rfl) Eva.nil) (fun hc => vRight_ok _ _ _ (by assumption)) ?_
  refine nt rfl (.f rfl rfl) (.s rfl) ?_
  refine pkO rfl .no (.u rfl) (.s rfl) ?_
  refine .nil ?_
  refine .code ?_
  refine .cond rfl (fun c1 => ?_) (fun c1 => ?_)
  · have c1k := c1
    try simp only [Bool.or_eq_true, Bool.not_eq_true'] at c1
    refine .seq ?_
    refine Wk.rg [0, 1, 2] rfl rfl ?_
    refine bC rfl .no Fx.bp39_ .nil rfl ?_
    refine sw rfl (.u rfl) (.u rfl) rfl Fx.sz39 .here rfl (by simp [Value.oneCell', bFold]) ?_
    refine asg rfl .no (.u rfl) ?_
    refine .nil ?_
    refine .code ?_
    refine .ret ?_
    refine We.fin0 Try.results14 (.cell rfl (fun w hw => run_loadVarN Fx.ag39 (RdN.own .here) rfl hw) (.tmp rfl .nil)) ?_
    exact ⟨rfl, pick_fin (pick_no c1) JobR.zero⟩
  · have c1k := c1
    try simp only [Bool.or_eq_false_iff, Bool.not_eq_false'] at c1
    refine .skip ?_
    refine .code ?_
    refine .seq ?_
    refine .seq ?_
    refine Wk.rg [0] rfl rfl ?_
    refine mv rfl .no (.u rfl) ?_
    refine .nil ?_
    refine .code ?_
    refine .block ?_
    refine Wk.lop (α := Nat) (fun k => [(22, true, .int .i64 (k : Int))]) (fun _ => [])
      (fun k Gl => k ≤ 4 ∧ pickF s o turn 4 0 = pickF s o turn (4 - k) k) (fun k => 5 - k) 0 [(2, true, _), (3, true, _), (4, true, _), (6, true, _)] [.blk b6 _, .blk b4 _, .blk b3 _]
      (ESub.cons rfl rfl (ESub.cons rfl rfl (ESub.cons rfl rfl (ESub.cons rfl rfl (ESub.cons rfl rfl ESub.nil)))))
      (MSub.cons .here rfl (MSub.cons .here rfl (MSub.cons .here rfl MSub.nil))) ?_ ?_
    · exact ⟨by omega, rfl⟩
    intro k N0 Gl0 hN0 hGl0 hF0
    try dsimp only at hF0 hN0 ⊢
    obtain ⟨hk, hpf⟩ := hF0
    refine .seq ?_
    refine Wk.rg [0] rfl rfl ?_
    refine cp rfl .no (.u rfl) (.u rfl) rfl ?_
    refine .nil ?_
    refine .code ?_
    refine .seq ?_
    refine .cond rfl (fun c2 => ?_) (fun c2 => ?_)
    · have c2k := c2
      try simp only [decide_eq_true_eq] at c2
      refine .skip ?_
      refine .code ?_
      refine .seq ?_
      refine .block ?_
      refine .seq ?_
      refine Wk.rg [0, 1] rfl rfl ?_
      refine mv rfl .no (.u rfl) ?_
      refine asg rfl .no (.u rfl) ?_
      refine .nil ?_
      refine .code ?_
      refine .seq ?_
      refine .seq ?_
      refine Wk.rg [0, 1, 2, 3] rfl rfl ?_
      refine lA rfl .no Fx.ag25 (.u rfl) (fun _ => RdN.own (.there .here)) (fun _ => rfl) ?_
      refine mv rfl .no (.u rfl) ?_
      refine kp rfl .no Fx.go28 (Eva.cons (.u rfl) (Eva.cons (.u rfl) (Eva.cons (.u rfl) Eva.nil))) (Gp.add (.there (.there .here)) Gp.nil) (fun _ hle hq => full_ok s hd _ ((hs.mono hGl0).mono hle) b3 RdNP.add o (k : Int) (by omega) (by omega) (right_sizes c1.2 (by omega))) ?_
      refine nt rfl .no (.u rfl) ?_
      refine .nil ?_
      refine .code ?_
      refine .cond rfl (fun c3 => ?_) (fun c3 => ?_)
      · have c3k := c3
        try simp only [Bool.not_eq_true'] at c3
        refine .exit ?_
        refine .xcode ?_
        refine .xblk ?_
        refine .code ?_
        refine Wk.rg [0, 1] rfl rfl ?_
        refine ar rfl .no (.u rfl) (.u rfl) rfl (fun _ => wrap_i64 (by omega) (by omega)) ?_
        refine mv rfl .no (.u rfl) ?_
        refine .nil ?_
        refine We.lpo (k + 1) ?_ ?_ ?_ ?_ ?_
        · exact (ESub.cons rfl rfl (ESub.cons rfl rfl (ESub.cons rfl rfl (ESub.cons rfl rfl (ESub.cons rfl rfl ESub.nil)))))
        · exact (MSub.cons .here rfl (MSub.cons .here rfl (MSub.cons .here rfl MSub.nil)))
        · first | omega | (dsimp only; omega)
        · exact hGl0
        · exact ⟨by omega, pickF_step hpf (fun _ => c3)⟩
      · have c3k := c3
        try simp only [Bool.not_eq_false'] at c3
        refine .skip ?_
        refine .code ?_
        refine .seq ?_
        refine Wk.rg [0, 1, 2, 3, 4] rfl rfl ?_
        have hli := hs.len k (by omega); have hne := full_ne c1.1 c3
        refine mv rfl .no (.u rfl) ?_
        refine fz rfl .no Fx.fo35_0 (.u rfl) ?_
        refine iA rfl .no Fx.ar31 (.u rfl) (.u rfl) (fun _ => by omega) (fun _ => by omega) ?_
        refine ld rfl .no Fx.ag30 (.u rfl) (fun _ => Rd.own (.there (.there .here)) (s.cell_lv hd (k := k) (by omega))) ?_
        refine asg rfl .no (.u rfl) ?_
        refine .nil ?_
        refine .code ?_
        refine .seq ?_
        refine .seq ?_
        refine Wk.rg [0, 1] rfl rfl ?_
        refine mv rfl .no (.u rfl) ?_
        refine cp rfl .no (.u rfl) (.u rfl) rfl ?_
        refine .nil ?_
        refine .code ?_
        refine .cond rfl (fun c4 => ?_) (fun c4 => ?_)
        · have c4k := c4
          try simp only [decide_eq_true_eq, gt_iff_lt] at c4
          refine .seq ?_
          refine Wk.rg [0, 1, 2, 3, 4, 5] rfl rfl ?_
          refine mv rfl .no (.u rfl) ?_
          refine mv rfl .no (.u rfl) ?_
          refine ln rfl .no Fx.sn30 (.u rfl) ?_
          refine cw rfl .no Fx.cv3_32 (.u rfl) (fun _ => wrap_u64 (by omega) (by omega)) ?_
          refine rm rfl .no (.u rfl) (.u rfl) (fun _ => by omega) ?_
          refine asg rfl .no (.u rfl) ?_
          refine .nil ?_
          refine .code ?_
          refine Wk.rg [0, 1, 2, 3, 4, 5] rfl rfl ?_
          have hm := tm_bd (n := (s.lv k).length) ht0 hne
          refine mv rfl .no (.u rfl) ?_
          refine mv rfl .no (.u rfl) ?_
          refine mv rfl .no (.u rfl) ?_
          refine ar rfl .no (.u rfl) (.u rfl) rfl (fun _ => wrap_u64 (by omega) (by omega)) ?_
          refine scn (q := 1) rfl .no Fx.se30 (.u rfl) (.u rfl) (.u rfl) (fun _ => by omega) (fun _ => by omega) (fun _ => by have := (hs.lv k (by omega)).le; omega) (fun _ => by omega) ?_
          refine asg rfl .no (.u rfl) ?_
          refine .nil ?_
          refine .code ?_
          refine .seq ?_
          refine Wk.rg [0, 1, 2, 3, 4, 5, 6, 7] rfl rfl ?_
          refine lA rfl .no Fx.ag35 (.u rfl) (fun _ => RdN.own (.there (.there .here))) (fun _ => rfl) ?_
          refine mv rfl .no (.u rfl) ?_
          refine mv rfl .no (.u rfl) ?_
          refine kc rfl Fx.go29 (Eva.cons (.u rfl) (Eva.cons (.u rfl) (Eva.cons (.u rfl) (Eva.cons (.u rfl) Eva.nil)))) (down_ok s hd _ (hs.mono hGl0) 1 (k : Int) _ [(s.lv k).getD (turn.tmod ((s.lv k).length : Int)).toNat Meta.zero] (((hs.mono hGl0).lv k (by omega)).cut (at_some (by omega))) (by simp) (by simp) (by omega) (by omega)) ?_
          rintro v1 G1 μ1 hG1 ⟨rfl, j1, j2, rfl, hJ⟩
          simp only [lay, List.nil_append]
          refine ex rfl .no (.u rfl) rfl ?_
          refine ex rfl .no (.u rfl) rfl ?_
          refine sw rfl (.u rfl) (.u rfl) rfl Fx.sz39 .here rfl (Job.one _ _ _) ?_
          refine asg rfl .no (.u rfl) ?_
          refine .nil ?_
          refine .code ?_
          refine .ret ?_
          refine We.fin0 Try.results14 (.cell rfl (fun w hw => run_loadVarN Fx.ag39 (RdN.own .here) rfl hw) (.tmp rfl .nil)) ?_
          exact ⟨rfl, pick_fin ((pick_full c1 hpf (by omega) c3).trans (by rw [lowOf_pos (by omega)])) hJ⟩
        · have c4k := c4
          try simp only [decide_eq_false_iff_not, Int.not_lt, gt_iff_lt] at c4
          refine .skip ?_
          refine .code ?_
          refine .seq ?_
          refine Wk.rg [0, 1, 2, 3, 4, 5, 6, 7] rfl rfl ?_
          refine lA rfl .no Fx.ag35 (.u rfl) (fun _ => RdN.own (.there (.there .here))) (fun _ => rfl) ?_
          refine mv rfl .no (.u rfl) ?_
          refine mv rfl .no (.u rfl) ?_
          refine kc rfl Fx.go29 (Eva.cons (.u rfl) (Eva.cons (.u rfl) (Eva.cons (.u rfl) (Eva.cons (.u rfl) Eva.nil)))) (down_ok s hd _ (hs.mono hGl0) 1 (k : Int) _ (s.lv k) ((hs.mono hGl0).lv k (by omega)) hli hne (by omega) (by omega)) ?_
          rintro v1 G1 μ1 hG1 ⟨rfl, j1, j2, rfl, hJ⟩
          simp only [lay, List.nil_append]
          refine ex rfl .no (.u rfl) rfl ?_
          refine ex rfl .no (.u rfl) rfl ?_
          refine sw rfl (.u rfl) (.u rfl) rfl Fx.sz39 .here rfl (Job.one _ _ _) ?_
          refine asg rfl .no (.u rfl) ?_
          refine .nil ?_
          refine .code ?_
          refine .ret ?_
          refine We.fin0 Try.results14 (.cell rfl (fun w hw => run_loadVarN Fx.ag39 (RdN.own .here) rfl hw) (.tmp rfl .nil)) ?_
          exact ⟨rfl, pick_fin ((pick_full c1 hpf (by omega) c3).trans (by rw [lowOf_zero (by omega)])) hJ⟩
    · have c2k := c2
      try simp only [decide_eq_false_iff_not, Int.not_lt] at c2
      refine .exit ?_
      refine .xcode ?_
      refine .xlp ?_
      refine .xblk ?_
      refine .code ?_
      refine .seq ?_
      refine .seq ?_
      refine Wk.rg [0] rfl rfl ?_
      refine mv rfl .no (.u rfl) ?_
      refine .nil ?_
      refine .code ?_
      refine .block ?_
      refine Wk.lop (α := Nat) (fun j => [(52, true, .int .i64 (j : Int))]) (fun _ => [])
        (fun j Gl => j ≤ 5 ∧ pickO s 5 0 = pickO s (5 - j) j) (fun j => 5 - j) 0 [(3, true, _), (6, true, _)] [.blk b6 _, .blk b4 _, .blk b3 _]
        (ESub.cons rfl rfl (ESub.cons rfl rfl (ESub.cons rfl rfl ESub.nil)))
        (MSub.cons .here rfl (MSub.cons .here rfl (MSub.cons .here rfl MSub.nil))) ?_ ?_
      · exact ⟨by omega, rfl⟩
      intro j N1 Gl1 hN1 hGl1 hF1
      try dsimp only at hF1 hN1 ⊢
      obtain ⟨hj, hpo⟩ := hF1
      refine .seq ?_
      refine Wk.rg [0] rfl rfl ?_
      refine cp rfl .no (.u rfl) (.u rfl) rfl ?_
      refine .nil ?_
      refine .code ?_
      refine .seq ?_
      refine .cond rfl (fun c5 => ?_) (fun c5 => ?_)
      · have c5k := c5
        try simp only [decide_eq_true_eq] at c5
        refine .skip ?_
        refine .code ?_
        refine .seq ?_
        refine .block ?_
        refine .seq ?_
        refine Wk.rg [0, 1] rfl rfl ?_
        refine mv rfl .no (.u rfl) ?_
        refine asg rfl .no (.u rfl) ?_
        refine .nil ?_
        refine .code ?_
        refine .seq ?_
        refine Wk.rg [0, 1, 2] rfl rfl ?_
        refine mv rfl .no (.u rfl) ?_
        refine kp rfl .no Fx.go30 (Eva.cons (.u rfl) (Eva.cons (.u rfl) Eva.nil)) (Gp.add (.there (.there .here)) Gp.nil) (fun _ hle hq => (show Ct _ _ _ _ _ fun _ μ' u => μ' = [] ∧ u = .int .i64 (oldI s j) from old_ok s hd _ (((hs.mono hGl0).mono hGl1).mono hle) b3 RdNP.add (j : Int) (by omega) (by omega))) ?_
        refine asg rfl .no (.u rfl) ?_
        refine .nil ?_
        refine .code ?_
        refine .seq ?_
        refine .block ?_
        refine .seq ?_
        refine Wk.rg [0, 1, 2] rfl rfl ?_
        refine mv rfl .no (.u rfl) ?_
        refine cp rfl .no (.u rfl) (.u rfl) rfl ?_
        refine asg rfl .no (.u rfl) ?_
        refine .nil ?_
        refine .code ?_
        refine .cond rfl (fun c6 => ?_) (fun c6 => ?_)
        · have c6k := c6
          try simp only [decide_eq_true_eq] at c6
          refine .exit ?_
          refine .xnot rfl ?_
          refine .xcode ?_
          refine .xblk ?_
          refine .code ?_
          refine Wk.rg [0, 1] rfl rfl ?_
          refine ar rfl .no (.u rfl) (.u rfl) rfl (fun _ => wrap_i64 (by omega) (by omega)) ?_
          refine mv rfl .no (.u rfl) ?_
          refine .nil ?_
          refine We.lpo (j + 1) ?_ ?_ ?_ ?_ ?_
          · exact (ESub.cons rfl rfl (ESub.cons rfl rfl (ESub.cons rfl rfl ESub.nil)))
          · exact (MSub.cons .here rfl (MSub.cons .here rfl (MSub.cons .here rfl MSub.nil)))
          · first | omega | (dsimp only; omega)
          · exact hGl1
          · exact ⟨by omega, pickO_step hpo (by omega) (by omega)⟩
        · have c6k := c6
          try simp only [decide_eq_false_iff_not, Int.not_lt] at c6
          refine .seq ?_
          refine Wk.rg [0, 1, 2] rfl rfl ?_
          refine mv rfl .no (.u rfl) ?_
          refine cp rfl .no (.u rfl) (.u rfl) rfl ?_
          refine asg rfl .no (.u rfl) ?_
          refine .nil ?_
          refine .code ?_
          refine .cond rfl (fun c7 => ?_) (fun c7 => ?_)
          · have c7k := c7
            try simp only [decide_eq_true_eq, decide_eq_false_iff_not, Int.not_lt, Int.not_le, gt_iff_lt, ge_iff_le, Bool.or_eq_true, Bool.and_eq_true, Bool.or_eq_false_iff, Bool.not_eq_true', Bool.not_eq_false', Int.toNat_natCast] at c7
            refine .seq ?_
            refine Wk.rg [0, 1, 2, 3, 4, 5, 6, 7, 8] rfl rfl ?_
            obtain rfl : j = 0 := by simpa using c7
            have hid := oldI_bd (s := s) (j := 0) (by omega)
            refine lA rfl .no Fx.ag35 (.u rfl) (fun _ => RdN.own (.there (.there .here))) (fun _ => rfl) ?_
            refine fz rfl .no Fx.fo35_0 (.u rfl) ?_
            refine iA rfl .no Fx.ar31 (.u rfl) (.u rfl) (fun _ => by decide) (fun _ => by decide) ?_
            refine ld rfl .no Fx.ag30 (.u rfl) (fun _ => Rd.own (.there (.there .here)) rfl) ?_
            refine kc rfl Fx.go29 (Eva.cons (.u rfl) (Eva.cons (.u rfl) (Eva.cons (.u rfl) (Eva.cons (.u rfl) Eva.nil)))) (down_ok s hd _ ((hs.mono hGl0).mono hGl1) 2 0 _ (s.lv 0) (((hs.mono hGl0).mono hGl1).lv 0 (by omega)) (hs.len 0 (by omega)) (by omega) (by omega) (by omega)) ?_
            rintro v1 G1 μ1 hG1 ⟨rfl, j1, j2, rfl, hJ⟩
            simp only [lay, List.nil_append]
            refine ex rfl .no (.u rfl) rfl ?_
            refine ex rfl .no (.u rfl) rfl ?_
            refine sw rfl (.u rfl) (.u rfl) rfl Fx.sz39 .here rfl (Job.one _ _ _) ?_
            refine asg rfl .no (.u rfl) ?_
            refine .nil ?_
            refine .code ?_
            refine .ret ?_
            refine We.fin0 Try.results14 (.cell rfl (fun w hw => run_loadVarN Fx.ag39 (RdN.own .here) rfl hw) (.tmp rfl .nil)) ?_
            exact ⟨rfl, pick_fin ((pick_old c1 hpf (by omega) hpo (by omega) (by omega)).trans (by rw [oldJ_zero (by omega)])) hJ⟩
          · have c7k := c7
            try simp only [decide_eq_true_eq, decide_eq_false_iff_not, Int.not_lt, Int.not_le, gt_iff_lt, ge_iff_le, Bool.or_eq_true, Bool.and_eq_true, Bool.or_eq_false_iff, Bool.not_eq_true', Bool.not_eq_false', Int.toNat_natCast] at c7
            refine .skip ?_
            refine .blk ?_
            refine .code ?_
            refine .seq ?_
            refine Wk.rg [0, 1, 2, 3, 4, 5, 6, 7, 8, 9, 10, 11, 12, 13] rfl rfl ?_
            have hid := oldI_bd (s := s) (j := j) (by omega); have hli := hs.len j (by omega)
            refine mv rfl .no (.u rfl) ?_
            refine mv rfl .no (.u rfl) ?_
            refine mv rfl .no (.u rfl) ?_
            refine fz rfl .no Fx.fo35_0 (.u rfl) ?_
            refine iA rfl .no Fx.ar31 (.u rfl) (.u rfl) (fun _ => by omega) (fun _ => by omega) ?_
            refine ld rfl .no Fx.ag30 (.u rfl) (fun _ => Rd.own (.there (.there .here)) (s.cell_lv hd (k := j) (by omega))) ?_
            refine mv rfl .no (.u rfl) ?_
            refine mv rfl .no (.u rfl) ?_
            refine ar rfl .no (.u rfl) (.u rfl) rfl (fun _ => wrap_i64 (by omega) (by omega)) ?_
            refine scn (q := 1) rfl .no Fx.se30 (.u rfl) (.u rfl) (.u rfl) (fun _ => by omega) (fun _ => by omega) (fun _ => by have := (hs.lv j (by omega)).le; omega) (fun _ => by omega) ?_
            refine kc rfl Fx.go31 (Eva.cons (.u rfl) Eva.nil) (numbers_ok _ [(s.lv j).getD (oldI s j).toNat Meta.zero] _ ((((hs.mono hGl0).mono hGl1).lv j (by omega)).cut (at_some hid)) (by simp)) ?_
            rintro v1 G1 μ1 hG1 ⟨rfl, hn1, rfl, hs1⟩
            simp only [lay, List.nil_append]
            refine bC rfl .no Fx.bp39_0_1_2_3 (.cons (.u rfl) rfl (.cons (.u rfl) rfl (.cons (.u rfl) rfl (.cons (.u rfl) rfl .nil)))) rfl ?_
            refine sw rfl (.u rfl) (.u rfl) rfl Fx.sz39 .here rfl (by simp [Value.oneCell', Sh.val, bFold, put]) ?_
            refine asg rfl .no (.u rfl) ?_
            refine .nil ?_
            refine .code ?_
            refine .ret ?_
            refine We.fin0 Try.results14 (.cell rfl (fun w hw => run_loadVarN Fx.ag39 (RdN.own .here) rfl hw) (.tmp rfl .nil)) ?_
            exact ⟨rfl, pick_fin ((pick_old c1 hpf (by omega) hpo (by omega) (by omega)).trans (by rw [oldJ_pos (by simpa using c7)])) ⟨hs1, SlR.nul, by simp [nums], by simp⟩⟩
      · have c5k := c5
        try simp only [decide_eq_false_iff_not, Int.not_lt] at c5
        refine .exit ?_
        refine .xcode ?_
        refine .xlp ?_
        refine .xblk ?_
        refine .code ?_
        refine .seq ?_
        refine Wk.rg [0, 1, 2] rfl rfl ?_
        refine bC rfl .no Fx.bp39_ .nil rfl ?_
        refine sw rfl (.u rfl) (.u rfl) rfl Fx.sz39 .here rfl (by simp [Value.oneCell', bFold]) ?_
        refine asg rfl .no (.u rfl) ?_
        refine .nil ?_
        refine .code ?_
        refine .ret ?_
        refine We.fin0 Try.results14 (.cell rfl (fun w hw => run_loadVarN Fx.ag39 (RdN.own .here) rfl hw) (.tmp rfl .nil)) ?_
        exact ⟨rfl, pick_fin (pick_none hpf (by omega) hpo (by omega)) JobR.zero⟩

theorem rPick_ok (s : State) (hd : Nat → Sh) (G : PM) (hs : StR G s hd) (o : Opts) (turn : Int) (ht0 : 0 ≤ turn) (ht1 : turn < 18446744073709551616) : Ct Try.prog 15 ([s.val hd, o.val, .int .u64 turn] : List Value).toArray G [] (fun G' μ' u => μ' = [] ∧ PickP s o turn G' u) := by
  refine Ct.of Try.func15 rfl Try.ntmps15 rfl fun w0 hs0 => ?_
  refine .seq ?_
  refine Wk.rg [0, 1, 2, 3] rfl rfl ?_
  refine bx rfl (.u rfl) rfl ?_; intro b3
  refine bx rfl (.u rfl) rfl ?_; intro b4
  refine al rfl Fx.zr39 ?_; intro b6
  refine asg rfl .no (.u rfl) ?_
  refine .nil ?_
  refine .code ?_
  refine .seq ?_
  refine .seq ?_
  refine Wk.rg [0, 1, 2, 3, 4, 5, 6, 7] rfl rfl ?_
  refine lA rfl .no Fx.ag35 (.u rfl) (fun _ => RdN.own (.there (.there .here))) (fun _ => rfl) ?_
  refine kv rfl .no Fx.go32 (Eva.cons (.u rfl) Eva.nil) (fun _ => rRight_ok _ _ _ (by assumption)) ?_
  refine nt rfl .no (.u rfl) ?_
  refine mv rfl .no (.u rfl) ?_
  refine lA rfl (.f rfl rfl) Fx.ag25 (.u rfl) (fun _ => RdN.own (.there .here)) (fun _ => rfl) ?_
  refine kv rfl (.f rfl rfl) Fx.go10 (Eva.cons (.s rfl) Eva.nil) (fun hc => rright_ok _ _) ?_
  refine nt rfl (.f rfl rfl) (.s rfl) ?_
  refine pkO rfl .no (.u rfl) (.s rfl) ?_
  refine .nil ?_
  refine .code ?_
  refine .cond rfl (fun c1 => ?_) (fun c1 => ?_)
  · have c1k := c1
    try simp only [Bool.or_eq_true, Bool.not_eq_true'] at c1
    refine .seq ?_
    refine Wk.rg [0, 1, 2] rfl rfl ?_
    refine bC rfl .no Fx.bp39_ .nil rfl ?_
    refine sw rfl (.u rfl) (.u rfl) rfl Fx.sz39 .here rfl (by simp [Value.oneCell', bFold]) ?_
    refine asg rfl .no (.u rfl) ?_
    refine .nil ?_
    refine .code ?_
    refine .ret ?_
    refine We.fin0 Try.results15 (.cell rfl (fun w hw => run_loadVarN Fx.ag39 (RdN.own .here) rfl hw) (.tmp rfl .nil)) ?_
    exact ⟨rfl, pick_fin (pick_no c1.symm) JobR.zero⟩
  · have c1k := c1
    try simp only [Bool.or_eq_false_iff, Bool.not_eq_false'] at c1
    refine .skip ?_
    refine .code ?_
    refine .seq ?_
    refine .seq ?_
    refine Wk.rg [0] rfl rfl ?_
    refine asg rfl .no (.u rfl) ?_
    refine .nil ?_
    refine .code ?_
    refine .block ?_
    refine Wk.lop (α := Nat) (fun k => [(8, true, .int .i64 (k : Int))]) (fun _ => [])
      (fun k Gl => k ≤ 5 ∧ pickF s o turn 4 0 = pickF s o turn (4 - k) k) (fun k => 5 - k) 0 [(2, true, _), (3, true, _), (4, true, _), (6, true, _)] [.blk b6 _, .blk b4 _, .blk b3 _]
      (ESub.cons rfl rfl (ESub.cons rfl rfl (ESub.cons rfl rfl (ESub.cons rfl rfl (ESub.cons rfl rfl ESub.nil)))))
      (MSub.cons .here rfl (MSub.cons .here rfl (MSub.cons .here rfl MSub.nil))) ?_ ?_
    · exact ⟨by omega, rfl⟩
    intro k N0 Gl0 hN0 hGl0 hF0
    try dsimp only at hF0 hN0 ⊢
    obtain ⟨hk, hpf⟩ := hF0
    refine .seq ?_
    refine .seq ?_
    refine Wk.rg [0, 1] rfl rfl ?_
    refine mv rfl .no (.u rfl) ?_
    refine cp rfl .no (.u rfl) (.u rfl) rfl ?_
    refine .nil ?_
    refine .code ?_
    refine .cond rfl (fun c2 => ?_) (fun c2 => ?_)
    · have c2k := c2
      try simp only [decide_eq_true_eq] at c2
      refine .skip ?_
      refine .code ?_
      refine .seq ?_
      refine .block ?_
      refine .seq ?_
      refine Wk.rg [0, 1, 2, 3] rfl rfl ?_
      refine lA rfl .no Fx.ag35 (.u rfl) (fun _ => RdN.own (.there (.there .here))) (fun _ => rfl) ?_
      refine lA rfl .no Fx.ag25 (.u rfl) (fun _ => RdN.own (.there .here)) (fun _ => rfl) ?_
      refine mv rfl .no (.u rfl) ?_
      refine kv rfl .no Fx.go21 (Eva.cons (.u rfl) (Eva.cons (.u rfl) (Eva.cons (.u rfl) Eva.nil))) (fun _ => rFull_ok s hd _ (hs.mono hGl0) o (k : Int)) ?_
      refine .nil ?_
      refine .code ?_
      refine .cond rfl (fun c3 => ?_) (fun c3 => ?_)
      · have c3k := c3
        try simp only [decide_eq_true_eq, decide_eq_false_iff_not, Int.not_lt, Int.not_le, gt_iff_lt, ge_iff_le, Bool.or_eq_true, Bool.and_eq_true, Bool.or_eq_false_iff, Bool.not_eq_true', Bool.not_eq_false', Int.toNat_natCast] at c3
        refine .seq ?_
        refine Wk.rg [0, 1, 2, 3, 4] rfl rfl ?_
        obtain ⟨hk4, hfb⟩ := ft_is c3; have hli := hs.len k (by omega); have hne := full_ne c1.2 hfb
        refine mv rfl .no (.u rfl) ?_
        refine fz rfl .no Fx.fo35_0 (.u rfl) ?_
        refine iA rfl .no Fx.ar31 (.u rfl) (.u rfl) (fun _ => by omega) (fun _ => by omega) ?_
        refine ld rfl .no Fx.ag30 (.u rfl) (fun _ => Rd.own (.there (.there .here)) (s.cell_lv hd (k := k) (by omega))) ?_
        refine asg rfl .no (.u rfl) ?_
        refine .nil ?_
        refine .code ?_
        refine .seq ?_
        refine .seq ?_
        refine Wk.rg [0, 1] rfl rfl ?_
        refine mv rfl .no (.u rfl) ?_
        refine cp rfl .no (.u rfl) (.u rfl) rfl ?_
        refine .nil ?_
        refine .code ?_
        refine .cond rfl (fun c4 => ?_) (fun c4 => ?_)
        · have c4k := c4
          try simp only [decide_eq_true_eq, gt_iff_lt] at c4
          refine .seq ?_
          refine Wk.rg [0, 1, 2, 3, 4, 5, 6] rfl rfl ?_
          have hm := tm_bd (n := (s.lv k).length) ht0 hne
          refine mv rfl .no (.u rfl) ?_
          refine mv rfl .no (.u rfl) ?_
          refine ln rfl .no Fx.sn30 (.u rfl) ?_
          refine cw rfl .no Fx.cv3_32 (.u rfl) (fun _ => wrap_u64 (by omega) (by omega)) ?_
          refine rm rfl .no (.u rfl) (.u rfl) (fun _ => by omega) ?_
          refine cw rfl .no Fx.cv32_3 (.u rfl) (fun _ => wrap_i64 (by omega) (by omega)) ?_
          refine asg rfl .no (.u rfl) ?_
          refine .nil ?_
          refine .code ?_
          refine Wk.rg [0, 1, 2, 3, 4, 5] rfl rfl ?_
          refine mv rfl .no (.u rfl) ?_
          refine mv rfl .no (.u rfl) ?_
          refine mv rfl .no (.u rfl) ?_
          refine ar rfl .no (.u rfl) (.u rfl) rfl (fun _ => wrap_i64 (by omega) (by omega)) ?_
          refine scn (q := 1) rfl .no Fx.se30 (.u rfl) (.u rfl) (.u rfl) (fun _ => by omega) (fun _ => by omega) (fun _ => by have := (hs.lv k (by omega)).le; omega) (fun _ => by omega) ?_
          refine asg rfl .no (.u rfl) ?_
          refine .nil ?_
          refine .code ?_
          refine .seq ?_
          refine Wk.rg [0, 1, 2, 3, 4, 5] rfl rfl ?_
          refine lA rfl .no Fx.ag35 (.u rfl) (fun _ => RdN.own (.there (.there .here))) (fun _ => rfl) ?_
          refine mv rfl .no (.u rfl) ?_
          refine mv rfl .no (.u rfl) ?_
          refine kc rfl Fx.go33 (Eva.cons (.u rfl) (Eva.cons (.u rfl) (Eva.cons (.u rfl) (Eva.cons (.u rfl) Eva.nil)))) (rdown_ok s hd _ (hs.mono hGl0) 1 (k : Int) _ [(s.lv k).getD (turn.tmod ((s.lv k).length : Int)).toNat Meta.zero] (((hs.mono hGl0).lv k (by omega)).cut (at_some (by omega))) (by simp) (by simp) (by omega) (by omega)) ?_
          rintro v1 G1 μ1 hG1 ⟨rfl, j1, j2, rfl, hJ⟩
          simp only [lay, List.nil_append]
          refine sw rfl (.u rfl) (.u rfl) rfl Fx.sz39 .here rfl (Job.one _ _ _) ?_
          refine asg rfl .no (.u rfl) ?_
          refine .nil ?_
          refine .code ?_
          refine .ret ?_
          refine We.fin0 Try.results15 (.cell rfl (fun w hw => run_loadVarN Fx.ag39 (RdN.own .here) rfl hw) (.tmp rfl .nil)) ?_
          exact ⟨rfl, pick_fin ((pick_full ⟨c1.2, c1.1⟩ hpf (by omega) hfb).trans (by rw [lowOf_pos (by omega)])) hJ⟩
        · have c4k := c4
          try simp only [decide_eq_false_iff_not, Int.not_lt, gt_iff_lt] at c4
          refine .skip ?_
          refine .code ?_
          refine .seq ?_
          refine Wk.rg [0, 1, 2, 3, 4, 5] rfl rfl ?_
          refine lA rfl .no Fx.ag35 (.u rfl) (fun _ => RdN.own (.there (.there .here))) (fun _ => rfl) ?_
          refine mv rfl .no (.u rfl) ?_
          refine mv rfl .no (.u rfl) ?_
          refine kc rfl Fx.go33 (Eva.cons (.u rfl) (Eva.cons (.u rfl) (Eva.cons (.u rfl) (Eva.cons (.u rfl) Eva.nil)))) (rdown_ok s hd _ (hs.mono hGl0) 1 (k : Int) _ (s.lv k) ((hs.mono hGl0).lv k (by omega)) hli hne (by omega) (by omega)) ?_
          rintro v1 G1 μ1 hG1 ⟨rfl, j1, j2, rfl, hJ⟩
          simp only [lay, List.nil_append]
          refine sw rfl (.u rfl) (.u rfl) rfl Fx.sz39 .here rfl (Job.one _ _ _) ?_
          refine asg rfl .no (.u rfl) ?_
          refine .nil ?_
          refine .code ?_
          refine .ret ?_
          refine We.fin0 Try.results15 (.cell rfl (fun w hw => run_loadVarN Fx.ag39 (RdN.own .here) rfl hw) (.tmp rfl .nil)) ?_
          exact ⟨rfl, pick_fin ((pick_full ⟨c1.2, c1.1⟩ hpf (by omega) hfb).trans (by rw [lowOf_zero (by omega)])) hJ⟩
      · have c3k := c3
        try simp only [decide_eq_true_eq, decide_eq_false_iff_not, Int.not_lt, Int.not_le, gt_iff_lt, ge_iff_le, Bool.or_eq_true, Bool.and_eq_true, Bool.or_eq_false_iff, Bool.not_eq_true', Bool.not_eq_false', Int.toNat_natCast] at c3
        refine .skip ?_
        refine .blk ?_
        refine .code ?_
        refine Wk.rg [0, 1, 2] rfl rfl ?_
        refine mv rfl .no (.u rfl) ?_
        refine ar rfl .no (.u rfl) (.u rfl) rfl (fun _ => wrap_i64 (by omega) (by omega)) ?_
        refine asg rfl .no (.u rfl) ?_
        refine .nil ?_
        refine We.lpo (k + 1) ?_ ?_ ?_ ?_ ?_
        · exact (ESub.cons rfl rfl (ESub.cons rfl rfl (ESub.cons rfl rfl (ESub.cons rfl rfl (ESub.cons rfl rfl ESub.nil)))))
        · exact (MSub.cons .here rfl (MSub.cons .here rfl (MSub.cons .here rfl MSub.nil)))
        · first | omega | (dsimp only; omega)
        · exact hGl0
        · exact ⟨by omega, pickF_step hpf (ft_isnt c1 c3)⟩
    · have c2k := c2
      try simp only [decide_eq_false_iff_not, Int.not_lt] at c2
      refine .exit ?_
      refine .xcode ?_
      refine .xlp ?_
      refine .xblk ?_
      refine .code ?_
      refine .seq ?_
      refine .seq ?_
      refine Wk.rg [0] rfl rfl ?_
      refine asg rfl .no (.u rfl) ?_
      refine .nil ?_
      refine .code ?_
      refine .block ?_
      refine Wk.lop (α := Nat) (fun j => [(11, true, .int .i64 (j : Int))]) (fun _ => [])
        (fun j Gl => j ≤ 5 ∧ pickO s 5 0 = pickO s (5 - j) j) (fun j => 5 - j) 0 [(3, true, _), (6, true, _)] [.blk b6 _, .blk b4 _, .blk b3 _]
        (ESub.cons rfl rfl (ESub.cons rfl rfl (ESub.cons rfl rfl ESub.nil)))
        (MSub.cons .here rfl (MSub.cons .here rfl (MSub.cons .here rfl MSub.nil))) ?_ ?_
      · exact ⟨by omega, rfl⟩
      intro j N1 Gl1 hN1 hGl1 hF1
      try dsimp only at hF1 hN1 ⊢
      obtain ⟨hj, hpo⟩ := hF1
      refine .seq ?_
      refine .seq ?_
      refine Wk.rg [0, 1] rfl rfl ?_
      refine mv rfl .no (.u rfl) ?_
      refine cp rfl .no (.u rfl) (.u rfl) rfl ?_
      refine .nil ?_
      refine .code ?_
      refine .cond rfl (fun c5 => ?_) (fun c5 => ?_)
      · have c5k := c5
        try simp only [decide_eq_true_eq] at c5
        refine .skip ?_
        refine .code ?_
        refine .seq ?_
        refine .block ?_
        refine .seq ?_
        refine .seq ?_
        refine Wk.rg [0, 1, 2, 3, 4, 5, 6] rfl rfl ?_
        refine lA rfl .no Fx.ag35 (.u rfl) (fun _ => RdN.own (.there (.there .here))) (fun _ => rfl) ?_
        refine mv rfl .no (.u rfl) ?_
        refine kv rfl .no Fx.go23 (Eva.cons (.u rfl) (Eva.cons (.u rfl) Eva.nil)) (fun _ => rOld_ok s hd _ ((hs.mono hGl0).mono hGl1) (j : Int)) ?_
        refine mv rfl .no (.u rfl) ?_
        refine mv rfl (.t rfl rfl) (.u rfl) ?_
        refine cp rfl (.t rfl rfl) (.s rfl) (.u rfl) rfl ?_
        refine pkA rfl .no (.u rfl) (.s rfl) ?_
        refine .nil ?_
        refine .code ?_
        refine .cond rfl (fun c6 => ?_) (fun c6 => ?_)
        · have c6k := c6
          try simp only [Bool.and_eq_true] at c6
          refine .seq ?_
          refine Wk.rg [0, 1, 2, 3, 4, 5, 6] rfl rfl ?_
          have hoi := ot_is c6.1
          obtain rfl : j = 0 := by simpa using c6.2
          have hid := oldI_bd (s := s) (j := 0) (by omega)
          refine lA rfl .no Fx.ag35 (.u rfl) (fun _ => RdN.own (.there (.there .here))) (fun _ => rfl) ?_
          refine fz rfl .no Fx.fo35_0 (.u rfl) ?_
          refine iA rfl .no Fx.ar31 (.u rfl) (.u rfl) (fun _ => by decide) (fun _ => by decide) ?_
          refine ld rfl .no Fx.ag30 (.u rfl) (fun _ => Rd.own (.there (.there .here)) rfl) ?_
          refine kc rfl Fx.go33 (Eva.cons (.u rfl) (Eva.cons (.u rfl) (Eva.cons (.u rfl) (Eva.cons (.u rfl) Eva.nil)))) (rdown_ok s hd _ ((hs.mono hGl0).mono hGl1) 2 0 _ (s.lv 0) (((hs.mono hGl0).mono hGl1).lv 0 (by omega)) (hs.len 0 (by omega)) (by omega) (by omega) (by omega)) ?_
          rintro v1 G1 μ1 hG1 ⟨rfl, j1, j2, rfl, hJ⟩
          simp only [lay, List.nil_append]
          refine sw rfl (.u rfl) (.u rfl) rfl Fx.sz39 .here rfl (Job.one _ _ _) ?_
          refine asg rfl .no (.u rfl) ?_
          refine .nil ?_
          refine .code ?_
          refine .ret ?_
          refine We.fin0 Try.results15 (.cell rfl (fun w hw => run_loadVarN Fx.ag39 (RdN.own .here) rfl hw) (.tmp rfl .nil)) ?_
          exact ⟨rfl, pick_fin ((pick_old ⟨c1.2, c1.1⟩ hpf (by omega) hpo (by omega) (by omega)).trans (by rw [oldJ_zero (by omega)])) hJ⟩
        · have c6k := c6
          try simp only [decide_eq_true_eq, decide_eq_false_iff_not, Int.not_lt, Int.not_le, gt_iff_lt, ge_iff_le, Bool.or_eq_true, Bool.and_eq_true, Bool.or_eq_false_iff, Bool.not_eq_true', Bool.not_eq_false', Int.toNat_natCast] at c6
          refine .skip ?_
          refine .code ?_
          refine .seq ?_
          refine Wk.rg [0, 1, 2] rfl rfl ?_
          refine lA rfl .no Fx.ag35 (.u rfl) (fun _ => RdN.own (.there (.there .here))) (fun _ => rfl) ?_
          refine mv rfl .no (.u rfl) ?_
          refine kv rfl .no Fx.go23 (Eva.cons (.u rfl) (Eva.cons (.u rfl) Eva.nil)) (fun _ => rOld_ok s hd _ ((hs.mono hGl0).mono hGl1) (j : Int)) ?_
          refine .nil ?_
          refine .code ?_
          refine .cond rfl (fun c7 => ?_) (fun c7 => ?_)
          · have c7k := c7
            try simp only [decide_eq_true_eq, decide_eq_false_iff_not, Int.not_lt, Int.not_le, gt_iff_lt, ge_iff_le, Bool.or_eq_true, Bool.and_eq_true, Bool.or_eq_false_iff, Bool.not_eq_true', Bool.not_eq_false', Int.toNat_natCast] at c7
            refine .seq ?_
            refine Wk.rg [0] rfl rfl ?_
            have hoi := ot_is c7; have hli := hs.len j (by omega)
            refine asg rfl .no (.u rfl) ?_
            refine .nil ?_
            refine .code ?_
            refine .seq ?_
            refine .block ?_
            refine Wk.lop (α := Nat) (fun q => [(12, true, .int .i64 (q : Int))]) (fun _ => [])
              (fun q Gl => q ≤ (s.lv j).length ∧ ∀ i, i < q → isOld s (j : Int) ((s.lv j).getD i Meta.zero) = false) (fun q => (s.lv j).length - q) 0 [(3, true, _), (6, true, _), (11, true, _)] [.blk b6 _, .blk b4 _, .blk b3 _]
              (ESub.cons rfl rfl (ESub.cons rfl rfl (ESub.cons rfl rfl (ESub.cons rfl rfl ESub.nil))))
              (MSub.cons .here rfl (MSub.cons .here rfl (MSub.cons .here rfl MSub.nil))) ?_ ?_
            · exact ⟨by omega, fun i hi => by omega⟩
            intro q N2 Gl2 hN2 hGl2 hF2
            try dsimp only at hF2 hN2 ⊢
            obtain ⟨hq, hqn⟩ := hF2; have hql := old_lt hoi hq hqn
            refine .seq ?_
            refine .seq ?_
            refine Wk.draw (mc := false) [0, 1, 2, 3, 4, 5, 6, 7, 8, 9, 10, 11, 12] Fx.mix (by kernel_rfl) ?_
            refine mv rfl .no (.u rfl) ?_
            refine fz rfl .no Fx.fo35_0 (.u rfl) ?_
            refine iA rfl .no Fx.ar31 (.u rfl) (.u rfl) (fun _ => by omega) (fun _ => by omega) ?_
            refine ld rfl .no Fx.ag30 (.u rfl) (fun _ => Rd.own (.there (.there .here)) (s.cell_lv hd (k := j) (by omega))) ?_
            refine mv rfl .no (.u rfl) ?_
            refine ih rfl .no Fx.se30 (.u rfl) (.u rfl) (fun _ => by omega) (fun _ => by omega) (fun _ => (hs.lv j (by omega)).nn hql) ?_
            refine fa rfl .no Fx.fo49_1 (.u rfl) ?_
            refine ld rfl .no Fx.ag32 (.u rfl) (fun _ => (((((hs.mono hGl0).mono hGl1).mono hGl2).lv j (by omega)).gat q (by omega) hql 1 _ rfl).rd) ?_
            refine mv rfl .no (.u rfl) ?_
            refine fz rfl .no Fx.fo35_5 (.u rfl) ?_
            refine iA rfl .no Fx.ar33 (.u rfl) (.u rfl) (fun _ => by omega) (fun _ => by omega) ?_
            refine ld rfl .no Fx.ag32 (.u rfl) (fun _ => Rd.own (.there (.there .here)) (s.cell_gen hd (k := j) (by omega))) ?_
            refine cp rfl .no (.u rfl) (.u rfl) rfl ?_
            refine .nil ?_
            refine .code ?_
            refine .cond rfl (fun c8 => ?_) (fun c8 => ?_)
            · have c8k := c8
              try simp only [decide_eq_true_eq, decide_eq_false_iff_not, Int.not_lt, Int.not_le, gt_iff_lt, ge_iff_le, Bool.or_eq_true, Bool.and_eq_true, Bool.or_eq_false_iff, Bool.not_eq_true', Bool.not_eq_false', Int.toNat_natCast] at c8
              refine .skip ?_
              refine .code ?_
              refine .block ?_
              refine Wk.rg [0, 1, 2] rfl rfl ?_
              refine mv rfl .no (.u rfl) ?_
              refine ar rfl .no (.u rfl) (.u rfl) rfl (fun _ => wrap_i64 (by omega) (by omega)) ?_
              refine asg rfl .no (.u rfl) ?_
              refine .nil ?_
              refine .blk ?_
              refine We.lpo (q + 1) ?_ ?_ ?_ ?_ ?_
              · exact (ESub.cons rfl rfl (ESub.cons rfl rfl (ESub.cons rfl rfl (ESub.cons rfl rfl ESub.nil))))
              · exact (MSub.cons .here rfl (MSub.cons .here rfl (MSub.cons .here rfl MSub.nil)))
              · first | omega | (dsimp only; omega)
              · exact hGl2
              · exact ⟨by omega, idx_step hqn (isOld_eq c8)⟩
            · have c8k := c8
              try simp only [decide_eq_true_eq, decide_eq_false_iff_not, Int.not_lt, Int.not_le, gt_iff_lt, ge_iff_le, Bool.or_eq_true, Bool.and_eq_true, Bool.or_eq_false_iff, Bool.not_eq_true', Bool.not_eq_false', Int.toNat_natCast] at c8
              refine .exit ?_
              refine .xcode ?_
              refine .xlp ?_
              refine .xblk ?_
              refine .code ?_
              refine .seq ?_
              refine Wk.rg [0, 1, 2, 3, 4, 5, 6, 7, 8, 9, 10, 11, 12, 13] rfl rfl ?_
              have hat := old_at hql hqn (isOld_ne c8 (gen_le c1.1 (by omega) hql))
              refine mv rfl .no (.u rfl) ?_
              refine mv rfl .no (.u rfl) ?_
              refine mv rfl .no (.u rfl) ?_
              refine fz rfl .no Fx.fo35_0 (.u rfl) ?_
              refine iA rfl .no Fx.ar31 (.u rfl) (.u rfl) (fun _ => by omega) (fun _ => by omega) ?_
              refine ld rfl .no Fx.ag30 (.u rfl) (fun _ => Rd.own (.there (.there .here)) (s.cell_lv hd (k := j) (by omega))) ?_
              refine mv rfl .no (.u rfl) ?_
              refine mv rfl .no (.u rfl) ?_
              refine ar rfl .no (.u rfl) (.u rfl) rfl (fun _ => wrap_i64 (by omega) (by omega)) ?_
              refine scn (q := 1) rfl .no Fx.se30 (.u rfl) (.u rfl) (.u rfl) (fun _ => by omega) (fun _ => by omega) (fun _ => by have := (hs.lv j (by omega)).le; omega) (fun _ => by omega) ?_
              refine kc rfl Fx.go34 (Eva.cons (.u rfl) Eva.nil) (rnumbers_ok _ [(s.lv j).getD (q : Int).toNat Meta.zero] _ (((((hs.mono hGl0).mono hGl1).mono hGl2).lv j (by omega)).cut (at_some hql)) (by simp)) ?_
              rintro v1 G1 μ1 hG1 ⟨rfl, hn1, rfl, hs1⟩
              simp only [lay, List.nil_append]
              refine bC rfl .no Fx.bp39_0_1_2_3 (.cons (.u rfl) rfl (.cons (.u rfl) rfl (.cons (.u rfl) rfl (.cons (.u rfl) rfl .nil)))) rfl ?_
              refine sw rfl (.u rfl) (.u rfl) rfl Fx.sz39 .here rfl (by simp [Value.oneCell', Sh.val, bFold, put]) ?_
              refine asg rfl .no (.u rfl) ?_
              refine .nil ?_
              refine .code ?_
              refine .ret ?_
              refine We.fin0 Try.results15 (.cell rfl (fun w hw => run_loadVarN Fx.ag39 (RdN.own .here) rfl hw) (.tmp rfl .nil)) ?_
              exact ⟨rfl, pick_fin ((pick_old ⟨c1.2, c1.1⟩ hpf (by omega) hpo (by omega) hoi).trans (by rw [oldJ_pos (by intro h0; subst h0; simp_all), hat])) ⟨hs1, SlR.nul, by simp [nums], by simp⟩⟩
          · have c7k := c7
            try simp only [decide_eq_true_eq, decide_eq_false_iff_not, Int.not_lt, Int.not_le, gt_iff_lt, ge_iff_le, Bool.or_eq_true, Bool.and_eq_true, Bool.or_eq_false_iff, Bool.not_eq_true', Bool.not_eq_false', Int.toNat_natCast] at c7
            refine .skip ?_
            refine .blk ?_
            refine .code ?_
            refine Wk.rg [0, 1, 2] rfl rfl ?_
            refine mv rfl .no (.u rfl) ?_
            refine ar rfl .no (.u rfl) (.u rfl) rfl (fun _ => wrap_i64 (by omega) (by omega)) ?_
            refine asg rfl .no (.u rfl) ?_
            refine .nil ?_
            refine We.lpo (j + 1) ?_ ?_ ?_ ?_ ?_
            · exact (ESub.cons rfl rfl (ESub.cons rfl rfl (ESub.cons rfl rfl ESub.nil)))
            · exact (MSub.cons .here rfl (MSub.cons .here rfl (MSub.cons .here rfl MSub.nil)))
            · first | omega | (dsimp only; omega)
            · exact hGl1
            · exact ⟨by omega, pickO_step hpo (by omega) (ot_isnt (by omega) c7)⟩
      · have c5k := c5
        try simp only [decide_eq_false_iff_not, Int.not_lt] at c5
        refine .exit ?_
        refine .xcode ?_
        refine .xlp ?_
        refine .xblk ?_
        refine .code ?_
        refine .seq ?_
        refine Wk.rg [0, 1, 2] rfl rfl ?_
        refine bC rfl .no Fx.bp39_ .nil rfl ?_
        refine sw rfl (.u rfl) (.u rfl) rfl Fx.sz39 .here rfl (by simp [Value.oneCell', bFold]) ?_
        refine asg rfl .no (.u rfl) ?_
        refine .nil ?_
        refine .code ?_
        refine .ret ?_
        refine We.fin0 Try.results15 (.cell rfl (fun w hw => run_loadVarN Fx.ag39 (RdN.own .here) rfl hw) (.tmp rfl .nil)) ?_
        exact ⟨rfl, pick_fin (pick_none hpf (by omega) hpo (by omega)) JobR.zero⟩

end Go.Proofs.Ytnhipfnbnilleaa
