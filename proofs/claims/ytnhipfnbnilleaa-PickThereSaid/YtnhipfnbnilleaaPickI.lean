/- Contracts of functions, walked. -/
import Derived.Test.YtnhipfnbnilleaaPickH
namespace Go.Proofs.Ytnhipfnbnilleaa
open Go.Tan Go.RowKit

theorem PickRests_ok (s : State) (hd : Nat → Sh) (G : PM) (hs : StR G s hd) (o : Opts) (turn : Int) (ht0 : 0 ≤ turn) (ht1 : turn < 18446744073709551616) : Ct Try.prog 7 ([s.val hd, o.val, .int .u64 turn] : List Value).toArray G [] (fun _ μ' u => μ' = [] ∧ u = .bool true) := by
  refine Ct.of Try.func7 rfl Try.ntmps7 rfl fun w0 hs0 => ?_
  refine .seq ?_
  refine Wk.rg [0, 1, 2] rfl rfl ?_
  refine bx rfl (.u rfl) rfl ?_; intro b3
  refine bx rfl (.u rfl) rfl ?_; intro b4
  refine asg rfl .no (.u rfl) ?_
  refine .nil ?_
  refine .code ?_
  refine .seq ?_
  refine Wk.rg [0, 1] rfl rfl ?_
  refine kv rfl .no Fx.go8 Eva.nil (fun _ => shown_ok _) ?_
  refine asg rfl .no (.u rfl) ?_
  refine .nil ?_
  refine .code ?_
  refine .seq ?_
  refine .seq ?_
  refine Wk.rg [0, 1, 2] rfl rfl ?_
  refine lA rfl .no Fx.ag35 (.u rfl) (fun _ => RdN.own (.there .here)) (fun _ => rfl) ?_
  refine kv rfl .no Fx.go13 (Eva.cons (.u rfl) Eva.nil) (fun _ => light_ok _ _ _ (by assumption)) ?_
  refine nt rfl .no (.u rfl) ?_
  refine .nil ?_
  refine .code ?_
  refine .cond rfl (fun c1 => ?_) (fun c1 => ?_)
  · have c1k := c1
    try simp only [decide_eq_false_iff_not, Int.not_le, Bool.not_eq_true'] at c1
    refine .seq ?_
    refine Wk.rg [0, 1] rfl rfl ?_
    refine mv rfl .no (.u rfl) ?_
    refine asg rfl .no (.u rfl) ?_
    refine .nil ?_
    refine .code ?_
    refine .ret ?_
    refine We.fin0 Try.results7 (.tmp rfl .nil) ?_
    exact ⟨rfl, rfl⟩
  · have c1k := c1
    try simp only [decide_eq_true_eq, Bool.not_eq_false'] at c1
    refine .skip ?_
    refine .code ?_
    refine .seq ?_
    refine Wk.rg [0, 1, 2, 3, 4, 5, 6, 7, 8, 9] rfl rfl ?_
    refine lA rfl .no Fx.ag35 (.u rfl) (fun _ => RdN.own (.there .here)) (fun _ => rfl) ?_
    refine lA rfl .no Fx.ag25 (.u rfl) (fun _ => RdN.own .here) (fun _ => rfl) ?_
    refine mv rfl .no (.u rfl) ?_
    refine kc rfl Fx.go14 (Eva.cons (.u rfl) (Eva.cons (.u rfl) (Eva.cons (.u rfl) Eva.nil))) (Pick_ok s hd _ hs o turn ht0 ht1) ?_
    rintro v1 G1 μ1 hG1 ⟨rfl, j1, j2, rfl, hJ1⟩
    simp only [lay, List.nil_append]
    have hs1 := hs.mono hG1
    refine mv rfl .no (.u rfl) ?_
    refine ex rfl .no (.u rfl) rfl ?_
    refine ex rfl .no (.u rfl) rfl ?_
    refine al rfl Fx.zr39 ?_; intro b8
    refine sw rfl (.u rfl) (.u rfl) rfl Fx.sz39 .here rfl (Job.one _ _ _) ?_
    refine asg rfl .no (.u rfl) ?_
    refine .nil ?_
    refine .code ?_
    refine .seq ?_
    refine .seq ?_
    refine Wk.rg [0, 1, 2, 3, 4, 5, 6, 7] rfl rfl ?_
    refine lA rfl .no Fx.ag35 (.u rfl) (fun _ => RdN.own (.there (.there .here))) (fun _ => rfl) ?_
    refine kv rfl .no Fx.go24 (Eva.cons (.u rfl) Eva.nil) (fun _ => vRight_ok _ _ _ (by assumption)) ?_
    refine nt rfl .no (.u rfl) ?_
    refine mv rfl .no (.u rfl) ?_
    refine lA rfl (.f rfl rfl) Fx.ag25 (.u rfl) (fun _ => RdN.own (.there .here)) (fun _ => rfl) ?_
    refine kv rfl (.f rfl rfl) Fx.go9 (Eva.cons (.s rfl) Eva.nil) (fun hc => right_ok _ _) ?_
    refine nt rfl (.f rfl rfl) (.s rfl) ?_
    refine pkO rfl .no (.u rfl) (.s rfl) ?_
    refine .nil ?_
    refine .code ?_
    refine .cond rfl (fun c2 => ?_) (fun c2 => ?_)
    · have c2k := c2
      try simp only [Bool.or_eq_true, Bool.not_eq_true'] at c2
      refine .seq ?_
      refine Wk.rg [0, 1, 2, 3, 4, 5] rfl rfl ?_
      refine mv rfl .no (.u rfl) ?_
      refine mv rfl .no (.u rfl) ?_
      refine mv rfl (.t rfl rfl) (.u rfl) ?_
      refine nt rfl (.t rfl rfl) (.s rfl) ?_
      refine pkA rfl .no (.u rfl) (.s rfl) ?_
      refine asg rfl .no (.u rfl) ?_
      refine .nil ?_
      refine .code ?_
      refine .ret ?_
      refine We.fin0 Try.results7 (.tmp rfl .nil) ?_
      exact ⟨rfl, by rw [pick_no c2.symm]; rfl⟩
    · have c2k := c2
      try simp only [Bool.or_eq_false_iff, Bool.not_eq_false'] at c2
      refine .skip ?_
      refine .code ?_
      refine .seq ?_
      refine Wk.rg [0] rfl rfl ?_
      refine asg rfl .no (.u rfl) ?_
      refine .nil ?_
      refine .code ?_
      refine .seq ?_
      refine .seq ?_
      refine Wk.rg [0] rfl rfl ?_
      refine mv rfl .no (.u rfl) ?_
      refine .nil ?_
      refine .code ?_
      refine .block ?_
      refine Wk.lop (α := Nat) (fun k => [(10, true, .bool (busy s o k)), (37, true, .int .i64 (k : Int))]) (fun _ => [])
        (fun k Gl => k ≤ 5) (fun k => 5 - k) 0 [(3, true, _), (4, true, _), (7, true, _), (9, true, _)] [.blk b8 _, .blk b4 _, .blk b3 _]
        (ESub.cons rfl rfl (ESub.cons rfl rfl (ESub.cons rfl rfl (ESub.cons rfl rfl (ESub.cons rfl rfl (ESub.cons rfl rfl ESub.nil))))))
        (MSub.cons .here rfl (MSub.cons .here rfl (MSub.cons .here rfl MSub.nil))) ?_ ?_
      · show 0 ≤ 5; omega
      intro k N0 Gl0 hN0 hGl0 hF0
      try dsimp only at hF0 hN0 ⊢
      have hk : k ≤ 5 := hF0; have hs2 := hs1.mono hGl0
      refine .seq ?_
      refine Wk.rg [0] rfl rfl ?_
      refine cp rfl .no (.u rfl) (.u rfl) rfl ?_
      refine .nil ?_
      refine .code ?_
      refine .seq ?_
      refine .cond rfl (fun c3 => ?_) (fun c3 => ?_)
      · have c3k := c3
        try simp only [decide_eq_true_eq] at c3
        refine .skip ?_
        refine .code ?_
        refine .seq ?_
        refine .block ?_
        refine .seq ?_
        refine Wk.rg [0, 1] rfl rfl ?_
        refine mv rfl .no (.u rfl) ?_
        refine asg rfl .no (.u rfl) ?_
        refine .nil ?_
        refine .code ?_
        refine Wk.rg [0, 1, 2, 3, 4, 5, 6, 7, 8, 9, 10, 11, 12] rfl rfl ?_
        refine mv rfl .no (.u rfl) ?_
        refine mv rfl .no (.u rfl) ?_
        refine lA rfl (.f rfl rfl) Fx.ag35 (.u rfl) (fun _ => RdN.own (.there (.there .here))) (fun _ => rfl) ?_
        refine lA rfl (.f rfl rfl) Fx.ag25 (.u rfl) (fun _ => RdN.own (.there .here)) (fun _ => rfl) ?_
        refine mv rfl (.f rfl rfl) (.u rfl) ?_
        refine kv rfl (.f rfl rfl) Fx.go20 (Eva.cons (.s rfl) (Eva.cons (.s rfl) (Eva.cons (.s rfl) Eva.nil))) (fun hc => Full_ok _ _ _ (by assumption) _ _) ?_
        refine pkO rfl .no (.u rfl) (.s rfl) ?_
        refine mv rfl .no (.u rfl) ?_
        refine lA rfl (.f rfl rfl) Fx.ag35 (.u rfl) (fun _ => RdN.own (.there (.there .here))) (fun _ => rfl) ?_
        refine mv rfl (.f rfl rfl) (.u rfl) ?_
        refine kv rfl (.f rfl rfl) Fx.go22 (Eva.cons (.s rfl) (Eva.cons (.s rfl) Eva.nil)) (fun hc => Old_ok _ _ _ (by assumption) _) ?_
        refine pkO rfl .no (.u rfl) (.s rfl) ?_
        refine asg rfl .no (.u rfl) ?_
        refine .nil ?_
        refine .blk ?_
        refine .code ?_
        refine Wk.rg [0, 1] rfl rfl ?_
        refine ar rfl .no (.u rfl) (.u rfl) rfl (fun _ => wrap_i64 (by omega) (by omega)) ?_
        refine mv rfl .no (.u rfl) ?_
        refine .nil ?_
        refine We.lpo (k + 1) ?_ ?_ ?_ ?_ ?_
        · exact (ESub.cons rfl rfl (ESub.cons rfl rfl (ESub.cons rfl rfl (ESub.cons rfl rfl (ESub.cons rfl rfl (ESub.cons rfl rfl ESub.nil))))))
        · exact (MSub.cons .here rfl (MSub.cons .here rfl (MSub.cons .here rfl MSub.nil)))
        · first | omega | (dsimp only; omega)
        · exact hGl0
        · show k + 1 ≤ 5; omega
      · have c3k := c3
        try simp only [decide_eq_false_iff_not, Int.not_lt] at c3
        refine .exit ?_
        refine .xcode ?_
        refine .xlp ?_
        refine .xblk ?_
        refine .code ?_
        refine .seq ?_
        refine Wk.rg [0, 1, 2, 3, 4, 5, 6] rfl rfl ?_
        refine mv rfl .no (.u rfl) ?_
        refine mv rfl .no (.u rfl) ?_
        refine mv rfl (.t rfl rfl) (.u rfl) ?_
        refine mv rfl (.t rfl rfl) (.u rfl) ?_
        refine eb rfl (.t rfl rfl) Fx.bt4 (.s rfl) (.s rfl) ?_
        refine pkA rfl .no (.u rfl) (.s rfl) ?_
        refine asg rfl .no (.u rfl) ?_
        refine .nil ?_
        refine .code ?_
        refine .ret ?_
        refine We.fin0 Try.results7 (.tmp rfl .nil) ?_
        exact ⟨rfl, by (obtain rfl : k = 5 := by omega); rw [pick_busy c2.1 c2.2]; simp [tup]⟩

theorem Same_ok (a b : Job) (h1 h2 h3 h4 : Sh) (G : PM) (ha : JobR G a h1 h2) (hb : JobR G b h3 h4) : Ct Try.prog 16 ([a.val h1 h2, b.val h3 h4] : List Value).toArray G [] (fun _ μ' u => μ' = [] ∧ u = .bool (sameJ a b)) := by
  refine Ct.of Try.func16 rfl Try.ntmps16 rfl fun w0 hs0 => ?_
  refine .seq ?_
  refine Wk.rg [0, 1, 2] rfl rfl ?_
  refine bx rfl (.u rfl) rfl ?_; intro b2
  refine bx rfl (.u rfl) rfl ?_; intro b3
  refine asg rfl .no (.u rfl) ?_
  refine .nil ?_
  refine .code ?_
  refine .seq ?_
  refine .seq ?_
  refine Wk.rg [0, 1, 2, 3, 4, 5, 6, 7, 8, 9, 10, 11, 12, 13, 14, 15, 16, 17, 18, 19, 20, 21, 22, 23, 24, 25, 26, 27, 28, 29, 30, 31, 32, 33, 34, 35, 36] rfl rfl ?_
  refine fz rfl .no Fx.fo39_0 (.u rfl) ?_
  refine ld rfl .no Fx.ag5 (.u rfl) (fun _ => Rd.own (.there .here) rfl) ?_
  refine fz rfl .no Fx.fo39_0 (.u rfl) ?_
  refine ld rfl .no Fx.ag5 (.u rfl) (fun _ => Rd.own .here rfl) ?_
  refine cp rfl .no (.u rfl) (.u rfl) rfl ?_
  refine mv rfl .no (.u rfl) ?_
  refine fz rfl (.f rfl rfl) Fx.fo39_1 (.u rfl) ?_
  refine ld rfl (.f rfl rfl) Fx.ag3 (.s rfl) (fun _ => Rd.own (.there .here) rfl) ?_
  refine fz rfl (.f rfl rfl) Fx.fo39_1 (.u rfl) ?_
  refine ld rfl (.f rfl rfl) Fx.ag3 (.s rfl) (fun _ => Rd.own .here rfl) ?_
  refine cp rfl (.f rfl rfl) (.s rfl) (.s rfl) rfl ?_
  refine pkO rfl .no (.u rfl) (.s rfl) ?_
  refine mv rfl .no (.u rfl) ?_
  refine fz rfl (.f rfl rfl) Fx.fo39_2 (.u rfl) ?_
  refine ld rfl (.f rfl rfl) Fx.ag3 (.s rfl) (fun _ => Rd.own (.there .here) rfl) ?_
  refine fz rfl (.f rfl rfl) Fx.fo39_2 (.u rfl) ?_
  refine ld rfl (.f rfl rfl) Fx.ag3 (.s rfl) (fun _ => Rd.own .here rfl) ?_
  refine cp rfl (.f rfl rfl) (.s rfl) (.s rfl) rfl ?_
  refine pkO rfl .no (.u rfl) (.s rfl) ?_
  refine mv rfl .no (.u rfl) ?_
  refine fz rfl (.f rfl rfl) Fx.fo39_3 (.u rfl) ?_
  refine ld rfl (.f rfl rfl) Fx.ag37 (.s rfl) (fun _ => Rd.own (.there .here) rfl) ?_
  refine ln rfl (.f rfl rfl) Fx.sn37 (.s rfl) ?_
  refine fz rfl (.f rfl rfl) Fx.fo39_3 (.u rfl) ?_
  refine ld rfl (.f rfl rfl) Fx.ag37 (.s rfl) (fun _ => Rd.own .here rfl) ?_
  refine ln rfl (.f rfl rfl) Fx.sn37 (.s rfl) ?_
  refine cp rfl (.f rfl rfl) (.s rfl) (.s rfl) rfl ?_
  refine pkO rfl .no (.u rfl) (.s rfl) ?_
  refine mv rfl .no (.u rfl) ?_
  refine fz rfl (.f rfl rfl) Fx.fo39_4 (.u rfl) ?_
  refine ld rfl (.f rfl rfl) Fx.ag37 (.s rfl) (fun _ => Rd.own (.there .here) rfl) ?_
  refine ln rfl (.f rfl rfl) Fx.sn37 (.s rfl) ?_
  refine fz rfl (.f rfl rfl) Fx.fo39_4 (.u rfl) ?_
  refine ld rfl (.f rfl rfl) Fx.ag37 (.s rfl) (fun _ => Rd.own .here rfl) ?_
  refine ln rfl (.f rfl rfl) Fx.sn37 (.s rfl) ?_
  refine cp rfl (.f rfl rfl) (.s rfl) (.s rfl) rfl ?_
  refine pkO rfl .no (.u rfl) (.s rfl) ?_
  refine .nil ?_
  refine .code ?_
  refine .cond rfl (fun c1 => ?_) (fun c1 => ?_)
  · have c1k := c1
    try simp only [Bool.or_eq_true] at c1
    refine .seq ?_
    refine Wk.rg [0] rfl rfl ?_
    refine asg rfl .no (.u rfl) ?_
    refine .nil ?_
    refine .code ?_
    refine .ret ?_
    refine We.fin0 Try.results16 (.tmp rfl .nil) ?_
    exact ⟨rfl, sm_no c1k⟩
  · have c1k := c1
    try simp only [Bool.or_eq_false_iff] at c1
    refine .skip ?_
    refine .code ?_
    refine .seq ?_
    refine .seq ?_
    refine Wk.rg [0] rfl rfl ?_
    obtain ⟨e1, e2, e3, e4, e5⟩ := sm_hd c1k; have hla := ha.lenL; have hlb := ha.lenH
    refine asg rfl .no (.u rfl) ?_
    refine .nil ?_
    refine .code ?_
    refine .block ?_
    refine Wk.lop (α := Nat) (fun k => [(5, true, .int .i64 (k : Int))]) (fun _ => [])
      (fun k Gl => k ≤ a.low.length ∧ ∀ j, j < k → a.low.getD j 0 = b.low.getD j 0) (fun k => a.low.length - k) 0 [(2, true, _), (3, true, _)] [.blk b3 _, .blk b2 _]
      (ESub.cons rfl rfl (ESub.cons rfl rfl (ESub.cons rfl rfl ESub.nil)))
      (MSub.cons .here rfl (MSub.cons .here rfl MSub.nil)) ?_ ?_
    · exact ⟨by omega, fun j hj => by omega⟩
    intro k N0 Gl0 hN0 hGl0 hF0
    try dsimp only at hF0 hN0 ⊢
    obtain ⟨hk, hkl⟩ := hF0
    refine .seq ?_
    refine .seq ?_
    refine Wk.rg [0, 1, 2, 3, 4] rfl rfl ?_
    refine mv rfl .no (.u rfl) ?_
    refine fz rfl .no Fx.fo39_3 (.u rfl) ?_
    refine ld rfl .no Fx.ag37 (.u rfl) (fun _ => Rd.own (.there .here) rfl) ?_
    refine ln rfl .no Fx.sn37 (.u rfl) ?_
    refine cp rfl .no (.u rfl) (.u rfl) rfl ?_
    refine .nil ?_
    refine .code ?_
    refine .cond rfl (fun c2 => ?_) (fun c2 => ?_)
    · have c2k := c2
      try simp only [decide_eq_true_eq] at c2
      refine .skip ?_
      refine .code ?_
      refine .seq ?_
      refine .block ?_
      refine .seq ?_
      refine Wk.draw (mc := false) [0, 1, 2, 3, 4, 5, 6, 7, 8, 9, 10] Fx.mix (by kernel_rfl) ?_
      refine fz rfl .no Fx.fo39_3 (.u rfl) ?_
      refine ld rfl .no Fx.ag37 (.u rfl) (fun _ => Rd.own (.there .here) rfl) ?_
      refine mv rfl .no (.u rfl) ?_
      refine ih rfl .no Fx.se37 (.u rfl) (.u rfl) (fun _ => by omega) (fun _ => by omega) (fun _ => ha.low.nn (k := k) (by omega)) ?_
      refine ld rfl .no Fx.ag32 (.u rfl) (fun _ => ((ha.low.mono hGl0).ua k (by omega) (by omega)).rd) ?_
      refine fz rfl .no Fx.fo39_3 (.u rfl) ?_
      refine ld rfl .no Fx.ag37 (.u rfl) (fun _ => Rd.own .here rfl) ?_
      refine mv rfl .no (.u rfl) ?_
      refine ih rfl .no Fx.se37 (.u rfl) (.u rfl) (fun _ => by omega) (fun _ => by omega) (fun _ => hb.low.nn (k := k) (by omega)) ?_
      refine ld rfl .no Fx.ag32 (.u rfl) (fun _ => ((hb.low.mono hGl0).ua k (by omega) (by omega)).rd) ?_
      refine cp rfl .no (.u rfl) (.u rfl) rfl ?_
      refine .nil ?_
      refine .code ?_
      refine .cond rfl (fun c3 => ?_) (fun c3 => ?_)
      · have c3k := c3
        try simp only [decide_eq_true_eq, decide_eq_false_iff_not, Int.not_lt, Int.not_le, gt_iff_lt, ge_iff_le, Bool.or_eq_true, Bool.and_eq_true, Bool.or_eq_false_iff, Bool.not_eq_true', Bool.not_eq_false', Int.toNat_natCast] at c3
        refine .seq ?_
        refine Wk.rg [0] rfl rfl ?_
        refine asg rfl .no (.u rfl) ?_
        refine .nil ?_
        refine .code ?_
        refine .ret ?_
        refine We.fin0 Try.results16 (.tmp rfl .nil) ?_
        exact ⟨rfl, sm_low c3k⟩
      · have c3k := c3
        try simp only [decide_eq_true_eq, decide_eq_false_iff_not, Int.not_lt, Int.not_le, gt_iff_lt, ge_iff_le, Bool.or_eq_true, Bool.and_eq_true, Bool.or_eq_false_iff, Bool.not_eq_true', Bool.not_eq_false', Int.toNat_natCast] at c3
        refine .skip ?_
        refine .blk ?_
        refine .code ?_
        refine Wk.rg [0, 1, 2] rfl rfl ?_
        refine mv rfl .no (.u rfl) ?_
        refine ar rfl .no (.u rfl) (.u rfl) rfl (fun _ => wrap_i64 (by omega) (by omega)) ?_
        refine asg rfl .no (.u rfl) ?_
        refine .nil ?_
        refine We.lpo (k + 1) ?_ ?_ ?_ ?_ ?_
        · exact (ESub.cons rfl rfl (ESub.cons rfl rfl (ESub.cons rfl rfl ESub.nil)))
        · exact (MSub.cons .here rfl (MSub.cons .here rfl MSub.nil))
        · first | omega | (dsimp only; omega)
        · exact hGl0
        · exact ⟨by omega, sm_step hkl c3k⟩
    · have c2k := c2
      try simp only [decide_eq_false_iff_not, Int.not_lt] at c2
      refine .exit ?_
      refine .xcode ?_
      refine .xlp ?_
      refine .xblk ?_
      refine .code ?_
      refine .seq ?_
      refine .seq ?_
      refine Wk.rg [0] rfl rfl ?_
      refine asg rfl .no (.u rfl) ?_
      refine .nil ?_
      refine .code ?_
      refine .block ?_
      refine Wk.lop (α := Nat) (fun j => [(6, true, .int .i64 (j : Int))]) (fun _ => [])
        (fun j Gl => j ≤ a.high.length ∧ ∀ i, i < j → a.high.getD i 0 = b.high.getD i 0) (fun j => a.high.length - j) 0 [(2, true, _), (3, true, _)] [.blk b3 _, .blk b2 _]
        (ESub.cons rfl rfl (ESub.cons rfl rfl (ESub.cons rfl rfl ESub.nil)))
        (MSub.cons .here rfl (MSub.cons .here rfl MSub.nil)) ?_ ?_
      · exact ⟨by omega, fun j hj => by omega⟩
      intro j N1 Gl1 hN1 hGl1 hF1
      try dsimp only at hF1 hN1 ⊢
      obtain ⟨hj, hjl⟩ := hF1
      refine .seq ?_
      refine .seq ?_
      refine Wk.rg [0, 1, 2, 3, 4] rfl rfl ?_
      refine mv rfl .no (.u rfl) ?_
      refine fz rfl .no Fx.fo39_4 (.u rfl) ?_
      refine ld rfl .no Fx.ag37 (.u rfl) (fun _ => Rd.own (.there .here) rfl) ?_
      refine ln rfl .no Fx.sn37 (.u rfl) ?_
      refine cp rfl .no (.u rfl) (.u rfl) rfl ?_
      refine .nil ?_
      refine .code ?_
      refine .cond rfl (fun c4 => ?_) (fun c4 => ?_)
      · have c4k := c4
        try simp only [decide_eq_true_eq] at c4
        refine .skip ?_
        refine .code ?_
        refine .seq ?_
        refine .block ?_
        refine .seq ?_
        refine Wk.draw (mc := false) [0, 1, 2, 3, 4, 5, 6, 7, 8, 9, 10] Fx.mix (by kernel_rfl) ?_
        refine fz rfl .no Fx.fo39_4 (.u rfl) ?_
        refine ld rfl .no Fx.ag37 (.u rfl) (fun _ => Rd.own (.there .here) rfl) ?_
        refine mv rfl .no (.u rfl) ?_
        refine ih rfl .no Fx.se37 (.u rfl) (.u rfl) (fun _ => by omega) (fun _ => by omega) (fun _ => ha.high.nn (k := j) (by omega)) ?_
        refine ld rfl .no Fx.ag32 (.u rfl) (fun _ => (((ha.high.mono hGl0).mono hGl1).ua j (by omega) (by omega)).rd) ?_
        refine fz rfl .no Fx.fo39_4 (.u rfl) ?_
        refine ld rfl .no Fx.ag37 (.u rfl) (fun _ => Rd.own .here rfl) ?_
        refine mv rfl .no (.u rfl) ?_
        refine ih rfl .no Fx.se37 (.u rfl) (.u rfl) (fun _ => by omega) (fun _ => by omega) (fun _ => hb.high.nn (k := j) (by omega)) ?_
        refine ld rfl .no Fx.ag32 (.u rfl) (fun _ => (((hb.high.mono hGl0).mono hGl1).ua j (by omega) (by omega)).rd) ?_
        refine cp rfl .no (.u rfl) (.u rfl) rfl ?_
        refine .nil ?_
        refine .code ?_
        refine .cond rfl (fun c5 => ?_) (fun c5 => ?_)
        · have c5k := c5
          try simp only [decide_eq_true_eq, decide_eq_false_iff_not, Int.not_lt, Int.not_le, gt_iff_lt, ge_iff_le, Bool.or_eq_true, Bool.and_eq_true, Bool.or_eq_false_iff, Bool.not_eq_true', Bool.not_eq_false', Int.toNat_natCast] at c5
          refine .seq ?_
          refine Wk.rg [0] rfl rfl ?_
          refine asg rfl .no (.u rfl) ?_
          refine .nil ?_
          refine .code ?_
          refine .ret ?_
          refine We.fin0 Try.results16 (.tmp rfl .nil) ?_
          exact ⟨rfl, sm_high c5k⟩
        · have c5k := c5
          try simp only [decide_eq_true_eq, decide_eq_false_iff_not, Int.not_lt, Int.not_le, gt_iff_lt, ge_iff_le, Bool.or_eq_true, Bool.and_eq_true, Bool.or_eq_false_iff, Bool.not_eq_true', Bool.not_eq_false', Int.toNat_natCast] at c5
          refine .skip ?_
          refine .blk ?_
          refine .code ?_
          refine Wk.rg [0, 1, 2] rfl rfl ?_
          refine mv rfl .no (.u rfl) ?_
          refine ar rfl .no (.u rfl) (.u rfl) rfl (fun _ => wrap_i64 (by omega) (by omega)) ?_
          refine asg rfl .no (.u rfl) ?_
          refine .nil ?_
          refine We.lpo (j + 1) ?_ ?_ ?_ ?_ ?_
          · exact (ESub.cons rfl rfl (ESub.cons rfl rfl (ESub.cons rfl rfl ESub.nil)))
          · exact (MSub.cons .here rfl (MSub.cons .here rfl MSub.nil))
          · first | omega | (dsimp only; omega)
          · exact hGl1
          · exact ⟨by omega, sm_step hjl c5k⟩
      · have c4k := c4
        try simp only [decide_eq_false_iff_not, Int.not_lt] at c4
        refine .exit ?_
        refine .xcode ?_
        refine .xlp ?_
        refine .xblk ?_
        refine .code ?_
        refine .seq ?_
        refine Wk.rg [0] rfl rfl ?_
        refine asg rfl .no (.u rfl) ?_
        refine .nil ?_
        refine .code ?_
        refine .ret ?_
        refine We.fin0 Try.results16 (.tmp rfl .nil) ?_
        exact ⟨rfl, sm_yes ⟨e1, e2, e3⟩ (sm_eq e4 (by omega) hkl) (sm_eq e5 (by omega) hjl)⟩

theorem PickPicks_ok (s : State) (hd : Nat → Sh) (G : PM) (hs : StR G s hd) (o : Opts) (turn : Int) (ht0 : 0 ≤ turn) (ht1 : turn < 18446744073709551616) : Ct Try.prog 4 ([s.val hd, o.val, .int .u64 turn] : List Value).toArray G [] (fun _ μ' u => μ' = [] ∧ u = .bool true) := by
  refine Ct.of Try.func4 rfl Try.ntmps4 rfl fun w0 hs0 => ?_
  refine .seq ?_
  refine Wk.rg [0, 1, 2] rfl rfl ?_
  refine bx rfl (.u rfl) rfl ?_; intro b3
  refine bx rfl (.u rfl) rfl ?_; intro b4
  refine asg rfl .no (.u rfl) ?_
  refine .nil ?_
  refine .code ?_
  refine .seq ?_
  refine Wk.rg [0, 1] rfl rfl ?_
  refine kv rfl .no Fx.go8 Eva.nil (fun _ => shown_ok _) ?_
  refine asg rfl .no (.u rfl) ?_
  refine .nil ?_
  refine .code ?_
  refine .seq ?_
  refine .seq ?_
  refine Wk.rg [0, 1, 2] rfl rfl ?_
  refine lA rfl .no Fx.ag35 (.u rfl) (fun _ => RdN.own (.there .here)) (fun _ => rfl) ?_
  refine kv rfl .no Fx.go13 (Eva.cons (.u rfl) Eva.nil) (fun _ => light_ok _ _ _ (by assumption)) ?_
  refine nt rfl .no (.u rfl) ?_
  refine .nil ?_
  refine .code ?_
  refine .cond rfl (fun c1 => ?_) (fun c1 => ?_)
  · have c1k := c1
    try simp only [decide_eq_false_iff_not, Int.not_le, Bool.not_eq_true'] at c1
    refine .seq ?_
    refine Wk.rg [0, 1] rfl rfl ?_
    refine mv rfl .no (.u rfl) ?_
    refine asg rfl .no (.u rfl) ?_
    refine .nil ?_
    refine .code ?_
    refine .ret ?_
    refine We.fin0 Try.results4 (.tmp rfl .nil) ?_
    exact ⟨rfl, rfl⟩
  · have c1k := c1
    try simp only [decide_eq_true_eq, Bool.not_eq_false'] at c1
    refine .skip ?_
    refine .code ?_
    refine .seq ?_
    refine Wk.rg [0, 1, 2, 3, 4, 5, 6, 7, 8, 9] rfl rfl ?_
    refine lA rfl .no Fx.ag35 (.u rfl) (fun _ => RdN.own (.there .here)) (fun _ => rfl) ?_
    refine lA rfl .no Fx.ag25 (.u rfl) (fun _ => RdN.own .here) (fun _ => rfl) ?_
    refine mv rfl .no (.u rfl) ?_
    refine kc rfl Fx.go14 (Eva.cons (.u rfl) (Eva.cons (.u rfl) (Eva.cons (.u rfl) Eva.nil))) (Pick_ok s hd _ hs o turn ht0 ht1) ?_
    rintro v1 G1 μ1 hG1 ⟨rfl, j1, j2, rfl, hJ1⟩
    simp only [lay, List.nil_append]
    have hs1 := hs.mono hG1
    refine mv rfl .no (.u rfl) ?_
    refine ex rfl .no (.u rfl) rfl ?_
    refine ex rfl .no (.u rfl) rfl ?_
    refine al rfl Fx.zr39 ?_; intro b8
    refine sw rfl (.u rfl) (.u rfl) rfl Fx.sz39 .here rfl (Job.one _ _ _) ?_
    refine asg rfl .no (.u rfl) ?_
    refine .nil ?_
    refine .code ?_
    refine .seq ?_
    refine Wk.rg [0, 1, 2, 3, 4, 5, 6, 7, 8, 9] rfl rfl ?_
    refine lA rfl .no Fx.ag35 (.u rfl) (fun _ => RdN.own (.there (.there .here))) (fun _ => rfl) ?_
    refine lA rfl .no Fx.ag25 (.u rfl) (fun _ => RdN.own (.there .here)) (fun _ => rfl) ?_
    refine mv rfl .no (.u rfl) ?_
    refine kc rfl Fx.go15 (Eva.cons (.u rfl) (Eva.cons (.u rfl) (Eva.cons (.u rfl) Eva.nil))) (rPick_ok s hd _ hs1 o turn ht0 ht1) ?_
    rintro v2 G2 μ2 hG2 ⟨rfl, j3, j4, rfl, hJ2⟩
    simp only [lay, List.nil_append]
    have hJ3 := hJ1.mono hG2
    refine mv rfl .no (.u rfl) ?_
    refine ex rfl .no (.u rfl) rfl ?_
    refine ex rfl .no (.u rfl) rfl ?_
    refine al rfl Fx.zr39 ?_; intro b10
    refine sw rfl (.u rfl) (.u rfl) rfl Fx.sz39 .here rfl (Job.one _ _ _) ?_
    refine asg rfl .no (.u rfl) ?_
    refine .nil ?_
    refine .code ?_
    refine .seq ?_
    refine Wk.rg [0, 1, 2, 3, 4, 5, 6, 7, 8, 9, 10, 11] rfl rfl ?_
    refine mv rfl .no (.u rfl) ?_
    refine mv rfl .no (.u rfl) ?_
    refine lA rfl (.t rfl rfl) Fx.ag39 (.u rfl) (fun _ => RdN.own (.there .here)) (fun _ => rfl) ?_
    refine lA rfl (.t rfl rfl) Fx.ag39 (.u rfl) (fun _ => RdN.own .here) (fun _ => rfl) ?_
    refine kv rfl (.t rfl rfl) Fx.go16 (Eva.cons (.s rfl) (Eva.cons (.s rfl) Eva.nil)) (fun hc => Same_ok _ _ _ _ _ _ _ hJ3 hJ2) ?_
    refine pkA rfl .no (.u rfl) (.s rfl) ?_
    refine mv rfl .no (.u rfl) ?_
    refine mv rfl (.t rfl rfl) (.u rfl) ?_
    refine mv rfl (.t rfl rfl) (.u rfl) ?_
    refine eb rfl (.t rfl rfl) Fx.bt4 (.s rfl) (.s rfl) ?_
    refine pkA rfl .no (.u rfl) (.s rfl) ?_
    refine asg rfl .no (.u rfl) ?_
    refine .nil ?_
    refine .code ?_
    refine .ret ?_
    refine We.fin0 Try.results4 (.tmp rfl .nil) ?_
    exact ⟨rfl, by simp [tup, sameJ_self]⟩

end Go.Proofs.Ytnhipfnbnilleaa
