/- Contracts of functions, walked. -/
import Derived.Test.YtnhipfnbnilleaaPickA
namespace Go.Proofs.Ytnhipfnbnilleaa
open Go.Tan Go.RowKit

theorem stands_ok (a b : Meta) (G : PM) (h0 : 0 ≤ a.level) : Ct Try.prog 36 ([a.val, b.val] : List Value).toArray G [] (fun _ μ' u => μ' = [] ∧ u = .bool (pairOk a.level a b)) := by
  refine Ct.of Try.func36 rfl Try.ntmps36 rfl fun w0 hs0 => ?_
  refine .seq ?_
  refine Wk.rg [0, 1, 2] rfl rfl ?_
  refine bx rfl (.u rfl) rfl ?_; intro b2
  refine bx rfl (.u rfl) rfl ?_; intro b3
  refine asg rfl .no (.u rfl) ?_
  refine .nil ?_
  refine .code ?_
  refine .seq ?_
  refine .seq ?_
  refine Wk.rg [0, 1, 2] rfl rfl ?_
  refine fz rfl .no Fx.fo49_0 (.u rfl) ?_
  refine ld rfl .no Fx.ag5 (.u rfl) (fun _ => Rd.own (.there .here) rfl) ?_
  refine cp rfl .no (.u rfl) (.u rfl) rfl ?_
  refine .nil ?_
  refine .code ?_
  refine .cond rfl (fun c1 => ?_) (fun c1 => ?_)
  · have c1k := c1
    try simp only [decide_eq_true_eq, decide_eq_false_iff_not, Int.not_lt, Int.not_le, gt_iff_lt, ge_iff_le, Bool.or_eq_true, Bool.and_eq_true, Bool.or_eq_false_iff, Bool.not_eq_true', Bool.not_eq_false', Int.toNat_natCast] at c1
    refine .seq ?_
    refine Wk.rg [0, 1, 2, 3, 4, 5] rfl rfl ?_
    refine fz rfl .no Fx.fo49_3 (.u rfl) ?_
    refine ld rfl .no Fx.ag32 (.u rfl) (fun _ => Rd.own (.there .here) rfl) ?_
    refine fz rfl .no Fx.fo49_3 (.u rfl) ?_
    refine ld rfl .no Fx.ag32 (.u rfl) (fun _ => Rd.own .here rfl) ?_
    refine cp rfl .no (.u rfl) (.u rfl) rfl ?_
    refine asg rfl .no (.u rfl) ?_
    refine .nil ?_
    refine .code ?_
    refine .ret ?_
    refine We.fin0 Try.results36 (.tmp rfl .nil) ?_
    exact ⟨rfl, congrArg Value.bool (by rw [← stands_eq a b h0, if_pos c1k])⟩
  · have c1k := c1
    try simp only [decide_eq_true_eq, decide_eq_false_iff_not, Int.not_lt, Int.not_le, gt_iff_lt, ge_iff_le, Bool.or_eq_true, Bool.and_eq_true, Bool.or_eq_false_iff, Bool.not_eq_true', Bool.not_eq_false', Int.toNat_natCast] at c1
    refine .skip ?_
    refine .code ?_
    refine .seq ?_
    refine Wk.rg [0, 1, 2, 3, 4, 5] rfl rfl ?_
    refine fz rfl .no Fx.fo49_7 (.u rfl) ?_
    refine ld rfl .no Fx.ag9 (.u rfl) (fun _ => Rd.own (.there .here) rfl) ?_
    refine fz rfl .no Fx.fo49_6 (.u rfl) ?_
    refine ld rfl .no Fx.ag9 (.u rfl) (fun _ => Rd.own .here rfl) ?_
    refine cs rfl .no (.u rfl) (.u rfl) rfl ?_
    refine asg rfl .no (.u rfl) ?_
    refine .nil ?_
    refine .code ?_
    refine .ret ?_
    refine We.fin0 Try.results36 (.tmp rfl .nil) ?_
    exact ⟨rfl, congrArg Value.bool (by rw [← stands_eq a b h0, if_neg (by rw [c1k]; simp)]; rfl)⟩

theorem fits_ok (s : State) (hd : Nat → Sh) (m : Meta) (b : Nat) (G : PM) (hp : RdNP G b 0 (s.cells hd)) (h0 : 0 ≤ m.level) : Ct Try.prog 35 ([.pointer (some ⟨b, 0, none⟩), m.val] : List Value).toArray G [] (fun _ μ' u => μ' = [] ∧ u = .bool (good s m)) := by
  refine Ct.of Try.func35 rfl Try.ntmps35 rfl fun w0 hs0 => ?_
  refine .seq ?_
  refine Wk.rg [0, 1] rfl rfl ?_
  refine bx rfl (.u rfl) rfl ?_; intro b3
  refine asg rfl .no (.u rfl) ?_
  refine .nil ?_
  refine .code ?_
  refine .seq ?_
  refine .block ?_
  refine .seq ?_
  refine .seq ?_
  refine Wk.rg [0, 1, 2, 3] rfl rfl ?_
  refine fz rfl .no Fx.fo49_0 (.u rfl) ?_
  refine ld rfl .no Fx.ag5 (.u rfl) (fun _ => Rd.own .here rfl) ?_
  refine cp rfl .no (.u rfl) (.u rfl) rfl ?_
  refine asg rfl .no (.u rfl) ?_
  refine .nil ?_
  refine .code ?_
  refine .cond rfl (fun c1 => ?_) (fun c1 => ?_)
  · have c1k := c1
    try simp only [decide_eq_true_eq, ge_iff_le] at c1
    refine .skip ?_
    refine .code ?_
    refine Wk.condT rfl c1k ?_
    refine .seq ?_
    refine Wk.rg [0] rfl rfl ?_
    refine asg rfl .no (.u rfl) ?_
    refine .nil ?_
    refine .code ?_
    refine .ret ?_
    refine We.fin0 Try.results35 (.tmp rfl .nil) ?_
    exact ⟨rfl, by simp [tup, good]; omega⟩
  · have c1k := c1
    try simp only [decide_eq_false_iff_not, Int.not_le, ge_iff_le] at c1
    refine .seq ?_
    refine Wk.rg [0, 1, 2, 3, 4, 5] rfl rfl ?_
    refine fz rfl .no Fx.fo49_6 (.u rfl) ?_
    refine ld rfl .no Fx.ag9 (.u rfl) (fun _ => Rd.own .here rfl) ?_
    refine fz rfl .no Fx.fo49_7 (.u rfl) ?_
    refine ld rfl .no Fx.ag9 (.u rfl) (fun _ => Rd.own .here rfl) ?_
    refine cs rfl .no (.u rfl) (.u rfl) rfl ?_
    refine asg rfl .no (.u rfl) ?_
    refine .nil ?_
    refine .code ?_
    refine .cond rfl (fun c2 => ?_) (fun c2 => ?_)
    · have c2k := c2
      try simp only [Bool.or_eq_false_iff, Bool.not_eq_true'] at c2
      refine .skip ?_
      refine .code ?_
      refine Wk.condT rfl c2k ?_
      refine .seq ?_
      refine Wk.rg [0] rfl rfl ?_
      refine asg rfl .no (.u rfl) ?_
      refine .nil ?_
      refine .code ?_
      refine .ret ?_
      refine We.fin0 Try.results35 (.tmp rfl .nil) ?_
      exact ⟨rfl, by have h : le m.min m.max = false := (by simpa [le] using c2k); simp [tup, good, h]⟩
    · have c2k := c2
      try simp only [Bool.or_eq_true, Bool.not_eq_false'] at c2
      refine .seq ?_
      refine Wk.rg [0, 1, 2, 3, 4, 5, 6, 7, 8] rfl rfl ?_
      refine fz rfl .no Fx.fo49_6 (.u rfl) ?_
      refine ld rfl .no Fx.ag9 (.u rfl) (fun _ => Rd.own .here rfl) ?_
      refine ls rfl .no Fx.st9 (.u rfl) ?_
      refine fz rfl .no Fx.fo49_7 (.u rfl) ?_
      refine ld rfl .no Fx.ag9 (.u rfl) (fun _ => Rd.own .here rfl) ?_
      refine ls rfl .no Fx.st9 (.u rfl) ?_
      refine mA rfl .no (.u rfl) (.u rfl) ?_
      refine cp rfl .no (.u rfl) (.u rfl) rfl ?_
      refine asg rfl .no (.u rfl) ?_
      refine .nil ?_
      refine .code ?_
      refine .cond rfl (fun c3 => ?_) (fun c3 => ?_)
      · have c3k := c3
        try simp only [decide_eq_true_eq, gt_iff_lt] at c3
        refine .skip ?_
        refine .code ?_
        refine Wk.condT rfl c3k ?_
        refine .seq ?_
        refine Wk.rg [0] rfl rfl ?_
        refine asg rfl .no (.u rfl) ?_
        refine .nil ?_
        refine .code ?_
        refine .ret ?_
        refine We.fin0 Try.results35 (.tmp rfl .nil) ?_
        exact ⟨rfl, by simp [tup, good]; omega⟩
      · have c3k := c3
        try simp only [decide_eq_false_iff_not, Int.not_lt, gt_iff_lt] at c3
        refine .seq ?_
        refine Wk.rg [0, 1, 2, 3] rfl rfl ?_
        refine fz rfl .no Fx.fo49_5 (.u rfl) ?_
        refine ld rfl .no Fx.ag3 (.u rfl) (fun _ => Rd.own .here rfl) ?_
        refine cp rfl .no (.u rfl) (.u rfl) rfl ?_
        refine asg rfl .no (.u rfl) ?_
        refine .nil ?_
        refine .code ?_
        refine .cond rfl (fun c4 => ?_) (fun c4 => ?_)
        · have c4k := c4
          try simp only [decide_eq_true_eq] at c4
          refine .skip ?_
          refine .code ?_
          refine Wk.condT rfl c4k ?_
          refine .seq ?_
          refine Wk.rg [0] rfl rfl ?_
          refine asg rfl .no (.u rfl) ?_
          refine .nil ?_
          refine .code ?_
          refine .ret ?_
          refine We.fin0 Try.results35 (.tmp rfl .nil) ?_
          exact ⟨rfl, by simp [tup, good]; omega⟩
        · have c4k := c4
          try simp only [decide_eq_false_iff_not, Int.not_lt] at c4
          refine Wk.rg [0, 1, 2, 3] rfl rfl ?_
          refine fz rfl .no Fx.fo49_4 (.u rfl) ?_
          refine ld rfl .no Fx.ag3 (.u rfl) (fun _ => Rd.own .here rfl) ?_
          refine cp rfl .no (.u rfl) (.u rfl) rfl ?_
          refine asg rfl .no (.u rfl) ?_
          refine .nil ?_
          refine .code ?_
          refine .cond rfl (fun c5 => ?_) (fun c5 => ?_)
          · have c5k := c5
            try simp only [decide_eq_true_eq] at c5
            refine .seq ?_
            refine Wk.rg [0] rfl rfl ?_
            refine asg rfl .no (.u rfl) ?_
            refine .nil ?_
            refine .code ?_
            refine .ret ?_
            refine We.fin0 Try.results35 (.tmp rfl .nil) ?_
            exact ⟨rfl, by simp [tup, good]; omega⟩
          · have c5k := c5
            try simp only [decide_eq_false_iff_not, Int.not_lt] at c5
            refine .skip ?_
            refine .blk ?_
            refine .code ?_
            refine .seq ?_
            refine Wk.draw (mc := false) [0, 1, 2, 3, 4, 5, 6, 7, 8, 9, 10, 11, 12, 13, 14, 15, 16, 17, 18, 19] Fx.mix (by kernel_rfl) ?_
            refine fz rfl .no Fx.fo49_3 (.u rfl) ?_
            refine ld rfl .no Fx.ag32 (.u rfl) (fun _ => Rd.own .here rfl) ?_
            refine mv rfl .no (.u rfl) ?_
            refine nc rfl .no (.u rfl) ?_
            refine fz rfl .no Fx.fo35_2 (.u rfl) ?_
            refine ld rfl .no Fx.ag32 (.u rfl) (fun _ => (hp.z rfl).rd) ?_
            refine cp rfl .no (.u rfl) (.u rfl) rfl ?_
            refine mv rfl .no (.u rfl) ?_
            refine fz rfl (.t rfl rfl) Fx.fo49_1 (.u rfl) ?_
            refine ld rfl (.t rfl rfl) Fx.ag32 (.s rfl) (fun _ => Rd.own .here rfl) ?_
            refine mv rfl (.t rfl rfl) (.u rfl) ?_
            refine fz rfl (.t rfl rfl) Fx.fo49_0 (.u rfl) ?_
            refine ld rfl (.t rfl rfl) Fx.ag5 (.s rfl) (fun _ => Rd.own .here rfl) ?_
            refine nc rfl (.t rfl rfl) (.s rfl) ?_
            refine fz rfl (.t rfl rfl) Fx.fo35_5 (.s rfl) ?_
            refine iA rfl (.t rfl rfl) Fx.ar33 (.s rfl) (.s rfl) (fun hc => by omega) (fun hc => by omega) ?_
            refine ld rfl (.t rfl rfl) Fx.ag32 (.s rfl) (fun hc => (hp.z (s.cell_gen hd (by omega))).rd) ?_
            refine cp rfl (.t rfl rfl) (.s rfl) (.s rfl) rfl ?_
            refine pkA rfl .no (.u rfl) (.s rfl) ?_
            refine asg rfl .no (.u rfl) ?_
            refine .nil ?_
            refine .code ?_
            refine .ret ?_
            refine We.fin0 Try.results35 (.tmp rfl .nil) ?_
            exact ⟨rfl, fits_fin c1 c2k c3 c4 c5⟩

theorem good_ok (s : State) (hd : Nat → Sh) (G : PM) (hs : StR G s hd) (m : Meta) (h0 : 0 ≤ m.level) : Ct Try.prog 41 ([s.val hd, m.val] : List Value).toArray G [] (fun _ μ' u => μ' = [] ∧ u = .bool (good s m)) := by
  refine Ct.of Try.func41 rfl Try.ntmps41 rfl fun w0 hs0 => ?_
  refine .seq ?_
  refine Wk.rg [0, 1, 2] rfl rfl ?_
  refine bx rfl (.u rfl) rfl ?_; intro b2
  refine bx rfl (.u rfl) rfl ?_; intro b3
  refine asg rfl .no (.u rfl) ?_
  refine .nil ?_
  refine .code ?_
  refine .seq ?_
  refine Wk.draw (mc := false) [0, 1, 2, 3, 4, 5, 6, 7, 8, 9, 10, 11, 12, 13, 14, 15, 16, 17, 18, 19, 20, 21, 22, 23, 24, 25, 26, 27, 28, 29, 30, 31, 32, 33, 34, 35, 36, 37, 38, 39, 40, 41, 42, 43, 44, 45, 46, 47, 48, 49] Fx.mix (by kernel_rfl) ?_
  refine fz rfl .no Fx.fo49_0 (.u rfl) ?_
  refine ld rfl .no Fx.ag5 (.u rfl) (fun _ => Rd.own .here rfl) ?_
  refine cp rfl .no (.u rfl) (.u rfl) rfl ?_
  refine mv rfl .no (.u rfl) ?_
  refine fz rfl (.t rfl rfl) Fx.fo49_6 (.u rfl) ?_
  refine ld rfl (.t rfl rfl) Fx.ag9 (.s rfl) (fun _ => Rd.own .here rfl) ?_
  refine fz rfl (.t rfl rfl) Fx.fo49_7 (.u rfl) ?_
  refine ld rfl (.t rfl rfl) Fx.ag9 (.s rfl) (fun _ => Rd.own .here rfl) ?_
  refine cs rfl (.t rfl rfl) (.s rfl) (.s rfl) rfl ?_
  refine pkA rfl .no (.u rfl) (.s rfl) ?_
  refine mv rfl .no (.u rfl) ?_
  refine fz rfl (.t rfl rfl) Fx.fo49_6 (.u rfl) ?_
  refine ld rfl (.t rfl rfl) Fx.ag9 (.s rfl) (fun _ => Rd.own .here rfl) ?_
  refine ls rfl (.t rfl rfl) Fx.st9 (.s rfl) ?_
  refine cp rfl (.t rfl rfl) (.s rfl) (.u rfl) rfl ?_
  refine pkA rfl .no (.u rfl) (.s rfl) ?_
  refine mv rfl .no (.u rfl) ?_
  refine fz rfl (.t rfl rfl) Fx.fo49_7 (.u rfl) ?_
  refine ld rfl (.t rfl rfl) Fx.ag9 (.s rfl) (fun _ => Rd.own .here rfl) ?_
  refine ls rfl (.t rfl rfl) Fx.st9 (.s rfl) ?_
  refine cp rfl (.t rfl rfl) (.s rfl) (.u rfl) rfl ?_
  refine pkA rfl .no (.u rfl) (.s rfl) ?_
  refine mv rfl .no (.u rfl) ?_
  refine fz rfl (.t rfl rfl) Fx.fo49_5 (.u rfl) ?_
  refine ld rfl (.t rfl rfl) Fx.ag3 (.s rfl) (fun _ => Rd.own .here rfl) ?_
  refine cp rfl (.t rfl rfl) (.s rfl) (.u rfl) rfl ?_
  refine pkA rfl .no (.u rfl) (.s rfl) ?_
  refine mv rfl .no (.u rfl) ?_
  refine fz rfl (.t rfl rfl) Fx.fo49_4 (.u rfl) ?_
  refine ld rfl (.t rfl rfl) Fx.ag3 (.s rfl) (fun _ => Rd.own .here rfl) ?_
  refine cp rfl (.t rfl rfl) (.s rfl) (.u rfl) rfl ?_
  refine pkA rfl .no (.u rfl) (.s rfl) ?_
  refine mv rfl .no (.u rfl) ?_
  refine fz rfl (.t rfl rfl) Fx.fo49_3 (.u rfl) ?_
  refine ld rfl (.t rfl rfl) Fx.ag32 (.s rfl) (fun _ => Rd.own .here rfl) ?_
  refine fz rfl (.t rfl rfl) Fx.fo35_2 (.u rfl) ?_
  refine ld rfl (.t rfl rfl) Fx.ag32 (.s rfl) (fun _ => Rd.own (.there .here) rfl) ?_
  refine cp rfl (.t rfl rfl) (.s rfl) (.s rfl) rfl ?_
  refine pkA rfl .no (.u rfl) (.s rfl) ?_
  refine mv rfl .no (.u rfl) ?_
  refine fz rfl (.t rfl rfl) Fx.fo49_1 (.u rfl) ?_
  refine ld rfl (.t rfl rfl) Fx.ag32 (.s rfl) (fun _ => Rd.own .here rfl) ?_
  refine fz rfl (.t rfl rfl) Fx.fo49_0 (.u rfl) ?_
  refine ld rfl (.t rfl rfl) Fx.ag5 (.s rfl) (fun _ => Rd.own .here rfl) ?_
  refine fz rfl (.t rfl rfl) Fx.fo35_5 (.u rfl) ?_
  refine iA rfl (.t rfl rfl) Fx.ar33 (.s rfl) (.s rfl) (fun hc => by omega) (fun hc => by simp only [Bool.and_eq_true, decide_eq_true_eq] at hc; omega) ?_
  refine ld rfl (.t rfl rfl) Fx.ag32 (.s rfl) (fun hc => Rd.own (.there .here) (s.cell_gen hd (by simp only [Bool.and_eq_true, decide_eq_true_eq] at hc; omega))) ?_
  refine cp rfl (.t rfl rfl) (.s rfl) (.s rfl) rfl ?_
  refine pkA rfl .no (.u rfl) (.s rfl) ?_
  refine asg rfl .no (.u rfl) ?_
  refine .nil ?_
  refine .code ?_
  refine .ret ?_
  refine We.fin0 Try.results41 (.tmp rfl .nil) ?_
  exact ⟨rfl, rfl⟩

theorem many_ok (s : State) (hd : Nat → Sh) (G : PM) (hs : StR G s hd) : Ct Try.prog 39 ([s.val hd] : List Value).toArray G [] (fun _ μ' u => μ' = [] ∧ u = .bool (decide (1024 < tot s 5))) := by
  refine Ct.of Try.func39 rfl Try.ntmps39 rfl fun w0 hs0 => ?_
  refine .seq ?_
  refine Wk.rg [0, 1] rfl rfl ?_
  refine bx rfl (.u rfl) rfl ?_; intro b1
  refine asg rfl .no (.u rfl) ?_
  refine .nil ?_
  refine .code ?_
  refine .seq ?_
  refine Wk.rg [0] rfl rfl ?_
  refine asg rfl .no (.u rfl) ?_
  refine .nil ?_
  refine .code ?_
  refine .seq ?_
  refine .seq ?_
  refine Wk.rg [0] rfl rfl ?_
  refine asg rfl .no (.u rfl) ?_
  refine .nil ?_
  refine .code ?_
  refine .block ?_
  refine Wk.lop (α := Nat) (fun k => [(3, true, .int .i64 (1024 - tot s k)), (4, true, .int .i64 (k : Int))]) (fun _ => [])
    (fun k Gl => k ≤ 5 ∧ tot s k ≤ 1024) (fun k => 5 - k) 0 [(1, true, _)] [.blk b1 _]
    (ESub.cons rfl rfl (ESub.cons rfl rfl (ESub.cons rfl rfl ESub.nil)))
    (MSub.cons .here rfl MSub.nil) ?_ ?_
  · exact ⟨by omega, by simp [tot]⟩
  intro k N0 Gl0 hN0 hGl0 hF0
  try dsimp only at hF0 hN0 ⊢
  obtain ⟨hk, ht⟩ := hF0; have hn := tot_nonneg s k
  refine .seq ?_
  refine .seq ?_
  refine Wk.rg [0, 1] rfl rfl ?_
  refine mv rfl .no (.u rfl) ?_
  refine cp rfl .no (.u rfl) (.u rfl) rfl ?_
  refine .nil ?_
  refine .code ?_
  refine .cond rfl (fun c1 => ?_) (fun c1 => ?_)
  · have c1k := c1
    try simp only [decide_eq_true_eq] at c1
    refine .skip ?_
    refine .code ?_
    refine .seq ?_
    refine .block ?_
    refine .seq ?_
    refine .seq ?_
    refine Wk.rg [0, 1, 2, 3, 4, 5, 6] rfl rfl ?_
    refine mv rfl .no (.u rfl) ?_
    refine fz rfl .no Fx.fo35_0 (.u rfl) ?_
    refine iA rfl .no Fx.ar31 (.u rfl) (.u rfl) (fun _ => by omega) (fun _ => by omega) ?_
    refine ld rfl .no Fx.ag30 (.u rfl) (fun _ => Rd.own .here (s.cell_lv hd (k := k) (by omega))) ?_
    refine ln rfl .no Fx.sn30 (.u rfl) ?_
    refine mv rfl .no (.u rfl) ?_
    refine cp rfl .no (.u rfl) (.u rfl) rfl ?_
    refine .nil ?_
    refine .code ?_
    refine .cond rfl (fun c2 => ?_) (fun c2 => ?_)
    · have c2k := c2
      try simp only [decide_eq_true_eq, gt_iff_lt] at c2
      refine .seq ?_
      refine Wk.rg [0] rfl rfl ?_
      refine asg rfl .no (.u rfl) ?_
      refine .nil ?_
      refine .code ?_
      refine .ret ?_
      refine We.fin0 Try.results39 (.tmp rfl .nil) ?_
      exact ⟨rfl, by have := tot_mono s (show k + 1 ≤ 5 by omega); rw [show tot s (k + 1) = tot s k + (s.lv k).length from rfl] at this; simp only [tup, Value.bool.injEq]; symm; rw [decide_eq_true_eq]; omega⟩
    · have c2k := c2
      try simp only [decide_eq_false_iff_not, Int.not_lt, gt_iff_lt] at c2
      refine .skip ?_
      refine .code ?_
      refine Wk.rg [0, 1, 2, 3, 4, 5, 6, 7] rfl rfl ?_
      refine mv rfl .no (.u rfl) ?_
      refine mv rfl .no (.u rfl) ?_
      refine fz rfl .no Fx.fo35_0 (.u rfl) ?_
      refine iA rfl .no Fx.ar31 (.u rfl) (.u rfl) (fun _ => by omega) (fun _ => by omega) ?_
      refine ld rfl .no Fx.ag30 (.u rfl) (fun _ => Rd.own .here (s.cell_lv hd (k := k) (by omega))) ?_
      refine ln rfl .no Fx.sn30 (.u rfl) ?_
      refine ar rfl .no (.u rfl) (.u rfl) rfl (fun _ => wrap_i64 (by omega) (by omega)) ?_
      refine asg rfl .no (.u rfl) ?_
      refine .nil ?_
      refine .blk ?_
      refine .code ?_
      refine Wk.rg [0, 1, 2] rfl rfl ?_
      refine mv rfl .no (.u rfl) ?_
      refine ar rfl .no (.u rfl) (.u rfl) rfl (fun _ => wrap_i64 (by omega) (by omega)) ?_
      refine asg rfl .no (.u rfl) ?_
      refine .nil ?_
      refine We.lpo (k + 1) ?_ ?_ ?_ ?_ ?_
      · exact (ESub.cons rfl (congrArg _ (by simp only [tot]; omega)) (ESub.cons rfl rfl (ESub.cons rfl rfl ESub.nil)))
      · exact (MSub.cons .here rfl MSub.nil)
      · first | omega | (dsimp only; omega)
      · exact hGl0
      · exact ⟨by omega, by simp only [tot]; omega⟩
  · have c1k := c1
    try simp only [decide_eq_false_iff_not, Int.not_lt] at c1
    refine .exit ?_
    refine .xcode ?_
    refine .xlp ?_
    refine .xblk ?_
    refine .code ?_
    refine .seq ?_
    refine Wk.rg [0] rfl rfl ?_
    refine asg rfl .no (.u rfl) ?_
    refine .nil ?_
    refine .code ?_
    refine .ret ?_
    refine We.fin0 Try.results39 (.tmp rfl .nil) ?_
    exact ⟨rfl, by (obtain rfl : k = 5 := by omega); simp only [tup, Value.bool.injEq]; symm; rw [decide_eq_false_iff_not]; omega⟩

theorem order_ok (level : Int) (h : Sh) (l : List Meta) (G : PM) (hs : SlR G 40 Meta.cells h l) (h0 : 0 ≤ level) (hl : l.length * 112 ≤ 140737488351232) : Ct Try.prog 40 ([.int .i64 level, h.val l.length] : List Value).toArray G [] (fun _ μ' u => μ' = [] ∧ u = .bool (ordB level l)) := by
  refine Ct.of Try.func40 rfl Try.ntmps40 rfl fun w0 hs0 => ?_
  refine .seq ?_
  refine Wk.rg [0] rfl rfl ?_
  refine asg rfl .no (.u rfl) ?_
  refine .nil ?_
  refine .code ?_
  refine .seq ?_
  refine .seq ?_
  refine Wk.rg [0] rfl rfl ?_
  refine asg rfl .no (.u rfl) ?_
  refine .nil ?_
  refine .code ?_
  refine .block ?_
  refine Wk.lop (α := Nat) (fun k => [(5, true, .int .i64 (k : Int))]) (fun _ => [])
    (fun k Gl => 1 ≤ k ∧ (k ≤ l.length ∨ l.length = 0 ∧ k = 1) ∧ ∀ j, j + 1 < k → pairOk level (l.getD j Meta.zero) (l.getD (j + 1) Meta.zero) = true) (fun k => l.length - k) 1 [(0, true, _), (1, true, _)] []
    (ESub.cons rfl rfl (ESub.cons rfl rfl (ESub.cons rfl rfl ESub.nil)))
    MSub.nil ?_ ?_
  · exact ⟨by omega, by omega, fun j hj => by omega⟩
  intro k N0 Gl0 hN0 hGl0 hF0
  try dsimp only at hF0 hN0 ⊢
  obtain ⟨hk, hk2, hall⟩ := hF0
  refine .seq ?_
  refine .seq ?_
  refine Wk.rg [0, 1, 2, 3] rfl rfl ?_
  refine mv rfl .no (.u rfl) ?_
  refine mv rfl .no (.u rfl) ?_
  refine ln rfl .no Fx.sn30 (.u rfl) ?_
  refine cp rfl .no (.u rfl) (.u rfl) rfl ?_
  refine .nil ?_
  refine .code ?_
  refine .cond rfl (fun c1 => ?_) (fun c1 => ?_)
  · have c1k := c1
    try simp only [decide_eq_true_eq] at c1
    refine .skip ?_
    refine .code ?_
    refine .seq ?_
    refine .block ?_
    refine .seq ?_
    refine Wk.draw (mc := false) [0, 1, 2, 3, 4, 5, 6, 7, 8, 9, 10, 11, 12, 13, 14, 15, 16, 17, 18, 19, 20, 21, 22, 23, 24, 25, 26, 27, 28, 29, 30, 31, 32, 33] Fx.mix (by kernel_rfl) ?_
    refine mv rfl .no (.u rfl) ?_
    refine cp rfl .no (.u rfl) (.u rfl) rfl ?_
    refine mv rfl .no (.u rfl) ?_
    refine mv rfl (.t rfl rfl) (.u rfl) ?_
    refine mv rfl (.t rfl rfl) (.u rfl) ?_
    refine ar rfl (.t rfl rfl) (.s rfl) (.u rfl) rfl (fun hc => wrap_i64 (by omega) (by omega)) ?_
    refine ih rfl (.t rfl rfl) Fx.se30 (.s rfl) (.s rfl) (fun hc => by omega) (fun hc => by omega) (fun hc => hs.nn (k := k) (by omega)) ?_
    refine fa rfl (.t rfl rfl) Fx.fo49_3 (.s rfl) ?_
    refine ld rfl (.t rfl rfl) Fx.ag32 (.s rfl) (fun hc => ((hs.mono hGl0).gat (k - 1) (by omega) (by omega) 3 _ rfl).rd) ?_
    refine mv rfl (.t rfl rfl) (.u rfl) ?_
    refine mv rfl (.t rfl rfl) (.u rfl) ?_
    refine ih rfl (.t rfl rfl) Fx.se30 (.s rfl) (.s rfl) (fun hc => by omega) (fun hc => by omega) (fun hc => hs.nn (k := k) (by omega)) ?_
    refine fa rfl (.t rfl rfl) Fx.fo49_3 (.s rfl) ?_
    refine ld rfl (.t rfl rfl) Fx.ag32 (.s rfl) (fun hc => ((hs.mono hGl0).gat k (by omega) (by omega) 3 _ rfl).rd) ?_
    refine cp rfl (.t rfl rfl) (.s rfl) (.s rfl) rfl ?_
    refine pkA rfl .no (.u rfl) (.s rfl) ?_
    refine mv rfl .no (.u rfl) ?_
    refine mv rfl (.f rfl rfl) (.u rfl) ?_
    refine cp rfl (.f rfl rfl) (.s rfl) (.u rfl) rfl ?_
    refine mv rfl (.f rfl rfl) (.s rfl) ?_
    refine mv rfl (.tc rfl rfl) (.u rfl) ?_
    refine mv rfl (.tc rfl rfl) (.u rfl) ?_
    refine ar rfl (.tc rfl rfl) (.s rfl) (.u rfl) rfl (fun hc => wrap_i64 (by omega) (by omega)) ?_
    refine ih rfl (.tc rfl rfl) Fx.se30 (.s rfl) (.s rfl) (fun hc => by omega) (fun hc => by omega) (fun hc => hs.nn (k := k) (by omega)) ?_
    refine fa rfl (.tc rfl rfl) Fx.fo49_7 (.s rfl) ?_
    refine ld rfl (.tc rfl rfl) Fx.ag9 (.s rfl) (fun hc => ((hs.mono hGl0).gat (k - 1) (by omega) (by omega) 7 _ rfl).rd) ?_
    refine mv rfl (.tc rfl rfl) (.u rfl) ?_
    refine mv rfl (.tc rfl rfl) (.u rfl) ?_
    refine ih rfl (.tc rfl rfl) Fx.se30 (.s rfl) (.s rfl) (fun hc => by omega) (fun hc => by omega) (fun hc => hs.nn (k := k) (by omega)) ?_
    refine fa rfl (.tc rfl rfl) Fx.fo49_6 (.s rfl) ?_
    refine ld rfl (.tc rfl rfl) Fx.ag9 (.s rfl) (fun hc => ((hs.mono hGl0).gat k (by omega) (by omega) 6 _ rfl).rd) ?_
    refine cs rfl (.tc rfl rfl) (.s rfl) (.s rfl) rfl ?_
    refine pkA rfl (.f rfl rfl) (.s rfl) (.s rfl) ?_
    refine pkO rfl .no (.u rfl) (.s rfl) ?_
    refine .nil ?_
    refine .code ?_
    refine .cond rfl (fun c2 => ?_) (fun c2 => ?_)
    · have c2k := c2
      try simp only [decide_eq_true_eq, gt_iff_lt, Bool.or_eq_true, Bool.and_eq_true, Bool.not_eq_true'] at c2
      refine .seq ?_
      refine Wk.rg [0] rfl rfl ?_
      refine asg rfl .no (.u rfl) ?_
      refine .nil ?_
      refine .code ?_
      refine .ret ?_
      refine We.fin0 Try.results40 (.tmp rfl .nil) ?_
      exact ⟨rfl, ord_false hk (by omega) (by simpa using wrong_of h0 c2k)⟩
    · have c2k := c2
      try simp only [gt_iff_lt, Bool.or_eq_false_iff] at c2
      refine .skip ?_
      refine .blk ?_
      refine .code ?_
      refine Wk.rg [0, 1, 2] rfl rfl ?_
      refine mv rfl .no (.u rfl) ?_
      refine ar rfl .no (.u rfl) (.u rfl) rfl (fun _ => wrap_i64 (by omega) (by omega)) ?_
      refine asg rfl .no (.u rfl) ?_
      refine .nil ?_
      refine We.lpo (k + 1) ?_ ?_ ?_ ?_ ?_
      · exact (ESub.cons rfl rfl (ESub.cons rfl rfl (ESub.cons rfl rfl ESub.nil)))
      · exact MSub.nil
      · first | omega | (dsimp only; omega)
      · exact hGl0
      · exact ⟨by omega, by omega, ord_step hall hk (by simpa using wrong_of h0 c2k)⟩
  · have c1k := c1
    try simp only [decide_eq_false_iff_not, Int.not_lt] at c1
    refine .exit ?_
    refine .xcode ?_
    refine .xlp ?_
    refine .xblk ?_
    refine .code ?_
    refine .seq ?_
    refine Wk.rg [0] rfl rfl ?_
    refine asg rfl .no (.u rfl) ?_
    refine .nil ?_
    refine .code ?_
    refine .ret ?_
    refine We.fin0 Try.results40 (.tmp rfl .nil) ?_
    exact ⟨rfl, ord_true (by omega) hall⟩

theorem all_ok (s : State) (hd : Nat → Sh) (G : PM) (hs : StR G s hd) (hf : tot s 5 ≤ 1024) : Ct Try.prog 42 ([s.val hd] : List Value).toArray G [] (fun G' μ' u => μ' = [] ∧ ∃ h : Sh, u = h.val (allM s 5).length ∧ SlR G' 40 Meta.cells h (allM s 5)) := by
  refine Ct.of Try.func42 rfl Try.ntmps42 rfl fun w0 hs0 => ?_
  refine .seq ?_
  refine Wk.rg [0, 1] rfl rfl ?_
  refine bx rfl (.u rfl) rfl ?_; intro b1
  refine asg rfl .no (.u rfl) ?_
  refine .nil ?_
  refine .code ?_
  refine .seq ?_
  refine Wk.rg [0] rfl rfl ?_
  refine asg rfl .no (.u rfl) ?_
  refine .nil ?_
  refine .code ?_
  refine .seq ?_
  refine .seq ?_
  refine Wk.rg [0] rfl rfl ?_
  refine asg rfl .no (.u rfl) ?_
  refine .nil ?_
  refine .code ?_
  refine .block ?_
  refine wk_nilRow 49 40 ?_
  refine Wk.lop (α := Nat × Value) (fun gh => [(3, true, gh.2), (4, true, .int .i64 (gh.1 : Int))]) (fun gh => [.row gh.2 49 40 (allM s gh.1).length ((allM s gh.1).flatMap Meta.cells)])
    (fun gh Gl => gh.1 ≤ 5) (fun gh => 5 - gh.1) (0, .slice none 0 0) [(1, true, _)] [.blk b1 _]
    (ESub.cons rfl rfl (ESub.cons rfl rfl (ESub.cons rfl rfl ESub.nil)))
    (MSub.cons .here rfl (MSub.cons .here rfl MSub.nil)) ?_ ?_
  · show 0 ≤ 5; omega
  intro gh N0 Gl0 hN0 hGl0 hF0
  obtain ⟨k, v⟩ := gh; dsimp only at hF0 hN0 ⊢
  have hk : k ≤ 5 := hF0; have hn := tot_mono s (show k ≤ 5 by omega); have hal := allM_len s k
  refine .seq ?_
  refine .seq ?_
  refine Wk.rg [0, 1] rfl rfl ?_
  refine mv rfl .no (.u rfl) ?_
  refine cp rfl .no (.u rfl) (.u rfl) rfl ?_
  refine .nil ?_
  refine .code ?_
  refine .cond rfl (fun c1 => ?_) (fun c1 => ?_)
  · have c1k := c1
    try simp only [decide_eq_true_eq] at c1
    refine .skip ?_
    refine .code ?_
    refine .seq ?_
    refine .block ?_
    refine Wk.rg [0, 1, 2, 3, 4, 5, 6] rfl rfl ?_
    have hn1 := tot_mono s (show k + 1 ≤ 5 by omega); rw [show tot s (k + 1) = tot s k + (s.lv k).length from rfl] at hn1
    refine mv rfl .no (.u rfl) ?_
    refine mv rfl .no (.u rfl) ?_
    refine fz rfl .no Fx.fo35_0 (.u rfl) ?_
    refine iA rfl .no Fx.ar31 (.u rfl) (.u rfl) (fun _ => by omega) (fun _ => by omega) ?_
    refine ld rfl .no Fx.ag30 (.u rfl) (fun _ => Rd.own (.there .here) (s.cell_lv hd (k := k) (by omega))) ?_
    refine ap rfl Fx.se30 Fx.zv49 rfl (.u rfl) (.u rfl) .here (flat_len (metas_len _)) (fun h => ⟨_, _, (hs.lv k (by omega)).nn h, ((hs.lv k (by omega)).mono hGl0 |>.flat (metas_len _)).rd⟩) (metas_one _) (by omega) (by unfold maxLen; omega) ?_; intro v14
    refine asg rfl .no (.u rfl) ?_
    refine .nil ?_
    refine .blk ?_
    refine .code ?_
    refine Wk.rg [0, 1, 2] rfl rfl ?_
    refine mv rfl .no (.u rfl) ?_
    refine ar rfl .no (.u rfl) (.u rfl) rfl (fun _ => wrap_i64 (by omega) (by omega)) ?_
    refine asg rfl .no (.u rfl) ?_
    refine .nil ?_
    refine We.lpo (k + 1, v14) ?_ ?_ ?_ ?_ ?_
    · exact (ESub.cons rfl rfl (ESub.cons rfl rfl (ESub.cons rfl rfl ESub.nil)))
    · exact (MSub.cons .here (allM_row s k _ _) (MSub.cons .here rfl MSub.nil))
    · first | omega | (dsimp only; omega)
    · exact hGl0
    · show k + 1 ≤ 5; omega
  · have c1k := c1
    try simp only [decide_eq_false_iff_not, Int.not_lt] at c1
    refine .exit ?_
    refine .xcode ?_
    refine .xlp ?_
    refine .xblk ?_
    refine .code ?_
    refine .seq ?_
    refine Wk.rg [0, 1] rfl rfl ?_
    refine mv rfl .no (.u rfl) ?_
    refine asg rfl .no (.u rfl) ?_
    refine .nil ?_
    refine .code ?_
    refine .ret ?_
    refine we_fr .here (fun b hb => by cases hb) ?_
    intro Gf hh hlef hv hcap hnn hrd; subst hv
    refine We.fin0 Try.results42 (.tmp rfl .nil) ?_
    obtain rfl : k = 5 := by omega
    exact ⟨rfl, hh, rfl, SlR.ofRow (metas_len _) hcap hnn hrd⟩

end Go.Proofs.Ytnhipfnbnilleaa
