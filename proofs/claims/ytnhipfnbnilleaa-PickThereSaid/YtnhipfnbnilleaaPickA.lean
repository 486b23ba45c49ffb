/- Contracts of functions, walked. -/
import Derived.Test.YtnhipfnbnilleaaFx
import Derived.Test.YtnhipfnbnilleaaPickM
namespace Go.Proofs.Ytnhipfnbnilleaa
open Go.Tan Go.RowKit

theorem within_ok (n m : Int) (G : PM) : Ct Try.prog 26 ([.int .i64 n, .int .i64 m] : List Value).toArray G [] (fun _ μ' u => μ' = [] ∧ u = .bool (within n m)) := by
  refine Ct.of Try.func26 rfl Try.ntmps26 rfl fun w0 hs0 => ?_
  refine .seq ?_
  refine Wk.rg [0] rfl rfl ?_
  refine asg rfl .no (.u rfl) ?_
  refine .nil ?_
  refine .code ?_
  refine .seq ?_
  refine Wk.rg [0, 1, 2, 3, 4, 5, 6, 7] rfl rfl ?_
  refine mv rfl .no (.u rfl) ?_
  refine cp rfl .no (.u rfl) (.u rfl) rfl ?_
  refine mv rfl .no (.u rfl) ?_
  refine mv rfl (.t rfl rfl) (.u rfl) ?_
  refine mv rfl (.t rfl rfl) (.u rfl) ?_
  refine cp rfl (.t rfl rfl) (.s rfl) (.s rfl) rfl ?_
  refine pkA rfl .no (.u rfl) (.s rfl) ?_
  refine asg rfl .no (.u rfl) ?_
  refine .nil ?_
  refine .code ?_
  refine .ret ?_
  refine We.fin0 Try.results26 (.tmp rfl .nil) ?_
  exact ⟨rfl, rfl⟩

theorem from_ok (n m : Int) (G : PM) : Ct Try.prog 27 ([.int .i64 n, .int .i64 m] : List Value).toArray G [] (fun _ μ' u => μ' = [] ∧ u = .bool (within n m)) := by
  refine Ct.of Try.func27 rfl Try.ntmps27 rfl fun w0 hs0 => ?_
  refine .seq ?_
  refine Wk.rg [0] rfl rfl ?_
  refine asg rfl .no (.u rfl) ?_
  refine .nil ?_
  refine .code ?_
  refine .seq ?_
  refine Wk.rg [0, 1, 2, 3, 4, 5, 6, 7] rfl rfl ?_
  refine mv rfl .no (.u rfl) ?_
  refine cp rfl .no (.u rfl) (.u rfl) rfl ?_
  refine mv rfl .no (.u rfl) ?_
  refine mv rfl (.t rfl rfl) (.u rfl) ?_
  refine mv rfl (.t rfl rfl) (.u rfl) ?_
  refine cp rfl (.t rfl rfl) (.s rfl) (.s rfl) rfl ?_
  refine pkA rfl .no (.u rfl) (.s rfl) ?_
  refine asg rfl .no (.u rfl) ?_
  refine .nil ?_
  refine .code ?_
  refine .ret ?_
  refine We.fin0 Try.results27 (.tmp rfl .nil) ?_
  exact ⟨rfl, rfl⟩

theorem right_ok (o : Opts) (G : PM) : Ct Try.prog 9 ([o.val] : List Value).toArray G [] (fun _ μ' u => μ' = [] ∧ u = .bool (rightO o)) := by
  refine Ct.of Try.func9 rfl Try.ntmps9 rfl fun w0 hs0 => ?_
  refine .seq ?_
  refine Wk.rg [0, 1] rfl rfl ?_
  refine bx rfl (.u rfl) rfl ?_; intro b1
  refine asg rfl .no (.u rfl) ?_
  refine .nil ?_
  refine .code ?_
  refine .seq ?_
  refine Wk.rg [0, 1, 2, 3, 4, 5, 6, 7, 8, 9, 10, 11, 12, 13, 14] rfl rfl ?_
  refine fz rfl .no Fx.fo25_0 (.u rfl) ?_
  refine ld rfl .no Fx.ag3 (.u rfl) (fun _ => Rd.own .here rfl) ?_
  refine kv rfl .no Fx.go26 (Eva.cons (.u rfl) (Eva.cons (.u rfl) Eva.nil)) (fun _ => within_ok _ _ _) ?_
  refine mv rfl .no (.u rfl) ?_
  refine fz rfl (.t rfl rfl) Fx.fo25_1 (.u rfl) ?_
  refine ld rfl (.t rfl rfl) Fx.ag3 (.s rfl) (fun _ => Rd.own .here rfl) ?_
  refine kv rfl (.t rfl rfl) Fx.go26 (Eva.cons (.s rfl) (Eva.cons (.u rfl) Eva.nil)) (fun hc => within_ok _ _ _) ?_
  refine pkA rfl .no (.u rfl) (.s rfl) ?_
  refine mv rfl .no (.u rfl) ?_
  refine fz rfl (.t rfl rfl) Fx.fo25_4 (.u rfl) ?_
  refine fa rfl (.t rfl rfl) Fx.fo23_0 (.s rfl) ?_
  refine ld rfl (.t rfl rfl) Fx.ag3 (.s rfl) (fun _ => Rd.own .here rfl) ?_
  refine kv rfl (.t rfl rfl) Fx.go26 (Eva.cons (.s rfl) (Eva.cons (.u rfl) Eva.nil)) (fun hc => within_ok _ _ _) ?_
  refine pkA rfl .no (.u rfl) (.s rfl) ?_
  refine asg rfl .no (.u rfl) ?_
  refine .nil ?_
  refine .code ?_
  refine .seq ?_
  refine Wk.rg [0, 1, 2, 3, 4, 5, 6, 7, 8, 9, 10, 11, 12, 13, 14, 15, 16, 17, 18, 19, 20, 21, 22, 23] rfl rfl ?_
  refine mv rfl .no (.u rfl) ?_
  refine mv rfl .no (.u rfl) ?_
  refine fz rfl (.t rfl rfl) Fx.fo25_2 (.u rfl) ?_
  refine ld rfl (.t rfl rfl) Fx.ag3 (.s rfl) (fun _ => Rd.own .here rfl) ?_
  refine kv rfl (.t rfl rfl) Fx.go26 (Eva.cons (.s rfl) (Eva.cons (.u rfl) Eva.nil)) (fun hc => within_ok _ _ _) ?_
  refine pkA rfl .no (.u rfl) (.s rfl) ?_
  refine mv rfl .no (.u rfl) ?_
  refine fz rfl (.t rfl rfl) Fx.fo25_3 (.u rfl) ?_
  refine ld rfl (.t rfl rfl) Fx.ag3 (.s rfl) (fun _ => Rd.own .here rfl) ?_
  refine kv rfl (.t rfl rfl) Fx.go26 (Eva.cons (.s rfl) (Eva.cons (.u rfl) Eva.nil)) (fun hc => within_ok _ _ _) ?_
  refine pkA rfl .no (.u rfl) (.s rfl) ?_
  refine mv rfl .no (.u rfl) ?_
  refine fz rfl (.t rfl rfl) Fx.fo25_4 (.u rfl) ?_
  refine fa rfl (.t rfl rfl) Fx.fo23_1 (.s rfl) ?_
  refine ld rfl (.t rfl rfl) Fx.ag3 (.s rfl) (fun _ => Rd.own .here rfl) ?_
  refine kv rfl (.t rfl rfl) Fx.go26 (Eva.cons (.s rfl) (Eva.cons (.u rfl) Eva.nil)) (fun hc => within_ok _ _ _) ?_
  refine pkA rfl .no (.u rfl) (.s rfl) ?_
  refine mv rfl .no (.u rfl) ?_
  refine fz rfl (.t rfl rfl) Fx.fo25_4 (.u rfl) ?_
  refine fa rfl (.t rfl rfl) Fx.fo23_2 (.s rfl) ?_
  refine ld rfl (.t rfl rfl) Fx.ag3 (.s rfl) (fun _ => Rd.own .here rfl) ?_
  refine kv rfl (.t rfl rfl) Fx.go26 (Eva.cons (.s rfl) (Eva.cons (.u rfl) Eva.nil)) (fun hc => within_ok _ _ _) ?_
  refine pkA rfl .no (.u rfl) (.s rfl) ?_
  refine asg rfl .no (.u rfl) ?_
  refine .nil ?_
  refine .code ?_
  refine .ret ?_
  refine We.fin0 Try.results9 (.tmp rfl .nil) ?_
  exact ⟨rfl, rfl⟩

theorem rright_ok (o : Opts) (G : PM) : Ct Try.prog 10 ([o.val] : List Value).toArray G [] (fun _ μ' u => μ' = [] ∧ u = .bool (rightO o)) := by
  refine Ct.of Try.func10 rfl Try.ntmps10 rfl fun w0 hs0 => ?_
  refine .seq ?_
  refine Wk.rg [0, 1] rfl rfl ?_
  refine bx rfl (.u rfl) rfl ?_; intro b1
  refine asg rfl .no (.u rfl) ?_
  refine .nil ?_
  refine .code ?_
  refine .seq ?_
  refine Wk.rg [0, 1, 2, 3, 4, 5, 6, 7, 8, 9, 10, 11, 12, 13, 14, 15, 16, 17, 18, 19, 20, 21, 22, 23, 24, 25, 26, 27, 28, 29, 30, 31, 32, 33, 34, 35, 36] rfl rfl ?_
  refine fz rfl .no Fx.fo25_0 (.u rfl) ?_
  refine ld rfl .no Fx.ag3 (.u rfl) (fun _ => Rd.own .here rfl) ?_
  refine kv rfl .no Fx.go27 (Eva.cons (.u rfl) (Eva.cons (.u rfl) Eva.nil)) (fun _ => from_ok _ _ _) ?_
  refine mv rfl .no (.u rfl) ?_
  refine fz rfl (.t rfl rfl) Fx.fo25_1 (.u rfl) ?_
  refine ld rfl (.t rfl rfl) Fx.ag3 (.s rfl) (fun _ => Rd.own .here rfl) ?_
  refine kv rfl (.t rfl rfl) Fx.go27 (Eva.cons (.s rfl) (Eva.cons (.u rfl) Eva.nil)) (fun hc => from_ok _ _ _) ?_
  refine pkA rfl .no (.u rfl) (.s rfl) ?_
  refine mv rfl .no (.u rfl) ?_
  refine fz rfl (.t rfl rfl) Fx.fo25_2 (.u rfl) ?_
  refine ld rfl (.t rfl rfl) Fx.ag3 (.s rfl) (fun _ => Rd.own .here rfl) ?_
  refine kv rfl (.t rfl rfl) Fx.go27 (Eva.cons (.s rfl) (Eva.cons (.u rfl) Eva.nil)) (fun hc => from_ok _ _ _) ?_
  refine pkA rfl .no (.u rfl) (.s rfl) ?_
  refine mv rfl .no (.u rfl) ?_
  refine fz rfl (.t rfl rfl) Fx.fo25_3 (.u rfl) ?_
  refine ld rfl (.t rfl rfl) Fx.ag3 (.s rfl) (fun _ => Rd.own .here rfl) ?_
  refine kv rfl (.t rfl rfl) Fx.go27 (Eva.cons (.s rfl) (Eva.cons (.u rfl) Eva.nil)) (fun hc => from_ok _ _ _) ?_
  refine pkA rfl .no (.u rfl) (.s rfl) ?_
  refine mv rfl .no (.u rfl) ?_
  refine fz rfl (.t rfl rfl) Fx.fo25_4 (.u rfl) ?_
  refine fa rfl (.t rfl rfl) Fx.fo23_0 (.s rfl) ?_
  refine ld rfl (.t rfl rfl) Fx.ag3 (.s rfl) (fun _ => Rd.own .here rfl) ?_
  refine kv rfl (.t rfl rfl) Fx.go27 (Eva.cons (.s rfl) (Eva.cons (.u rfl) Eva.nil)) (fun hc => from_ok _ _ _) ?_
  refine pkA rfl .no (.u rfl) (.s rfl) ?_
  refine mv rfl .no (.u rfl) ?_
  refine fz rfl (.t rfl rfl) Fx.fo25_4 (.u rfl) ?_
  refine fa rfl (.t rfl rfl) Fx.fo23_1 (.s rfl) ?_
  refine ld rfl (.t rfl rfl) Fx.ag3 (.s rfl) (fun _ => Rd.own .here rfl) ?_
  refine kv rfl (.t rfl rfl) Fx.go27 (Eva.cons (.s rfl) (Eva.cons (.u rfl) Eva.nil)) (fun hc => from_ok _ _ _) ?_
  refine pkA rfl .no (.u rfl) (.s rfl) ?_
  refine mv rfl .no (.u rfl) ?_
  refine fz rfl (.t rfl rfl) Fx.fo25_4 (.u rfl) ?_
  refine fa rfl (.t rfl rfl) Fx.fo23_2 (.s rfl) ?_
  refine ld rfl (.t rfl rfl) Fx.ag3 (.s rfl) (fun _ => Rd.own .here rfl) ?_
  refine kv rfl (.t rfl rfl) Fx.go27 (Eva.cons (.s rfl) (Eva.cons (.u rfl) Eva.nil)) (fun hc => from_ok _ _ _) ?_
  refine pkA rfl .no (.u rfl) (.s rfl) ?_
  refine asg rfl .no (.u rfl) ?_
  refine .nil ?_
  refine .code ?_
  refine .ret ?_
  refine We.fin0 Try.results10 (.tmp rfl .nil) ?_
  exact ⟨rfl, congrArg Value.bool (rightO_perm o)⟩

theorem limit_ok (o : Opts) (level : Int) (G : PM) : Ct Try.prog 11 ([o.val, .int .i64 level] : List Value).toArray G [] (fun _ μ' u => μ' = [] ∧ u = .int .i64 (limit o level)) := by
  refine Ct.of Try.func11 rfl Try.ntmps11 rfl fun w0 hs0 => ?_
  refine .seq ?_
  refine Wk.rg [0, 1] rfl rfl ?_
  refine bx rfl (.u rfl) rfl ?_; intro b2
  refine asg rfl .no (.u rfl) ?_
  refine .nil ?_
  refine .code ?_
  refine .seq ?_
  refine .seq ?_
  refine Wk.rg [0, 1, 2, 3, 4, 5, 6, 7, 8, 9, 10] rfl rfl ?_
  refine mv rfl .no (.u rfl) ?_
  refine cp rfl .no (.u rfl) (.u rfl) rfl ?_
  refine mv rfl .no (.u rfl) ?_
  refine mv rfl (.f rfl rfl) (.u rfl) ?_
  refine cp rfl (.f rfl rfl) (.s rfl) (.u rfl) rfl ?_
  refine pkO rfl .no (.u rfl) (.s rfl) ?_
  refine mv rfl .no (.u rfl) ?_
  refine lA rfl (.f rfl rfl) Fx.ag25 (.u rfl) (fun _ => RdN.own .here) (fun _ => rfl) ?_
  refine kv rfl (.f rfl rfl) Fx.go9 (Eva.cons (.s rfl) Eva.nil) (fun hc => right_ok _ _) ?_
  refine nt rfl (.f rfl rfl) (.s rfl) ?_
  refine pkO rfl .no (.u rfl) (.s rfl) ?_
  refine .nil ?_
  refine .code ?_
  refine .cond rfl (fun c1 => ?_) (fun c1 => ?_)
  · have c1k := c1
    try simp only [decide_eq_true_eq, gt_iff_lt, Bool.or_eq_true, Bool.not_eq_true'] at c1
    refine .seq ?_
    refine Wk.rg [0] rfl rfl ?_
    refine asg rfl .no (.u rfl) ?_
    refine .nil ?_
    refine .code ?_
    refine .ret ?_
    refine We.fin0 Try.results11 (.tmp rfl .nil) ?_
    exact ⟨rfl, by rw [limit, if_pos (or_assoc.1 c1)]; rfl⟩
  · have c1k := c1
    try simp only [decide_eq_false_iff_not, Int.not_lt, gt_iff_lt, Bool.or_eq_false_iff, Bool.not_eq_false'] at c1
    refine .skip ?_
    refine .code ?_
    refine .seq ?_
    refine Wk.rg [0, 1, 2, 3, 4, 5, 6] rfl rfl ?_
    refine fz rfl .no Fx.fo25_3 (.u rfl) ?_
    refine ld rfl .no Fx.ag3 (.u rfl) (fun _ => Rd.own .here rfl) ?_
    refine mv rfl .no (.u rfl) ?_
    refine ar rfl .no (.u rfl) (.u rfl) rfl (fun _ => wrap_i64 (by omega) (by omega)) ?_
    refine ar rfl .no (.u rfl) (.u rfl) rfl (fun _ => wrap_i64 (by omega) (by omega)) ?_
    refine sl rfl .no (.u rfl) (.u rfl) (fun _ => by omega) ?_
    refine asg rfl .no (.u rfl) ?_
    refine .nil ?_
    refine .code ?_
    refine .ret ?_
    refine We.fin0 Try.results11 (.tmp rfl .nil) ?_
    exact ⟨rfl, lim_shl c1.1.1 c1.1.2 c1.2⟩

theorem rlimit_ok (o : Opts) (level : Int) (G : PM) : Ct Try.prog 12 ([o.val, .int .i64 level] : List Value).toArray G [] (fun _ μ' u => μ' = [] ∧ u = .int .i64 (limit o level)) := by
  refine Ct.of Try.func12 rfl Try.ntmps12 rfl fun w0 hs0 => ?_
  refine .seq ?_
  refine Wk.rg [0, 1] rfl rfl ?_
  refine bx rfl (.u rfl) rfl ?_; intro b2
  refine asg rfl .no (.u rfl) ?_
  refine .nil ?_
  refine .code ?_
  refine .seq ?_
  refine .seq ?_
  refine Wk.rg [0, 1, 2, 3, 4, 5, 6, 7, 8, 9, 10] rfl rfl ?_
  refine lA rfl .no Fx.ag25 (.u rfl) (fun _ => RdN.own .here) (fun _ => rfl) ?_
  refine kv rfl .no Fx.go10 (Eva.cons (.u rfl) Eva.nil) (fun _ => rright_ok _ _) ?_
  refine nt rfl .no (.u rfl) ?_
  refine mv rfl .no (.u rfl) ?_
  refine mv rfl (.f rfl rfl) (.u rfl) ?_
  refine cp rfl (.f rfl rfl) (.s rfl) (.u rfl) rfl ?_
  refine pkO rfl .no (.u rfl) (.s rfl) ?_
  refine mv rfl .no (.u rfl) ?_
  refine mv rfl (.f rfl rfl) (.u rfl) ?_
  refine cp rfl (.f rfl rfl) (.s rfl) (.u rfl) rfl ?_
  refine pkO rfl .no (.u rfl) (.s rfl) ?_
  refine .nil ?_
  refine .code ?_
  refine .cond rfl (fun c1 => ?_) (fun c1 => ?_)
  · have c1k := c1
    try simp only [decide_eq_true_eq, gt_iff_lt, Bool.or_eq_true, Bool.not_eq_true'] at c1
    refine .seq ?_
    refine Wk.rg [0] rfl rfl ?_
    refine asg rfl .no (.u rfl) ?_
    refine .nil ?_
    refine .code ?_
    refine .ret ?_
    refine We.fin0 Try.results12 (.tmp rfl .nil) ?_
    exact ⟨rfl, by rw [limit, if_pos (by rcases c1 with (h | h) | h; exact .inr (.inr h); exact .inl h; exact .inr (.inl h))]; rfl⟩
  · have c1k := c1
    try simp only [decide_eq_false_iff_not, Int.not_lt, gt_iff_lt, Bool.or_eq_false_iff, Bool.not_eq_false'] at c1
    refine .skip ?_
    refine .code ?_
    refine .seq ?_
    refine Wk.rg [0, 1, 2] rfl rfl ?_
    refine fz rfl .no Fx.fo25_3 (.u rfl) ?_
    refine ld rfl .no Fx.ag3 (.u rfl) (fun _ => Rd.own .here rfl) ?_
    refine asg rfl .no (.u rfl) ?_
    refine .nil ?_
    refine .code ?_
    refine .seq ?_
    refine .seq ?_
    refine Wk.rg [0] rfl rfl ?_
    refine asg rfl .no (.u rfl) ?_
    refine .nil ?_
    refine .code ?_
    refine .block ?_
    refine Wk.lop (α := Nat) (fun k => [(5, true, .int .i64 (o.base * 4 ^ k)), (6, true, .int .i64 ((k : Int) + 1))]) (fun _ => [])
      (fun k Gl => (k : Int) + 1 ≤ level) (fun k => (level - k).toNat) 0 [(1, true, _)] [.blk b2 _]
      (ESub.cons rfl (congrArg _ (Int.mul_one _).symm) (ESub.cons rfl rfl (ESub.cons rfl rfl ESub.nil)))
      (MSub.cons .here rfl MSub.nil) ?_ ?_
    · show ((0 : Nat) : Int) + 1 ≤ level; omega
    intro k N0 Gl0 hN0 hGl0 hF0
    try dsimp only at hF0 hN0 ⊢
    have hpk := pow_small o k c1.1.1 (by omega)
    refine .seq ?_
    refine .seq ?_
    refine Wk.rg [0, 1, 2] rfl rfl ?_
    refine mv rfl .no (.u rfl) ?_
    refine mv rfl .no (.u rfl) ?_
    refine cp rfl .no (.u rfl) (.u rfl) rfl ?_
    refine .nil ?_
    refine .code ?_
    refine .cond rfl (fun c2 => ?_) (fun c2 => ?_)
    · have c2k := c2
      try simp only [decide_eq_true_eq] at c2
      refine .skip ?_
      refine .code ?_
      refine .seq ?_
      refine .block ?_
      refine Wk.rg [0, 1, 2] rfl rfl ?_
      refine mv rfl .no (.u rfl) ?_
      refine ar rfl .no (.u rfl) (.u rfl) rfl (fun _ => wrap_i64 (by omega) (by omega)) ?_
      refine asg rfl .no (.u rfl) ?_
      refine .nil ?_
      refine .blk ?_
      refine .code ?_
      refine Wk.rg [0, 1, 2] rfl rfl ?_
      refine mv rfl .no (.u rfl) ?_
      refine ar rfl .no (.u rfl) (.u rfl) rfl (fun _ => wrap_i64 (by omega) (by omega)) ?_
      refine asg rfl .no (.u rfl) ?_
      refine .nil ?_
      refine We.lpo (k + 1) ?_ ?_ ?_ ?_ ?_
      · exact (ESub.cons rfl (congrArg _ (by rw [Int.pow_succ, Int.mul_assoc])) (ESub.cons rfl rfl (ESub.cons rfl rfl ESub.nil)))
      · exact (MSub.cons .here rfl MSub.nil)
      · first | omega | (dsimp only; omega)
      · exact hGl0
      · show ((k + 1 : Nat) : Int) + 1 ≤ level; omega
    · have c2k := c2
      try simp only [decide_eq_false_iff_not, Int.not_lt] at c2
      refine .exit ?_
      refine .xcode ?_
      refine .xlp ?_
      refine .xblk ?_
      refine .code ?_
      refine .seq ?_
      refine Wk.rg [0, 1] rfl rfl ?_
      refine mv rfl .no (.u rfl) ?_
      refine asg rfl .no (.u rfl) ?_
      refine .nil ?_
      refine .code ?_
      refine .ret ?_
      refine We.fin0 Try.results12 (.tmp rfl .nil) ?_
      exact ⟨rfl, lim_fin c1.1.2 c1.2 c1.1.1 (by omega)⟩

end Go.Proofs.Ytnhipfnbnilleaa
