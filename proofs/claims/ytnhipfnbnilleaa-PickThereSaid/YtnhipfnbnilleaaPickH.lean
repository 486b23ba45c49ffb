/- Contracts of functions, walked. -/
import Derived.Test.YtnhipfnbnilleaaPickG
namespace Go.Proofs.Ytnhipfnbnilleaa
open Go.Tan Go.RowKit

theorem shown_ok (G : PM) : Ct Try.prog 8 ([] : List Value).toArray G [] (fun _ μ' u => μ' = [] ∧ u = .bool true) := by
  refine Ct.of Try.func8 rfl Try.ntmps8 rfl fun w0 hs0 => ?_
  refine .seq ?_
  refine Wk.rg [0] rfl rfl ?_
  refine asg rfl .no (.u rfl) ?_
  refine .nil ?_
  refine .code ?_
  refine .seq ?_
  refine Wk.rg [0, 1, 2] rfl rfl ?_
  refine kv rfl .no Fx.go25 Eva.nil (fun _ => opts_ok _) ?_
  refine al rfl Fx.zr25 ?_; intro b1
  refine sw rfl (.u rfl) (.u rfl) rfl Fx.sz25 .here rfl (by decide) ?_
  refine .nil ?_
  refine .code ?_
  refine .seq ?_
  refine Wk.rg [0] rfl rfl ?_
  refine al rfl Fx.zr35 ?_; intro b2
  refine .nil ?_
  refine .code ?_
  refine .seq ?_
  refine Wk.rg [0, 1, 2, 3, 4, 5, 6, 7, 8] rfl rfl ?_
  refine lA rfl .no Fx.ag35 (.u rfl) (fun _ => RdN.own .here) (fun _ => rfl) ?_
  refine lA rfl .no Fx.ag25 (.u rfl) (fun _ => RdN.own (.there .here)) (fun _ => rfl) ?_
  refine kc rfl Fx.go14 (Eva.cons (.u rfl) (Eva.cons (.u rfl) (Eva.cons (.u rfl) Eva.nil))) (Pick_ok State.zero hd0 _ st_zero opts0 0 (by decide) (by decide)) ?_
  rintro v1 G1 μ1 hG1 ⟨rfl, j1, j2, hu1, hJ1⟩
  rw [pick_zero] at hu1 hJ1
  subst hu1
  simp only [lay, List.nil_append]
  refine mv rfl .no (.u rfl) ?_
  refine ex rfl .no (.u rfl) rfl ?_
  refine ex rfl .no (.u rfl) rfl ?_
  refine al rfl Fx.zr39 ?_; intro b3
  refine sw rfl (.u rfl) (.u rfl) rfl Fx.sz39 .here rfl (Job.one _ _ _) ?_
  refine asg rfl .no (.u rfl) ?_
  refine .nil ?_
  refine .code ?_
  refine .seq ?_
  refine Wk.rg [0, 1] rfl rfl ?_
  refine fz rfl .no Fx.fo35_2 (.u rfl) ?_
  refine s1 rfl (.u rfl) (.u rfl) rfl Fx.sz32 (.there .here) (by decide) rfl ?_
  refine .nil ?_
  refine .code ?_
  refine .seq ?_
  refine Wk.rg [0, 1, 2, 3, 4] rfl rfl ?_
  refine bC rfl .no Fx.bp49_3_4_5 (.cons (.u rfl) rfl (.cons (.u rfl) rfl (.cons (.u rfl) rfl .nil))) rfl ?_
  refine Go.Tan.b1 rfl Fx.se30 Fx.zv49 (.u rfl) rfl rfl (by decide) ?_; intro b16
  refine fz rfl .no Fx.fo35_0 (.u rfl) ?_
  refine iA rfl .no Fx.ar31 (.u rfl) (.u rfl) (fun _ => by decide) (fun _ => by decide) ?_
  refine s1 rfl (.u rfl) (.u rfl) rfl Fx.sz30 (.there .here) (by decide) rfl ?_
  refine .nil ?_
  refine we_fz (.there .here) (fun _ h => nomatch h) ?_
  intro Gz hGz hbz
  refine .code ?_
  refine .seq ?_
  refine Wk.rg [0, 1, 2, 3, 4, 5, 6, 7, 8] rfl rfl ?_
  refine lA rfl .no Fx.ag35 (.u rfl) (fun _ => RdN.own .here) (fun _ => rfl) ?_
  refine lA rfl .no Fx.ag25 (.u rfl) (fun _ => RdN.own (.there (.there .here))) (fun _ => rfl) ?_
  refine kc rfl Fx.go14 (Eva.cons (.u rfl) (Eva.cons (.u rfl) (Eva.cons (.u rfl) Eva.nil))) (Pick_ok State.one (hd1 b16) _ (st_one hbz) opts0 0 (by decide) (by decide)) ?_
  rintro v2 G2 μ2 hG2 ⟨rfl, j3, j4, hu2, hJ2⟩
  rw [pick_one] at hu2 hJ2
  subst hu2
  simp only [lay, List.nil_append]
  refine mv rfl .no (.u rfl) ?_
  refine ex rfl .no (.u rfl) rfl ?_
  refine ex rfl .no (.u rfl) rfl ?_
  refine al rfl Fx.zr39 ?_; intro b5
  refine sw rfl (.u rfl) (.u rfl) rfl Fx.sz39 .here rfl (Job.one _ _ _) ?_
  refine asg rfl .no (.u rfl) ?_
  refine .nil ?_
  refine .code ?_
  refine .seq ?_
  refine Wk.rg [0, 1, 2, 3, 4, 5, 6, 7, 8, 9, 10, 11, 12, 13, 14, 15, 16, 17, 18, 19, 20, 21, 22, 23, 24, 25, 26, 27, 28, 29, 30, 31, 32, 33, 34, 35, 36, 37, 38, 39, 40, 41, 42, 43, 44, 45, 46, 47, 48] rfl rfl ?_
  refine mv rfl .no (.u rfl) ?_
  refine nt rfl .no (.u rfl) ?_
  refine mv rfl .no (.u rfl) ?_
  refine mv rfl (.t rfl rfl) (.u rfl) ?_
  refine pkA rfl .no (.u rfl) (.s rfl) ?_
  refine mv rfl .no (.u rfl) ?_
  refine fz rfl (.t rfl rfl) Fx.fo39_0 (.u rfl) ?_
  refine ld rfl (.t rfl rfl) Fx.ag5 (.s rfl) (fun _ => Rd.own .here rfl) ?_
  refine cp rfl (.t rfl rfl) (.s rfl) (.u rfl) rfl ?_
  refine pkA rfl .no (.u rfl) (.s rfl) ?_
  refine mv rfl .no (.u rfl) ?_
  refine fz rfl (.t rfl rfl) Fx.fo39_1 (.u rfl) ?_
  refine ld rfl (.t rfl rfl) Fx.ag3 (.s rfl) (fun _ => Rd.own .here rfl) ?_
  refine cp rfl (.t rfl rfl) (.s rfl) (.u rfl) rfl ?_
  refine pkA rfl .no (.u rfl) (.s rfl) ?_
  refine mv rfl .no (.u rfl) ?_
  refine fz rfl (.t rfl rfl) Fx.fo39_2 (.u rfl) ?_
  refine ld rfl (.t rfl rfl) Fx.ag3 (.s rfl) (fun _ => Rd.own .here rfl) ?_
  refine cp rfl (.t rfl rfl) (.s rfl) (.u rfl) rfl ?_
  refine pkA rfl .no (.u rfl) (.s rfl) ?_
  refine mv rfl .no (.u rfl) ?_
  refine fz rfl (.t rfl rfl) Fx.fo39_3 (.u rfl) ?_
  refine ld rfl (.t rfl rfl) Fx.ag37 (.s rfl) (fun _ => Rd.own .here rfl) ?_
  refine ln rfl (.t rfl rfl) Fx.sn37 (.s rfl) ?_
  refine cp rfl (.t rfl rfl) (.s rfl) (.u rfl) rfl ?_
  refine pkA rfl .no (.u rfl) (.s rfl) ?_
  refine mv rfl .no (.u rfl) ?_
  refine fz rfl (.t rfl rfl) Fx.fo39_3 (.u rfl) ?_
  refine ld rfl (.t rfl rfl) Fx.ag37 (.s rfl) (fun _ => Rd.own .here rfl) ?_
  refine ih rfl (.t rfl rfl) Fx.se37 (.s rfl) (.u rfl) (fun hc => by decide) (fun hc => by decide) (fun hc => hJ2.low.nn (k := 0) (by decide)) ?_
  refine ld rfl (.t rfl rfl) Fx.ag32 (.s rfl) (fun hc => (hJ2.low.ua 0 rfl (by decide)).rd) ?_
  refine cp rfl (.t rfl rfl) (.s rfl) (.u rfl) rfl ?_
  refine pkA rfl .no (.u rfl) (.s rfl) ?_
  refine mv rfl .no (.u rfl) ?_
  refine lA rfl (.t rfl rfl) Fx.ag25 (.u rfl) (fun _ => RdN.own (.there (.there (.there .here)))) (fun _ => rfl) ?_
  refine kv rfl (.t rfl rfl) Fx.go11 (Eva.cons (.s rfl) (Eva.cons (.u rfl) Eva.nil)) (fun hc => limit_ok _ _ _) ?_
  refine cp rfl (.t rfl rfl) (.s rfl) (.u rfl) rfl ?_
  refine pkA rfl .no (.u rfl) (.s rfl) ?_
  refine mv rfl .no (.u rfl) ?_
  refine lA rfl (.t rfl rfl) Fx.ag25 (.u rfl) (fun _ => RdN.own (.there (.there (.there .here)))) (fun _ => rfl) ?_
  refine kv rfl (.t rfl rfl) Fx.go11 (Eva.cons (.s rfl) (Eva.cons (.u rfl) Eva.nil)) (fun hc => limit_ok _ _ _) ?_
  refine cp rfl (.t rfl rfl) (.s rfl) (.u rfl) rfl ?_
  refine pkA rfl .no (.u rfl) (.s rfl) ?_
  refine mv rfl .no (.u rfl) ?_
  refine lA rfl (.t rfl rfl) Fx.ag25 (.u rfl) (fun _ => RdN.own (.there (.there (.there .here)))) (fun _ => rfl) ?_
  refine kv rfl (.t rfl rfl) Fx.go11 (Eva.cons (.s rfl) (Eva.cons (.u rfl) Eva.nil)) (fun hc => limit_ok _ _ _) ?_
  refine cp rfl (.t rfl rfl) (.s rfl) (.u rfl) rfl ?_
  refine pkA rfl .no (.u rfl) (.s rfl) ?_
  refine asg rfl .no (.u rfl) ?_
  refine .nil ?_
  refine .code ?_
  refine .ret ?_
  refine We.fin0 Try.results8 (.tmp rfl .nil) ?_
  exact ⟨rfl, by rfl⟩

theorem PickLimits_ok (G : PM) (o : Opts) (level : Int) : Ct Try.prog 3 ([o.val, .int .i64 level] : List Value).toArray G [] (fun _ μ' u => μ' = [] ∧ u = .bool true) := by
  refine Ct.of Try.func3 rfl Try.ntmps3 rfl fun w0 hs0 => ?_
  refine .seq ?_
  refine Wk.rg [0, 1] rfl rfl ?_
  refine bx rfl (.u rfl) rfl ?_; intro b2
  refine asg rfl .no (.u rfl) ?_
  refine .nil ?_
  refine .code ?_
  refine .seq ?_
  refine Wk.draw (mc := false) [0, 1, 2, 4, 3, 5, 6, 7, 8, 9, 10, 12, 13, 11, 14, 15, 16, 17] Fx.mix (by kernel_rfl) ?_
  refine kv rfl .no Fx.go8 Eva.nil (fun _ => shown_ok _) ?_
  refine mv rfl .no (.u rfl) ?_
  refine lA rfl (.t rfl rfl) Fx.ag25 (.u rfl) (fun _ => RdN.own .here) (fun _ => rfl) ?_
  refine lA rfl (.t rfl rfl) Fx.ag25 (.u rfl) (fun _ => RdN.own .here) (fun _ => rfl) ?_
  refine kv rfl (.t rfl rfl) Fx.go9 (Eva.cons (.s rfl) Eva.nil) (fun hc => right_ok _ _) ?_
  refine kv rfl (.t rfl rfl) Fx.go10 (Eva.cons (.s rfl) Eva.nil) (fun hc => rright_ok _ _) ?_
  refine eb rfl (.t rfl rfl) Fx.bt4 (.s rfl) (.s rfl) ?_
  refine pkA rfl .no (.u rfl) (.s rfl) ?_
  refine mv rfl .no (.u rfl) ?_
  refine lA rfl (.t rfl rfl) Fx.ag25 (.u rfl) (fun _ => RdN.own .here) (fun _ => rfl) ?_
  refine mv rfl (.t rfl rfl) (.u rfl) ?_
  refine lA rfl (.t rfl rfl) Fx.ag25 (.u rfl) (fun _ => RdN.own .here) (fun _ => rfl) ?_
  refine mv rfl (.t rfl rfl) (.u rfl) ?_
  refine kv rfl (.t rfl rfl) Fx.go11 (Eva.cons (.s rfl) (Eva.cons (.s rfl) Eva.nil)) (fun hc => limit_ok _ _ _) ?_
  refine kv rfl (.t rfl rfl) Fx.go12 (Eva.cons (.s rfl) (Eva.cons (.s rfl) Eva.nil)) (fun hc => rlimit_ok _ _ _) ?_
  refine cp rfl (.t rfl rfl) (.s rfl) (.s rfl) rfl ?_
  refine pkA rfl .no (.u rfl) (.s rfl) ?_
  refine asg rfl .no (.u rfl) ?_
  refine .nil ?_
  refine .code ?_
  refine .ret ?_
  refine We.fin0 Try.results3 (.tmp rfl .nil) ?_
  exact ⟨rfl, by simp [tup]⟩

theorem PickFulls_ok (s : State) (hd : Nat → Sh) (G : PM) (hs : StR G s hd) (o : Opts) (level : Int) : Ct Try.prog 6 ([s.val hd, o.val, .int .i64 level] : List Value).toArray G [] (fun _ μ' u => μ' = [] ∧ u = .bool true) := by
  refine Ct.of Try.func6 rfl Try.ntmps6 rfl fun w0 hs0 => ?_
  refine .seq ?_
  refine Wk.rg [0, 1, 2] rfl rfl ?_
  refine bx rfl (.u rfl) rfl ?_; intro b3
  refine bx rfl (.u rfl) rfl ?_; intro b4
  refine asg rfl .no (.u rfl) ?_
  refine .nil ?_
  refine .code ?_
  refine .seq ?_
  refine Wk.rg [0, 1] rfl rfl ?_
  refine kv rfl .no Fx.go8 Eva.nil (fun _ => shown_ok _) ?_
  refine asg rfl .no (.u rfl) ?_
  refine .nil ?_
  refine .code ?_
  refine .seq ?_
  refine .seq ?_
  refine Wk.rg [0, 1, 2] rfl rfl ?_
  refine lA rfl .no Fx.ag35 (.u rfl) (fun _ => RdN.own (.there .here)) (fun _ => rfl) ?_
  refine kv rfl .no Fx.go13 (Eva.cons (.u rfl) Eva.nil) (fun _ => light_ok _ _ _ (by assumption)) ?_
  refine nt rfl .no (.u rfl) ?_
  refine .nil ?_
  refine .code ?_
  refine .cond rfl (fun c1 => ?_) (fun c1 => ?_)
  · have c1k := c1
    try simp only [decide_eq_false_iff_not, Int.not_le, Bool.not_eq_true'] at c1
    refine .seq ?_
    refine Wk.rg [0, 1] rfl rfl ?_
    refine mv rfl .no (.u rfl) ?_
    refine asg rfl .no (.u rfl) ?_
    refine .nil ?_
    refine .code ?_
    refine .ret ?_
    refine We.fin0 Try.results6 (.tmp rfl .nil) ?_
    exact ⟨rfl, rfl⟩
  · have c1k := c1
    try simp only [decide_eq_true_eq, Bool.not_eq_false'] at c1
    refine .skip ?_
    refine .code ?_
    refine .seq ?_
    refine Wk.draw (mc := false) [0, 1, 2, 3, 4, 6, 7, 8, 5, 9, 10, 11, 12, 13, 14, 16, 17, 15, 18, 19, 20, 21] Fx.mix (by kernel_rfl) ?_
    refine mv rfl .no (.u rfl) ?_
    refine mv rfl .no (.u rfl) ?_
    refine lA rfl (.t rfl rfl) Fx.ag35 (.u rfl) (fun _ => RdN.own (.there .here)) (fun _ => rfl) ?_
    refine lA rfl (.t rfl rfl) Fx.ag25 (.u rfl) (fun _ => RdN.own .here) (fun _ => rfl) ?_
    refine mv rfl (.t rfl rfl) (.u rfl) ?_
    refine lA rfl (.t rfl rfl) Fx.ag35 (.u rfl) (fun _ => RdN.own (.there .here)) (fun _ => rfl) ?_
    refine lA rfl (.t rfl rfl) Fx.ag25 (.u rfl) (fun _ => RdN.own .here) (fun _ => rfl) ?_
    refine mv rfl (.t rfl rfl) (.u rfl) ?_
    refine kv rfl (.t rfl rfl) Fx.go20 (Eva.cons (.s rfl) (Eva.cons (.s rfl) (Eva.cons (.s rfl) Eva.nil))) (fun hc => Full_ok _ _ _ (by assumption) _ _) ?_
    refine kv rfl (.t rfl rfl) Fx.go21 (Eva.cons (.s rfl) (Eva.cons (.s rfl) (Eva.cons (.s rfl) Eva.nil))) (fun hc => rFull_ok _ _ _ (by assumption) _ _) ?_
    refine eb rfl (.t rfl rfl) Fx.bt4 (.s rfl) (.s rfl) ?_
    refine pkA rfl .no (.u rfl) (.s rfl) ?_
    refine mv rfl .no (.u rfl) ?_
    refine lA rfl (.t rfl rfl) Fx.ag35 (.u rfl) (fun _ => RdN.own (.there .here)) (fun _ => rfl) ?_
    refine mv rfl (.t rfl rfl) (.u rfl) ?_
    refine lA rfl (.t rfl rfl) Fx.ag35 (.u rfl) (fun _ => RdN.own (.there .here)) (fun _ => rfl) ?_
    refine mv rfl (.t rfl rfl) (.u rfl) ?_
    refine kv rfl (.t rfl rfl) Fx.go22 (Eva.cons (.s rfl) (Eva.cons (.s rfl) Eva.nil)) (fun hc => Old_ok _ _ _ (by assumption) _) ?_
    refine kv rfl (.t rfl rfl) Fx.go23 (Eva.cons (.s rfl) (Eva.cons (.s rfl) Eva.nil)) (fun hc => rOld_ok _ _ _ (by assumption) _) ?_
    refine eb rfl (.t rfl rfl) Fx.bt4 (.s rfl) (.s rfl) ?_
    refine pkA rfl .no (.u rfl) (.s rfl) ?_
    refine asg rfl .no (.u rfl) ?_
    refine .nil ?_
    refine .code ?_
    refine .ret ?_
    refine We.fin0 Try.results6 (.tmp rfl .nil) ?_
    exact ⟨rfl, by simp [tup]⟩

end Go.Proofs.Ytnhipfnbnilleaa
