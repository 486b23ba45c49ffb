/- Contracts of functions, walked. -/
import Derived.Test.YtoogjfldgeiapaaDoorWalG
namespace Go.Proofs.YtoogjfldgeiapaaDoor
set_option linter.unusedSimpArgs false
set_option linter.unusedVariables false
open Go.Tan Go.RowKit

namespace FxWalH
theorem go22 : goFn Tryd.prog 22 = true := by kernel_rfl
end FxWalH
namespace Fx
theorem ag47 : aggN Tryd.prog 47 = some (some 37) := by kernel_rfl
theorem go29 : goFn Tryd.prog 29 = true := by kernel_rfl
theorem go28 : goFn Tryd.prog 28 = true := by kernel_rfl
theorem go31 : goFn Tryd.prog 31 = true := by kernel_rfl
end Fx
theorem log_small {root : Nat → Y} {h : Hd} : ∀ (rs : List (List Y)), (∀ p ∈ rs, p.length ≤ 20000) → ∀ i, (bodyL (sealAt root h) i rs).length ≤ 30000 * rs.length
  | [], _, _ => Nat.zero_le _
  | p :: rs, hb, i => by
    have h1 := log_small (root := root) (h := h) rs (fun q hq => hb q (List.mem_cons_of_mem _ hq)) (i + 1)
    have h2 := hb p (List.mem_cons_self ..)
    have h3 := rec_len (sealAt root h i p)
    rw [sealAt, seal_len] at h3
    rw [bodyL, List.length_append, List.length_cons]
    unfold sealAt at h1 ⊢
    omega
theorem log_le {root : Nat → Y} {h : Hd} {ps : List (Sh × List Y)} (hb : ∀ p ∈ ps, p.2.length ≤ 20000) (hn : ps.length ≤ 41) : (logL root h (ps.map (·.2))).length ≤ 2000000 := by
  have h1 := log_small (root := root) (h := h) (ps.map (·.2)) (fun q hq => by obtain ⟨p, hp, rfl⟩ := List.mem_map.1 hq; exact hb p hp) 0
  rw [List.length_map] at h1
  rw [logL, List.length_append, head_len]; omega
theorem wRead_o (root : Nat → Y) (xs : List Y) (hx : Sh) (G : PM) (hs : SlR G 1 encY hx xs) (hK : RdNP G 1 0 (wa 64 kW)) (hm : xs.length ≤ 100000000) : Ct Tryd.prog 25 ([.agg (ba 32 root).toArray, hx.val xs.length] : List Value).toArray G [] (fun G' μ' u => ∃ RP s ps, RP = readP root xs ∧ SlP G' s ps ∧ ps.map (·.2) = RP.1.recs ∧ μ' = [] ∧ u = .tuple #[.agg ([V RP.1.hd.kind, V RP.1.hd.level, uv .u64 RP.1.hd.gen, uv .u64 RP.1.hd.epoch, uv .u64 RP.1.hd.num, (s.val ps.length), .int .i64 (RP.1.used : Int), .bool RP.1.torn] : List Value).toArray, .int .i64 RP.2]) :=
  (wRead_ok root xs hx G hs hK hm).mono fun G' μ' u ⟨s, ps, h1, h2, h3, h4⟩ => ⟨readP root xs, s, ps, rfl, h1, h2, h3, h4⟩
theorem WalBack_ok (root : Nat → Y) (h : Hd) (ps : List (Sh × List Y)) (hl : Sh) (G : PM) (hs : SlP G hl ps) (hK : RdNP G 1 0 (wa 64 kW)) (hb : ps.length ≤ 1000000000000000) : Ct Tryd.prog 11 ([.agg (ba 32 root ++ [V h.kind, V h.level, uv .u64 h.gen, uv .u64 h.epoch, uv .u64 h.num]).toArray, hl.val ps.length] : List Value).toArray G [] (fun _ μ' u => μ' = [] ∧ u = .bool true) := by
  refine Ct.of Tryd.func11 rfl Tryd.ntmps11 rfl fun w0 hs0 => ?_
  have hF := hs.tk (fewN 20000 0 (ps.map (·.2)))
  have hFb := few_short ps
  have hFn := few_count ps
  have hLl := log_le (root := root) (h := h) hFb (by omega)
  have hE := log_back (root := root) (h := h) ((fewL ps).map (·.2))
  refine .seq ?_
  refine Wk.rg [0, 1] rfl rfl ?_
  refine bx rfl (.u rfl) rfl ?_; intro b2
  refine asg rfl .no (.u rfl) ?_
  refine .nil ?_
  refine .code ?_
  refine .seq ?_
  refine Wk.rg [0, 1] rfl rfl ?_
  refine kv rfl .no FxWalH.go22 Eva.nil (fun _ => shown16_ok _ hK) ?_
  refine asg rfl .no (.u rfl) ?_
  refine .nil ?_
  refine .code ?_
  refine .seq ?_
  refine Wk.draw (mc := ⟨false, false⟩) [0, 1, 2, 3, 4, 5, 6, 7, 8, 9, 10] Fx.mix (by kernel_rfl) ?_
  refine lA rfl .no Fx.ag47 (.u rfl) (fun _ => RdN.own .here) (fun _ => (by first | exact (ba_len _ _).trans (ba_len _ _).symm | exact (wa_len _ _).trans (wa_len _ _).symm | exact ba_len _ _ | exact wa_len _ _ | rfl | (simp only [wa_len, ba_len, List.length_append, List.length_cons, List.length_nil]))) ?_
  refine mv rfl .no (.u rfl) ?_
  refine kv rfl .no Fx.go29 (Eva.cons (.u rfl) Eva.nil) (fun _ => few16_ok ps hl _ hs hb) ?_
  refine kc rfl Fx.go28 (Eva.cons (.u rfl) (Eva.cons (.u rfl) Eva.nil)) (laid16_ok root h (fewL ps) hl _ hF hK (by omega) hFb) ?_
  rintro _ G16 μ16 hG16 ⟨v16, B, ve16, es, eB, eE, rfl, rfl⟩
  have hs := hs.mono hG16
  have hK := hK.mono hG16
  have hF := hF.mono hG16
  refine mv rfl .no (.u rfl) ?_
  refine ex rfl .no (.u rfl) rfl ?_
  refine ex rfl .no (.u rfl) rfl ?_
  refine ex rfl .no (.u rfl) rfl ?_
  refine asg rfl .no (.u rfl) ?_
  refine asg rfl .no (.u rfl) ?_
  refine asg rfl .no (.u rfl) ?_
  refine .nil ?_
  rw [← eB] at hLl hE
  refine .code ?_
  refine .seq ?_
  refine .seq ?_
  refine Wk.rg [0, 1] rfl rfl ?_
  refine mv rfl .no (.u rfl) ?_
  refine nt rfl .no (.u rfl) ?_
  refine .nil ?_
  refine .code ?_
  refine Wk.condF rfl rfl ?_
  refine .skip ?_
  refine .code ?_
  refine .seq ?_
  refine wk_fb .here (by first | (intro b hb; cases hb; done) | simp [keys, Res.keys]) ?_; intro GfRB hRB hleRB evRB hsRB; subst evRB
  have hs := hs.mono hleRB
  have hK := hK.mono hleRB
  have hF := hF.mono hleRB
  refine Wk.rg [0, 1, 2, 3, 4, 5, 6, 7, 8, 9] rfl rfl ?_
  refine fz rfl .no FxWalG.fo47_0 (.u rfl) ?_
  refine lA rfl .no Fx.ag42 (.u rfl) (fun _ => RdN.part (n := 32) (cs' := ba 32 root) (.there .here) (app_l)) (fun _ => (by first | exact (ba_len _ _).trans (ba_len _ _).symm | exact (wa_len _ _).trans (wa_len _ _).symm | exact ba_len _ _ | exact wa_len _ _ | rfl | (simp only [wa_len, ba_len, List.length_append, List.length_cons, List.length_nil]))) ?_
  refine mv rfl .no (.u rfl) ?_
  refine kc rfl Fx.go25 (Eva.cons (.u rfl) (Eva.cons (.u rfl) Eva.nil)) (wRead_o root B hRB _ hsRB hK (by omega)) ?_
  rintro _ G26 μ26 hG26 ⟨RP26, sR26, pR26, eR26, hP26, eP26, rfl, rfl⟩
  have hs := hs.mono hG26
  have hK := hK.mono hG26
  have hF := hF.mono hG26
  have hsRB := hsRB.mono hG26
  refine mv rfl .no (.u rfl) ?_
  refine ex rfl .no (.u rfl) rfl ?_
  refine ex rfl .no (.u rfl) rfl ?_
  refine al rfl Fx.zr52 ?_; intro b9
  refine sw rfl (.u rfl) (.u rfl) rfl Fx.sz52 .here (by first | exact (ba_len _ _).trans (ba_len _ _).symm | exact (wa_len _ _).trans (wa_len _ _).symm | exact ba_len _ _ | exact wa_len _ _ | rfl | (simp only [wa_len, ba_len, List.length_append, List.length_cons, List.length_nil])) (one8 rfl rfl rfl rfl rfl rfl rfl rfl) ?_
  refine asg rfl .no (.u rfl) ?_
  refine .nil ?_
  refine .code ?_
  refine .seq ?_
  refine .seq ?_
  refine Wk.rg [0, 1, 2, 3] rfl rfl ?_
  refine fz rfl .no FxWalG.fo47_1 (.u rfl) ?_
  refine lA rfl .no Fx.ag45 (.u rfl) (fun _ => RdN.part (n := 5) (cs' := [V h.kind, V h.level, uv .u64 h.gen, uv .u64 h.epoch, uv .u64 h.num]) (.there (.there .here)) (of_r rfl)) (fun _ => rfl) ?_
  refine kv rfl .no Fx.go30 (Eva.cons (.u rfl) Eva.nil) (fun _ => nRight_ok h _) ?_
  refine nt rfl .no (.u rfl) ?_
  refine .nil ?_
  refine .code ?_
  refine .cond rfl (fun c1 => ?_) (fun c1 => ?_)
  · have c1k := c1
    try simp only [decide_eq_true_eq, decide_eq_false_iff_not, Int.not_lt, Int.not_le, gt_iff_lt, ge_iff_le, Bool.or_eq_true, Bool.and_eq_true, Bool.or_eq_false_iff, Bool.and_eq_false_iff, Bool.not_eq_true', Bool.not_eq_false', Int.toNat_natCast, bne_iff_ne, beq_iff_eq, bne_eq_false_iff_eq, beq_eq_false_iff_ne, ne_eq] at c1
    refine .seq ?_
    refine Wk.rg [0, 1, 2, 3, 4, 5] rfl rfl ?_
    refine mv rfl .no (.u rfl) ?_
    refine mv rfl .no (.u rfl) ?_
    refine mv rfl (.t rfl rfl) (.u rfl) ?_
    refine cp rfl (.t rfl rfl) (.s rfl) (.u rfl) rfl ?_
    refine pkA rfl .no (.u rfl) (.s rfl) ?_
    refine asg rfl .no (.u rfl) ?_
    refine .nil ?_
    refine .code ?_
    refine .ret ?_
    refine We.fin0 Tryd.results11 (.tmp rfl .nil) ?_
    refine ⟨rfl, congrArg Value.bool ?_⟩
    rw [eR26, eB, log_wrong _ c1]; rfl
  · have c1k := c1
    try simp only [decide_eq_true_eq, decide_eq_false_iff_not, Int.not_lt, Int.not_le, gt_iff_lt, ge_iff_le, Bool.or_eq_true, Bool.and_eq_true, Bool.or_eq_false_iff, Bool.and_eq_false_iff, Bool.not_eq_true', Bool.not_eq_false', Int.toNat_natCast, bne_iff_ne, beq_iff_eq, bne_eq_false_iff_eq, beq_eq_false_iff_ne, ne_eq] at c1
    have eR26 := eR26.trans (hE c1)
    refine .skip ?_
    refine .code ?_
    refine .seq ?_
    refine Wk.draw (mc := ⟨false, false⟩) [0, 1, 2, 3, 4, 5, 6, 7, 8, 10, 9, 11, 12, 13, 14, 15, 16, 17, 18, 19, 20, 21, 22, 23, 24, 25, 26, 27] Fx.mix (by kernel_rfl) ?_
    refine mv rfl .no (.u rfl) ?_
    refine mv rfl .no (.u rfl) ?_
    refine mv rfl (.t rfl rfl) (.u rfl) ?_
    refine cp rfl (.t rfl rfl) (.u rfl) (.u rfl) rfl ?_
    refine pkA rfl .no (.u rfl) (.u rfl) ?_
    refine wo_b true (by rw [eR26]; rfl) ?_
    refine mv rfl .no (.u rfl) ?_
    refine lA rfl (.t rfl rfl) Fx.ag52 (.u rfl) (fun _ => RdN.own .here) (fun _ => (by first | exact (ba_len _ _).trans (ba_len _ _).symm | exact (wa_len _ _).trans (wa_len _ _).symm | exact ba_len _ _ | exact wa_len _ _ | rfl | (simp only [wa_len, ba_len, List.length_append, List.length_cons, List.length_nil]))) ?_
    refine lA rfl (.t rfl rfl) Fx.ag47 (.u rfl) (fun _ => RdN.own (.there (.there .here))) (fun _ => (by first | exact (ba_len _ _).trans (ba_len _ _).symm | exact (wa_len _ _).trans (wa_len _ _).symm | exact ba_len _ _ | exact wa_len _ _ | rfl | (simp only [wa_len, ba_len, List.length_append, List.length_cons, List.length_nil]))) ?_
    refine mv rfl (.t rfl rfl) (.u rfl) ?_
    refine mv rfl (.t rfl rfl) (.u rfl) ?_
    refine kv rfl (.t rfl rfl) Fx.go29 (Eva.cons (.u rfl) Eva.nil) (fun _ => few16_ok ps hl _ hs hb) ?_
    refine kv rfl (.t rfl rfl) Fx.go29 (Eva.cons (.u rfl) Eva.nil) (fun _ => few16_ok ps hl _ hs hb) ?_
    refine ln rfl (.t rfl rfl) Fx.sn50 (.u rfl) ?_
    refine kv rfl (.t rfl rfl) Fx.go31 (Eva.cons (.u rfl) (Eva.cons (.u rfl) (Eva.cons (.u rfl) (Eva.cons (.u rfl) Eva.nil)))) (fun _ => told16_ok _ _ pR26 _ _ root h hl (fewL ps) (fewL ps).length _ hP26 hF (by rw [← List.length_map (f := (·.2)), eP26, eR26]; simp; omega)) ?_
    refine pkA rfl .no (.u rfl) (.u rfl) ?_
    refine wo_b true (by rw [eP26, eR26]; exact told_back (by rw [List.length_map])) ?_
    refine mv rfl .no (.u rfl) ?_
    refine fz rfl (.t rfl rfl) Fx.fo52_2 (.u rfl) ?_
    refine ld rfl (.t rfl rfl) Fx.ag3 (.u rfl) (fun _ => Rd.own .here (by first | exact wap_f rfl | rfl)) ?_
    refine mv rfl (.t rfl rfl) (.u rfl) ?_
    refine ln rfl (.t rfl rfl) Fx.sn27 (.u rfl) ?_
    refine cp rfl (.t rfl rfl) (.u rfl) (.u rfl) rfl ?_
    refine pkA rfl .no (.u rfl) (.u rfl) ?_
    refine wo_b true (by rw [eR26]; simp) ?_
    refine mv rfl .no (.u rfl) ?_
    refine fz rfl (.t rfl rfl) Fx.fo52_3 (.u rfl) ?_
    refine ld rfl (.t rfl rfl) Fx.ag4 (.u rfl) (fun _ => Rd.own .here (by first | exact wap_f rfl | rfl)) ?_
    refine nt rfl (.t rfl rfl) (.u rfl) ?_
    refine pkA rfl .no (.u rfl) (.u rfl) ?_
    refine wo_b true (by rw [eR26]; rfl) ?_
    refine asg rfl .no (.u rfl) ?_
    refine .nil ?_
    refine .code ?_
    refine .ret ?_
    refine We.fin0 Tryd.results11 (.tmp rfl .nil) ?_
    exact ⟨rfl, rfl⟩

end Go.Proofs.YtoogjfldgeiapaaDoor
