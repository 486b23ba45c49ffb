/- Contracts of functions, walked. -/
import Derived.Test.YtoogjfldgeiapaaDoorWalK
namespace Go.Proofs.YtoogjfldgeiapaaDoor
set_option linter.unusedSimpArgs false
set_option linter.unusedVariables false
open Go.Tan Go.RowKit

namespace FxWalL
theorem fo52_0 : fOff Tryd.prog 52 0 = some 0 := by kernel_rfl
theorem eqt45 : eqT Tryd.prog 4 45 ([.int .u8, .int .u8, .int .u64, .int .u64, .int .u64]) = true := by kernel_rfl
theorem go22 : goFn Tryd.prog 22 = true := by kernel_rfl
end FxWalL
namespace Fx
theorem go49 : goFn Tryd.prog 49 = true := by kernel_rfl
theorem go50 : goFn Tryd.prog 50 = true := by kernel_rfl
theorem go26 : goFn Tryd.prog 26 = true := by kernel_rfl
theorem go27 : goFn Tryd.prog 27 = true := by kernel_rfl
end Fx
theorem drop_at {xs : List Y} {a i : Nat} : (xs.drop a).getD i 0 = xs.getD (a + i) 0 := drop_getD xs a i
theorem piece_at (xs : List Y) (a : Nat) : pieceN (xs.drop a) = (xs.getD (a + 4) 0).toNat + 256 * (xs.getD (a + 5) 0).toNat := by unfold pieceN; rw [drop_getD, drop_getD]
theorem text_at {xs L : List Y} {a n : Nat} (e : L = (xs.drop (a + 7)).take (a + 7 + n - (a + 7))) : L = ((xs.drop a).drop 7).take n := by rw [e, List.drop_drop]; congr 1; omega
theorem whole_at {xs L : List Y} {a n : Nat} (e : L = (xs.drop a).take (a + 7 + n - a)) : L = (xs.drop a).take 7 ++ ((xs.drop a).drop 7).take n := by rw [e, show a + 7 + n - a = 7 + n by omega, List.take_add]
theorem frame_same {k : Y} {p A B L : List Y} (hA : A.length = 7) (e1 : L = A ++ B) (eB : B = p) : frameL k p ++ p = L ↔ frameL k p = A := by
  subst eB; subst e1
  constructor
  · intro h; exact (List.append_inj h (by rw [frame_len, hA])).1
  · intro h; rw [h]
theorem begun_next {Q p : List Y} (h : 0 < p.length) : (!(Q ++ p).isEmpty) = true := by
  cases hq : Q ++ p with
  | nil => have := congrArg List.length hq; rw [List.length_append, List.length_nil] at this; omega
  | cons a l => rfl
theorem rRead_ok (root : Nat → Y) (xs : List Y) (hx : Sh) (G : PM) (hs : SlR G 1 encY hx xs) (hR : RdNP G 0 0 (wa 64 kW)) (hm : xs.length ≤ 100000000) : Ct Tryd.prog 26 ([.agg (ba 32 root).toArray, hx.val xs.length] : List Value).toArray G [] (fun G' μ' u => ∃ s ps, SlP G' s ps ∧ ps.map (·.2) = (readP root xs).1.recs ∧ μ' = [] ∧ u = .tuple #[.agg ([V (readP root xs).1.hd.kind, V (readP root xs).1.hd.level, uv .u64 (readP root xs).1.hd.gen, uv .u64 (readP root xs).1.hd.epoch, uv .u64 (readP root xs).1.hd.num, (s.val ps.length), .int .i64 ((readP root xs).1.used : Int), .bool (readP root xs).1.torn] : List Value).toArray, .int .i64 (readP root xs).2]) := by
  refine Ct.of Tryd.func26 rfl Tryd.ntmps26 rfl fun w0 hs0 => ?_
  refine .seq ?_
  refine Wk.rg [0, 1, 2] rfl rfl ?_
  refine bx rfl (.u rfl) rfl ?_; intro b2
  refine al rfl Fx.zr52 ?_; intro b4
  refine asg rfl .no (.u rfl) ?_
  refine .nil ?_
  refine .code ?_
  refine .seq ?_
  refine .seq ?_
  refine Wk.rg [0, 1, 2] rfl rfl ?_
  refine mv rfl .no (.u rfl) ?_
  refine ln rfl .no Fx.sn27 (.u rfl) ?_
  refine cp rfl .no (.u rfl) (.u rfl) rfl ?_
  refine .nil ?_
  refine .code ?_
  refine .cond rfl (fun c1 => ?_) (fun c1 => ?_)
  · have c1k := c1
    try simp only [decide_eq_true_eq, decide_eq_false_iff_not, Int.not_lt, Int.not_le, gt_iff_lt, ge_iff_le, Bool.or_eq_true, Bool.and_eq_true, Bool.or_eq_false_iff, Bool.and_eq_false_iff, Bool.not_eq_true', Bool.not_eq_false', Int.toNat_natCast, bne_iff_ne, beq_iff_eq, bne_eq_false_iff_eq, beq_eq_false_iff_ne, ne_eq] at c1
    refine .seq ?_
    refine Wk.rg [0, 1, 2] rfl rfl ?_
    refine bC rfl .no Fx.bp52_3 (.cons (.u rfl) rfl .nil) rfl ?_
    refine sw rfl (.u rfl) (.u rfl) rfl Fx.sz52 .here (by first | exact (key_len _ _).trans (key_len _ _).symm | exact key_len _ _ | exact ba_len _ _ | rfl) (one8 rfl rfl rfl rfl rfl rfl rfl rfl) ?_
    refine asg rfl .no (.u rfl) ?_
    refine .nil ?_
    refine .code ?_
    refine .ret ?_
    refine We.fin0 Tryd.results26 (.cell rfl (fun w hw => run_loadVarN Fx.ag52 (RdN.own .here) ((by first | exact (key_len _ _).trans (key_len _ _).symm | exact key_len _ _ | exact ba_len _ _ | rfl)) hw) (.tmp rfl .nil)) ?_
    refine ⟨⟨none, 0⟩, [], SlP.nul, by rw [read_short (by omega)]; rfl, rfl, ?_⟩
    rw [read_short (by omega)]; rfl
  · have c1k := c1
    try simp only [decide_eq_true_eq, decide_eq_false_iff_not, Int.not_lt, Int.not_le, gt_iff_lt, ge_iff_le, Bool.or_eq_true, Bool.and_eq_true, Bool.or_eq_false_iff, Bool.and_eq_false_iff, Bool.not_eq_true', Bool.not_eq_false', Int.toNat_natCast, bne_iff_ne, beq_iff_eq, bne_eq_false_iff_eq, beq_eq_false_iff_ne, ne_eq] at c1
    refine .skip ?_
    refine .code ?_
    refine .seq ?_
    refine Wk.rg [0, 1, 2, 3, 4, 5, 6, 7] rfl rfl ?_
    refine mv rfl .no (.u rfl) ?_
    refine kv rfl .no Fx.go49 (Eva.cons (.u rfl) Eva.nil) (fun _ => rTake_ok xs hx _ hs (by omega)) ?_
    refine mv rfl .no (.u rfl) ?_
    refine ex rfl .no (.u rfl) rfl ?_
    refine ex rfl .no (.u rfl) rfl ?_
    refine al rfl Fx.zr45 ?_; intro b6
    refine sw rfl (.u rfl) (.u rfl) rfl Fx.sz45 .here (by first | exact (key_len _ _).trans (key_len _ _).symm | exact key_len _ _ | exact ba_len _ _ | rfl) (one5 rfl rfl rfl rfl rfl) ?_
    refine asg rfl .no (.u rfl) ?_
    refine .nil ?_
    refine .code ?_
    refine .seq ?_
    refine .seq ?_
    refine Wk.rg [0, 1] rfl rfl ?_
    refine mv rfl .no (.u rfl) ?_
    refine cp rfl .no (.u rfl) (.u rfl) rfl ?_
    refine .nil ?_
    refine .code ?_
    refine .cond rfl (fun c2 => ?_) (fun c2 => ?_)
    · have c2k := c2
      try simp only [decide_eq_true_eq, decide_eq_false_iff_not, Int.not_lt, Int.not_le, gt_iff_lt, ge_iff_le, Bool.or_eq_true, Bool.and_eq_true, Bool.or_eq_false_iff, Bool.and_eq_false_iff, Bool.not_eq_true', Bool.not_eq_false', Int.toNat_natCast, bne_iff_ne, beq_iff_eq, bne_eq_false_iff_eq, beq_eq_false_iff_ne, ne_eq] at c2
      refine .seq ?_
      refine Wk.rg [0, 1, 2, 3] rfl rfl ?_
      refine bC rfl .no Fx.bp52_ .nil rfl ?_
      refine mv rfl .no (.u rfl) ?_
      refine sw rfl (.u rfl) (.u rfl) rfl Fx.sz52 (.there .here) (by first | exact (key_len _ _).trans (key_len _ _).symm | exact key_len _ _ | exact ba_len _ _ | rfl) (one8 rfl rfl rfl rfl rfl rfl rfl rfl) ?_
      refine asg rfl .no (.u rfl) ?_
      refine .nil ?_
      refine .code ?_
      refine .ret ?_
      refine We.fin0 Tryd.results26 (.cell rfl (fun w hw => run_loadVarN Fx.ag52 (RdN.own .here) ((by first | exact (key_len _ _).trans (key_len _ _).symm | exact key_len _ _ | exact ba_len _ _ | rfl)) hw) (.tmp rfl .nil)) ?_
      refine ⟨⟨none, 0⟩, [], SlP.nul, by rw [read_head (by omega) c2]; rfl, rfl, ?_⟩
      rw [read_head (by omega) c2]; rfl
    · have c2k := c2
      try simp only [decide_eq_true_eq, decide_eq_false_iff_not, Int.not_lt, Int.not_le, gt_iff_lt, ge_iff_le, Bool.or_eq_true, Bool.and_eq_true, Bool.or_eq_false_iff, Bool.and_eq_false_iff, Bool.not_eq_true', Bool.not_eq_false', Int.toNat_natCast, bne_iff_ne, beq_iff_eq, bne_eq_false_iff_eq, beq_eq_false_iff_ne, ne_eq] at c2
      refine .skip ?_
      refine .code ?_
      refine .seq ?_
      refine Wk.rg [0, 1, 2, 3, 4] rfl rfl ?_
      refine lA rfl .no Fx.ag42 (.u rfl) (fun _ => RdN.own (.there (.there .here))) (fun _ => (by first | exact (key_len _ _).trans (key_len _ _).symm | exact key_len _ _ | exact ba_len _ _ | rfl)) ?_
      refine lA rfl .no Fx.ag45 (.u rfl) (fun _ => RdN.own .here) (fun _ => (by first | exact (key_len _ _).trans (key_len _ _).symm | exact key_len _ _ | exact ba_len _ _ | rfl)) ?_
      refine kv rfl .no Fx.go42 (Eva.cons (.u rfl) (Eva.cons (.u rfl) Eva.nil)) (fun _ => rKeyOf_ok root (takeH xs).1 _ hR) ?_
      refine al rfl Fx.zr24 ?_; intro b8
      refine sw rfl (.u rfl) (.u rfl) rfl Fx.sz24 .here (by first | exact (key_len _ _).trans (key_len _ _).symm | exact key_len _ _ | exact ba_len _ _ | rfl) (key_one _ _) ?_
      refine .nil ?_
      refine .code ?_
      refine .seq ?_
      refine Wk.rg [0, 1, 2, 3] rfl rfl ?_
      refine lA rfl .no Fx.ag45 (.u rfl) (fun _ => RdN.own (.there .here)) (fun _ => (by first | exact (key_len _ _).trans (key_len _ _).symm | exact key_len _ _ | exact ba_len _ _ | rfl)) ?_
      refine bCe ([V (takeH xs).1.kind, V (takeH xs).1.level, uv .u64 (takeH xs).1.gen, uv .u64 (takeH xs).1.epoch, uv .u64 (takeH xs).1.num, .slice none 0 0, .int .i64 30, .bool false]) rfl .no Fx.bp52_0_2 (.cons (.u rfl) rfl (.cons (.u rfl) rfl .nil)) rfl (rfl) ?_
      refine al rfl Fx.zr52 ?_; intro b9
      refine sw rfl (.u rfl) (.u rfl) rfl Fx.sz52 .here (by first | exact (key_len _ _).trans (key_len _ _).symm | exact key_len _ _ | exact ba_len _ _ | rfl) (one8 rfl rfl rfl rfl rfl rfl rfl rfl) ?_
      refine .nil ?_
      refine .code ?_
      refine .seq ?_
      refine Wk.rg [0] rfl rfl ?_
      refine asg rfl .no (.u rfl) ?_
      refine .nil ?_
      refine .code ?_
      refine .seq ?_
      refine Wk.rg [0] rfl rfl ?_
      refine asg rfl .no (.u rfl) ?_
      refine .nil ?_
      refine .code ?_
      refine .seq ?_
      refine wk_nilB 5 ?_
      refine wk_nilS 1 encP 27 ?_
      refine Wk.rg [0] rfl rfl ?_
      refine asg rfl .no (.u rfl) ?_
      refine .nil ?_
      refine .code ?_
      refine .seq ?_
      refine .block ?_
      refine Wk.lop (α := Nat × Value × List Y × List (Sh × List Y) × Value × Nat) (fun gh => [(10, true, .int .i64 (gh.1 : Int)), (11, true, gh.2.1), (12, true, .bool (!gh.2.2.1.isEmpty))]) (fun gh => [rS 1 encP gh.2.2.2.2.1 27 gh.2.2.2.1, rB gh.2.1 5 gh.2.2.1, .blk b9 (cl ([V (takeH xs).1.kind, V (takeH xs).1.level, uv .u64 (takeH xs).1.gen, uv .u64 (takeH xs).1.epoch, uv .u64 (takeH xs).1.num, gh.2.2.2.2.1, .int .i64 (gh.2.2.2.2.2 : Int), .bool false]) 52)])
        (fun gh Gl => (AllS Gl gh.2.2.2.1) ∧ (bodyR root (takeH xs).1 xs = readL (openAt root (takeH xs).1) xs.length (xs.drop gh.1) gh.2.2.1 (gh.2.2.2.1.map (·.2)) gh.2.2.2.2.2) ∧ (gh.1 ≤ xs.length) ∧ (gh.2.2.2.1.length ≤ gh.1) ∧ (gh.2.2.1.length ≤ gh.1)) (fun gh => xs.length - gh.1) (30, .slice none 0 0, [], [], .slice none 0 0, 30) [(1, true, _), (4, true, _), (6, true, _), (8, true, _), (9, true, _)] [_, _, _, _]
        (ESub.cons rfl (by first | rfl | exact evi (by omega)) (ESub.cons rfl rfl (ESub.cons rfl rfl (ESub.cons rfl rfl (ESub.cons rfl rfl (ESub.cons rfl rfl (ESub.cons rfl rfl (ESub.cons rfl rfl ESub.nil))))))))
        (MSub.cons .here rfl (MSub.cons .here rfl (MSub.cons .here rfl (MSub.cons .here rfl (MSub.cons .here rfl (MSub.cons .here rfl (MSub.cons .here rfl MSub.nil))))))) ?_ ?_
      · refine ⟨?_, ?_, ?_, ?_, ?_⟩
        · (try dsimp only) <;> (exact AllS.nil)
        · (try dsimp only) <;> (rfl)
        · (try dsimp only) <;> (first | omega | rfl | assumption | (simp; done))
        · (try dsimp only) <;> (exact Nat.zero_le _)
        · (try dsimp only) <;> (exact Nat.zero_le _)
      intro gh N0 Gl0 hN0 hGl0 hF0
      obtain ⟨a, v, Q, ps, vr, used⟩ := gh; dsimp only at hF0 hN0 ⊢
      obtain ⟨hA, eB, ha, hps, hQ⟩ := hF0
      have hs := hs.mono hGl0
      have hR := hR.mono hGl0
      refine .seq ?_
      refine .seq ?_
      refine Wk.rg [0, 1, 2, 3, 4] rfl rfl ?_
      refine mv rfl .no (.u rfl) ?_
      refine ln rfl .no Fx.sn27 (.u rfl) ?_
      refine mv rfl .no (.u rfl) ?_
      refine arn (((xs.length - a) : Nat) : Int) rfl .no (.u rfl) (.u rfl) rfl (fun _ => by omega) (fun _ => wrap_i64 (by omega) (by omega)) ?_
      refine cp rfl .no (.u rfl) (.u rfl) rfl ?_
      refine .nil ?_
      refine .code ?_
      refine .cond rfl (fun c3 => ?_) (fun c3 => ?_)
      · have c3k := c3
        try simp only [decide_eq_true_eq, decide_eq_false_iff_not, Int.not_lt, Int.not_le, gt_iff_lt, ge_iff_le, Bool.or_eq_true, Bool.and_eq_true, Bool.or_eq_false_iff, Bool.and_eq_false_iff, Bool.not_eq_true', Bool.not_eq_false', Int.toNat_natCast, bne_iff_ne, beq_iff_eq, bne_eq_false_iff_eq, beq_eq_false_iff_ne, ne_eq] at c3
        refine .skip ?_
        refine .code ?_
        refine .block ?_
        refine .seq ?_
        refine Wk.draw (mc := ⟨false, false⟩) [0, 1, 2, 3, 4, 5, 6, 7, 8, 9, 10, 11, 12, 13, 14] Fx.mix (by kernel_rfl) ?_
        refine mv rfl .no (.u rfl) ?_
        refine mv rfl .no (.u rfl) ?_
        refine arn (((a + 4) : Nat) : Int) rfl .no (.u rfl) (.u rfl) rfl (fun _ => by omega) (fun _ => wrap_i64 (by omega) (by omega)) ?_
        refine ih rfl .no Fx.se27 (.u rfl) (.u rfl) (fun _ => by omega) (fun _ => by omega) (fun _ => hs.nn (k := (a + 4)) (by omega)) ?_
        refine ld rfl .no Fx.ag5 (.u rfl) (fun _ => (hs.yat ((a + 4)) (by omega) (by omega)).rd) ?_
        refine cn (k := .u8) rfl .no Fx.cv5_3 (by decide) (.u rfl) ?_; intro m46 em46 lm46
        refine mv rfl .no (.u rfl) ?_
        refine mv rfl .no (.u rfl) ?_
        refine arn (((a + 5) : Nat) : Int) rfl .no (.u rfl) (.u rfl) rfl (fun _ => by omega) (fun _ => wrap_i64 (by omega) (by omega)) ?_
        refine ih rfl .no Fx.se27 (.u rfl) (.u rfl) (fun _ => by omega) (fun _ => by omega) (fun _ => hs.nn (k := (a + 5)) (by omega)) ?_
        refine ld rfl .no Fx.ag5 (.u rfl) (fun _ => (hs.yat ((a + 5)) (by omega) (by omega)).rd) ?_
        refine cn (k := .u8) rfl .no Fx.cv5_3 (by decide) (.u rfl) ?_; intro m52 em52 lm52
        have lm46 : m46 < 256 := lm46
        have lm52 : m52 < 256 := lm52
        refine arn (((256 * m52) : Nat) : Int) rfl .no (.u rfl) (.u rfl) rfl (fun _ => by omega) (fun _ => wrap_i64 (by omega) (by omega)) ?_
        refine arn (((m46 + (256 * m52)) : Nat) : Int) rfl .no (.u rfl) (.u rfl) rfl (fun _ => by omega) (fun _ => wrap_i64 (by omega) (by omega)) ?_
        refine asg rfl .no (.u rfl) ?_
        refine .nil ?_
        have en : m46 + 256 * m52 = pieceN (xs.drop a) := by rw [piece_at, em46, em52]; rfl
        refine .code ?_
        refine .seq ?_
        refine .seq ?_
        refine Wk.rg [0, 1, 2, 3, 4, 5] rfl rfl ?_
        refine mv rfl .no (.u rfl) ?_
        refine cp rfl .no (.u rfl) (.u rfl) rfl ?_
        refine mv rfl .no (.u rfl) ?_
        refine mv rfl (.f rfl rfl) (.u rfl) ?_
        refine cp rfl (.f rfl rfl) (.s rfl) (.u rfl) rfl ?_
        refine pkO rfl .no (.u rfl) (.s rfl) ?_
        refine .nil ?_
        refine .code ?_
        refine .cond rfl (fun c4 => ?_) (fun c4 => ?_)
        · have c4k := c4
          try simp only [decide_eq_true_eq, decide_eq_false_iff_not, Int.not_lt, Int.not_le, gt_iff_lt, ge_iff_le, Bool.or_eq_true, Bool.and_eq_true, Bool.or_eq_false_iff, Bool.and_eq_false_iff, Bool.not_eq_true', Bool.not_eq_false', Int.toNat_natCast, bne_iff_ne, beq_iff_eq, bne_eq_false_iff_eq, beq_eq_false_iff_ne, ne_eq] at c4
          refine .seq ?_
          refine Wk.rg [0, 1, 2] rfl rfl ?_
          refine bC rfl .no Fx.bp52_ .nil rfl ?_
          refine sw rfl (.u rfl) (.u rfl) rfl Fx.sz52 (.there (.there (.there (.there (.there .here))))) (by first | exact (key_len _ _).trans (key_len _ _).symm | exact key_len _ _ | exact ba_len _ _ | rfl) (one8 rfl rfl rfl rfl rfl rfl rfl rfl) ?_
          refine asg rfl .no (.u rfl) ?_
          refine .nil ?_
          refine .code ?_
          refine .ret ?_
          refine We.fin0 Tryd.results26 (.cell rfl (fun w hw => run_loadVarN Fx.ag52 (RdN.own .here) ((by first | exact (key_len _ _).trans (key_len _ _).symm | exact key_len _ _ | exact ba_len _ _ | rfl)) hw) (.tmp rfl .nil)) ?_
          refine ⟨⟨none, 0⟩, [], SlP.nul, by rw [read_none (by omega) c2 (eB.trans (rd_bad (by rw [List.length_drop]; omega) (by rw [← en]; omega)))]; rfl, rfl, ?_⟩
          rw [read_none (by omega) c2 (eB.trans (rd_bad (by rw [List.length_drop]; omega) (by rw [← en]; omega)))]; rfl
        · have c4k := c4
          try simp only [decide_eq_true_eq, decide_eq_false_iff_not, Int.not_lt, Int.not_le, gt_iff_lt, ge_iff_le, Bool.or_eq_true, Bool.and_eq_true, Bool.or_eq_false_iff, Bool.and_eq_false_iff, Bool.not_eq_true', Bool.not_eq_false', Int.toNat_natCast, bne_iff_ne, beq_iff_eq, bne_eq_false_iff_eq, beq_eq_false_iff_ne, ne_eq] at c4
          refine .skip ?_
          refine .code ?_
          refine .seq ?_
          refine .seq ?_
          refine Wk.rg [0, 1, 2, 3, 4, 5, 6] rfl rfl ?_
          refine mv rfl .no (.u rfl) ?_
          refine ln rfl .no Fx.sn27 (.u rfl) ?_
          refine mv rfl .no (.u rfl) ?_
          refine arn (((xs.length - a) : Nat) : Int) rfl .no (.u rfl) (.u rfl) rfl (fun _ => by omega) (fun _ => wrap_i64 (by omega) (by omega)) ?_
          refine mv rfl .no (.u rfl) ?_
          refine arn (((7 + (m46 + (256 * m52))) : Nat) : Int) rfl .no (.u rfl) (.u rfl) rfl (fun _ => by omega) (fun _ => wrap_i64 (by omega) (by omega)) ?_
          refine cp rfl .no (.u rfl) (.u rfl) rfl ?_
          refine .nil ?_
          refine .code ?_
          refine .cond rfl (fun c5 => ?_) (fun c5 => ?_)
          · have c5k := c5
            try simp only [decide_eq_true_eq, decide_eq_false_iff_not, Int.not_lt, Int.not_le, gt_iff_lt, ge_iff_le, Bool.or_eq_true, Bool.and_eq_true, Bool.or_eq_false_iff, Bool.and_eq_false_iff, Bool.not_eq_true', Bool.not_eq_false', Int.toNat_natCast, bne_iff_ne, beq_iff_eq, bne_eq_false_iff_eq, beq_eq_false_iff_ne, ne_eq] at c5
            refine .exit ?_
            refine .xcode ?_
            refine .xnot rfl ?_
            refine .xlp ?_
            refine .xblk ?_
            refine .code ?_
            refine .seq ?_
            refine wk_fs .here (fun _ _ => rfl) (by intro b hb; cases hb) ?_; intro GfRR hRR hleRR evRR hsRR; subst evRR
            have hs := hs.mono hleRR
            have hR := hR.mono hleRR
            have hA := hA.mono hleRR
            have hsRR := SlP.of hsRR hA
            refine Wk.rg [0, 1, 2, 3, 4, 5, 6] rfl rfl ?_
            refine fz rfl .no Fx.fo52_2 (.u rfl) ?_
            refine ld rfl .no Fx.ag3 (.u rfl) (fun _ => Rd.own (.there .here) (by first | exact wap_f rfl | rfl)) ?_
            refine mv rfl .no (.u rfl) ?_
            refine ln rfl .no Fx.sn27 (.u rfl) ?_
            refine cp rfl .no (.u rfl) (.u rfl) rfl ?_
            refine fz rfl .no Fx.fo52_3 (.u rfl) ?_
            refine s1 rfl (.u rfl) (.u rfl) rfl Fx.sz4 (.there .here) (by show _ < 8; decide) (rfl) ?_
            refine .nil ?_
            refine .code ?_
            refine .seq ?_
            refine Wk.rg [0, 1, 2] rfl rfl ?_
            refine lA rfl .no Fx.ag52 (.u rfl) (fun _ => RdN.own .here) (fun _ => (by first | exact (key_len _ _).trans (key_len _ _).symm | exact key_len _ _ | exact ba_len _ _ | rfl)) ?_
            refine sw rfl (.u rfl) (.u rfl) rfl Fx.sz52 (.there (.there (.there (.there .here)))) (by first | exact (key_len _ _).trans (key_len _ _).symm | exact key_len _ _ | exact ba_len _ _ | rfl) (one8 rfl rfl rfl rfl rfl rfl rfl rfl) ?_
            refine asg rfl .no (.u rfl) ?_
            refine .nil ?_
            refine .code ?_
            refine .ret ?_
            refine We.fin0 Tryd.results26 (.cell rfl (fun w hw => run_loadVarN Fx.ag52 (RdN.own .here) ((by first | exact (key_len _ _).trans (key_len _ _).symm | exact key_len _ _ | exact ba_len _ _ | rfl)) hw) (.tmp rfl .nil)) ?_
            have E := read_some (root := root) (by omega) c2 (eB.trans (rd_torn (by rw [List.length_drop]; omega) (by rw [← en]; omega) (by rw [← en, List.length_drop]; omega)))
            refine ⟨hRR, ps, hsRR, by rw [E], rfl, ?_⟩
            rw [E]
            · exact congrArg (fun z => Value.tuple #[.agg (List.toArray z), .int .i64 0]) (cells_l8 rfl rfl rfl (by simp))
          · have c5k := c5
            try simp only [decide_eq_true_eq, decide_eq_false_iff_not, Int.not_lt, Int.not_le, gt_iff_lt, ge_iff_le, Bool.or_eq_true, Bool.and_eq_true, Bool.or_eq_false_iff, Bool.and_eq_false_iff, Bool.not_eq_true', Bool.not_eq_false', Int.toNat_natCast, bne_iff_ne, beq_iff_eq, bne_eq_false_iff_eq, beq_eq_false_iff_ne, ne_eq] at c5
            refine .skip ?_
            refine .code ?_
            refine .seq ?_
            refine Wk.rg [0, 1, 2, 3, 4, 5] rfl rfl ?_
            refine mv rfl .no (.u rfl) ?_
            refine mv rfl .no (.u rfl) ?_
            refine arn (((a + 6) : Nat) : Int) rfl .no (.u rfl) (.u rfl) rfl (fun _ => by omega) (fun _ => wrap_i64 (by omega) (by omega)) ?_
            refine ih rfl .no Fx.se27 (.u rfl) (.u rfl) (fun _ => by omega) (fun _ => by omega) (fun _ => hs.nn (k := (a + 6)) (by omega)) ?_
            refine ld rfl .no Fx.ag5 (.u rfl) (fun _ => (hs.yat ((a + 6)) (by omega) (by omega)).rd) ?_
            refine asg rfl .no (.u rfl) ?_
            refine .nil ?_
            refine .code ?_
            refine .seq ?_
            refine Wk.rg [0, 1, 2, 3, 4, 5, 6, 7, 8] rfl rfl ?_
            refine mv rfl .no (.u rfl) ?_
            refine mv rfl .no (.u rfl) ?_
            refine arn (((a + 7) : Nat) : Int) rfl .no (.u rfl) (.u rfl) rfl (fun _ => by omega) (fun _ => wrap_i64 (by omega) (by omega)) ?_
            refine mv rfl .no (.u rfl) ?_
            refine arn (((a + 7) : Nat) : Int) rfl .no (.u rfl) (.u rfl) rfl (fun _ => by omega) (fun _ => wrap_i64 (by omega) (by omega)) ?_
            refine mv rfl .no (.u rfl) ?_
            refine arn ((((a + 7) + (m46 + (256 * m52))) : Nat) : Int) rfl .no (.u rfl) (.u rfl) rfl (fun _ => by omega) (fun _ => wrap_i64 (by omega) (by omega)) ?_
            refine kS ((a + 7)) (((a + 7) + (m46 + (256 * m52)))) rfl .no Fx.se27 hs (.u rfl) (.u rfl) (.u rfl) (fun _ => by omega) (fun _ => by omega) (fun _ => by omega) (fun _ => by omega) ?_
            intro h81 L81 eL81 lL81 hs81
            have lL81 := lL81 rfl
            refine asg rfl .no (.u rfl) ?_
            refine .nil ?_
            have eP := text_at eL81
            refine .code ?_
            refine .seq ?_
            refine .seq ?_
            rcases three2 (frameL (xs.getD (a + 6) 0) L81) ((xs.drop a).take 7) (wrongP (xs.getD (a + 6) 0) (m46 + 256 * m52) (!Q.isEmpty)) with hf | ⟨hf, hw⟩ | ⟨hf, hw⟩
            · refine Wk.draw (mc := ⟨false, false⟩) [0, 1, 4, 5, 6, 7, 8, 9, 10, 11, 2, 3, 12, 13, 14, 15, 16, 17, 18] Fx.mix (by kernel_rfl) ?_
              refine mv rfl .no (.u rfl) ?_
              refine mv rfl .no (.u rfl) ?_
              refine mv rfl .no (.u rfl) ?_
              refine mv rfl .no (.u rfl) ?_
              refine mv rfl .no (.u rfl) ?_
              refine arn (((a + 7) : Nat) : Int) rfl .no (.u rfl) (.u rfl) rfl (fun _ => by omega) (fun _ => wrap_i64 (by omega) (by omega)) ?_
              refine mv rfl .no (.u rfl) ?_
              refine arn ((((a + 7) + (m46 + (256 * m52))) : Nat) : Int) rfl .no (.u rfl) (.u rfl) rfl (fun _ => by omega) (fun _ => wrap_i64 (by omega) (by omega)) ?_
              refine kS (a) (((a + 7) + (m46 + (256 * m52)))) rfl .no Fx.se27 hs (.u rfl) (.u rfl) (.u rfl) (fun _ => by omega) (fun _ => by omega) (fun _ => by omega) (fun _ => by omega) ?_
              intro h92 L92 eL92 lL92 hs92
              have lL92 := lL92 rfl
              refine sB rfl .no Fx.bs27_9 (.u rfl) (fun _ => hs92.sc) ?_
              refine kc rfl Fx.go45 (Eva.cons (.u rfl) (Eva.cons (.u rfl) Eva.nil)) (Ct.frzB (piece_ok (xs.getD (a + 6) 0) L81 h81 _ hs81 (by omega))) ?_
              rintro _ G84 μ84 hG84 ⟨h84, L84, eL84, rfl, rfl, hs84⟩
              have hs := hs.mono hG84
              have hR := hR.mono hG84
              have hA := hA.mono hG84
              have hs81 := hs81.mono hG84
              have hs92 := hs92.mono hG84
              refine sB rfl .no Fx.bs27_9 (.u rfl) (fun _ => hs84.sc) ?_
              refine cbn rfl .no (.u rfl) (.u rfl) ?_
              refine wo_b true (by rw [eL84, Bool.not_eq_true', decide_eq_false_iff_not]; exact fun hq => hf ((frame_same (by rw [List.length_take, List.length_drop]; omega) (whole_at eL92) eP.symm).1 hq)) ?_
              refine mv rfl .no (.u rfl) ?_
              refine skp (.bool false) rfl rfl (Gd.f (b := true) rfl rfl) ?_
              refine skp (.bool false) rfl rfl (Gd.f (b := true) rfl rfl) ?_
              refine skp (.bool false) rfl rfl (Gd.f (b := true) rfl rfl) ?_
              refine skc (.bool false) rfl rfl (Gd.f (b := true) rfl rfl) ?_
              refine pkO rfl .no (.u rfl) (.s rfl) ?_
              refine .nil ?_
              refine .code ?_
              refine Wk.condT rfl rfl ?_
              refine .seq ?_
              refine Wk.rg [0, 1, 2] rfl rfl ?_
              refine bC rfl .no Fx.bp52_ .nil rfl ?_
              refine sw rfl (.u rfl) (.u rfl) rfl Fx.sz52 (.there (.there (.there (.there (.there .here))))) (by first | exact (key_len _ _).trans (key_len _ _).symm | exact key_len _ _ | exact ba_len _ _ | rfl) (one8 rfl rfl rfl rfl rfl rfl rfl rfl) ?_
              refine asg rfl .no (.u rfl) ?_
              refine .nil ?_
              refine .code ?_
              refine .ret ?_
              refine We.fin0 Tryd.results26 (.cell rfl (fun w hw => run_loadVarN Fx.ag52 (RdN.own .here) ((by first | exact (key_len _ _).trans (key_len _ _).symm | exact key_len _ _ | exact ba_len _ _ | rfl)) hw) (.tmp rfl .nil)) ?_
              refine ⟨⟨none, 0⟩, [], SlP.nul, by rw [read_none (by omega) c2 (eB.trans (rd_no (by rw [List.length_drop]; omega) (by rw [← en]; omega) (by rw [← en, List.length_drop]; omega) (.inl (by rw [← en, ← eP, drop_getD]; exact hf))))]; rfl, rfl, ?_⟩
              rw [read_none (by omega) c2 (eB.trans (rd_no (by rw [List.length_drop]; omega) (by rw [← en]; omega) (by rw [← en, List.length_drop]; omega) (.inl (by rw [← en, ← eP, drop_getD]; exact hf))))]; rfl
            · refine Wk.draw (mc := ⟨false, false⟩) [0, 1, 4, 5, 6, 7, 8, 9, 10, 11, 2, 3, 12, 13, 14, 15, 16, 17, 18] Fx.mix (by kernel_rfl) ?_
              refine mv rfl .no (.u rfl) ?_
              refine mv rfl .no (.u rfl) ?_
              refine mv rfl .no (.u rfl) ?_
              refine mv rfl .no (.u rfl) ?_
              refine mv rfl .no (.u rfl) ?_
              refine arn (((a + 7) : Nat) : Int) rfl .no (.u rfl) (.u rfl) rfl (fun _ => by omega) (fun _ => wrap_i64 (by omega) (by omega)) ?_
              refine mv rfl .no (.u rfl) ?_
              refine arn ((((a + 7) + (m46 + (256 * m52))) : Nat) : Int) rfl .no (.u rfl) (.u rfl) rfl (fun _ => by omega) (fun _ => wrap_i64 (by omega) (by omega)) ?_
              refine kS (a) (((a + 7) + (m46 + (256 * m52)))) rfl .no Fx.se27 hs (.u rfl) (.u rfl) (.u rfl) (fun _ => by omega) (fun _ => by omega) (fun _ => by omega) (fun _ => by omega) ?_
              intro h92 L92 eL92 lL92 hs92
              have lL92 := lL92 rfl
              refine sB rfl .no Fx.bs27_9 (.u rfl) (fun _ => hs92.sc) ?_
              refine kc rfl Fx.go45 (Eva.cons (.u rfl) (Eva.cons (.u rfl) Eva.nil)) (Ct.frzB (piece_ok (xs.getD (a + 6) 0) L81 h81 _ hs81 (by omega))) ?_
              rintro _ G84 μ84 hG84 ⟨h84, L84, eL84, rfl, rfl, hs84⟩
              have hs := hs.mono hG84
              have hR := hR.mono hG84
              have hA := hA.mono hG84
              have hs81 := hs81.mono hG84
              have hs92 := hs92.mono hG84
              refine sB rfl .no Fx.bs27_9 (.u rfl) (fun _ => hs84.sc) ?_
              refine cbn rfl .no (.u rfl) (.u rfl) ?_
              refine wo_b false (by rw [eL84, Bool.not_eq_false', decide_eq_true_eq]; exact (frame_same (by rw [List.length_take, List.length_drop]; omega) (whole_at eL92) eP.symm).2 hf) ?_
              refine mv rfl .no (.u rfl) ?_
              refine mv rfl (Gd.f (b := false) rfl rfl) (.u rfl) ?_
              refine mv rfl (Gd.f (b := false) rfl rfl) (.u rfl) ?_
              refine mv rfl (Gd.f (b := false) rfl rfl) (.u rfl) ?_
              refine kv rfl (Gd.f (b := false) rfl rfl) Fx.go50 (Eva.cons (.u rfl) (Eva.cons (.u rfl) (Eva.cons (.u rfl) Eva.nil))) (fun _ => wrong_ok (xs.getD (a + 6) 0) (m46 + 256 * m52) (!Q.isEmpty) _) ?_
              refine wo_b true (hw) ?_
              refine pkO rfl .no (.u rfl) (.u rfl) ?_
              refine .nil ?_
              refine .code ?_
              refine Wk.condT rfl rfl ?_
              refine .seq ?_
              refine Wk.rg [0, 1, 2] rfl rfl ?_
              refine bC rfl .no Fx.bp52_ .nil rfl ?_
              refine sw rfl (.u rfl) (.u rfl) rfl Fx.sz52 (.there (.there (.there (.there (.there .here))))) (by first | exact (key_len _ _).trans (key_len _ _).symm | exact key_len _ _ | exact ba_len _ _ | rfl) (one8 rfl rfl rfl rfl rfl rfl rfl rfl) ?_
              refine asg rfl .no (.u rfl) ?_
              refine .nil ?_
              refine .code ?_
              refine .ret ?_
              refine We.fin0 Tryd.results26 (.cell rfl (fun w hw => run_loadVarN Fx.ag52 (RdN.own .here) ((by first | exact (key_len _ _).trans (key_len _ _).symm | exact key_len _ _ | exact ba_len _ _ | rfl)) hw) (.tmp rfl .nil)) ?_
              refine ⟨⟨none, 0⟩, [], SlP.nul, by rw [read_none (by omega) c2 (eB.trans ((rd_take (by rw [List.length_drop]; omega) en (by omega) (by rw [List.length_drop]; omega) eP (by rw [drop_getD]; exact hf)).trans (by rw [drop_getD, take_wr (by omega) hw])))]; rfl, rfl, ?_⟩
              rw [read_none (by omega) c2 (eB.trans ((rd_take (by rw [List.length_drop]; omega) en (by omega) (by rw [List.length_drop]; omega) eP (by rw [drop_getD]; exact hf)).trans (by rw [drop_getD, take_wr (by omega) hw])))]; rfl
            · refine Wk.draw (mc := ⟨false, false⟩) [0, 1, 4, 5, 6, 7, 8, 9, 10, 11, 2, 3, 12, 13, 14, 15, 16, 17, 18] Fx.mix (by kernel_rfl) ?_
              refine mv rfl .no (.u rfl) ?_
              refine mv rfl .no (.u rfl) ?_
              refine mv rfl .no (.u rfl) ?_
              refine mv rfl .no (.u rfl) ?_
              refine mv rfl .no (.u rfl) ?_
              refine arn (((a + 7) : Nat) : Int) rfl .no (.u rfl) (.u rfl) rfl (fun _ => by omega) (fun _ => wrap_i64 (by omega) (by omega)) ?_
              refine mv rfl .no (.u rfl) ?_
              refine arn ((((a + 7) + (m46 + (256 * m52))) : Nat) : Int) rfl .no (.u rfl) (.u rfl) rfl (fun _ => by omega) (fun _ => wrap_i64 (by omega) (by omega)) ?_
              refine kS (a) (((a + 7) + (m46 + (256 * m52)))) rfl .no Fx.se27 hs (.u rfl) (.u rfl) (.u rfl) (fun _ => by omega) (fun _ => by omega) (fun _ => by omega) (fun _ => by omega) ?_
              intro h92 L92 eL92 lL92 hs92
              have lL92 := lL92 rfl
              refine sB rfl .no Fx.bs27_9 (.u rfl) (fun _ => hs92.sc) ?_
              refine kc rfl Fx.go45 (Eva.cons (.u rfl) (Eva.cons (.u rfl) Eva.nil)) (Ct.frzB (piece_ok (xs.getD (a + 6) 0) L81 h81 _ hs81 (by omega))) ?_
              rintro _ G84 μ84 hG84 ⟨h84, L84, eL84, rfl, rfl, hs84⟩
              have hs := hs.mono hG84
              have hR := hR.mono hG84
              have hA := hA.mono hG84
              have hs81 := hs81.mono hG84
              have hs92 := hs92.mono hG84
              refine sB rfl .no Fx.bs27_9 (.u rfl) (fun _ => hs84.sc) ?_
              refine cbn rfl .no (.u rfl) (.u rfl) ?_
              refine wo_b false (by rw [eL84, Bool.not_eq_false', decide_eq_true_eq]; exact (frame_same (by rw [List.length_take, List.length_drop]; omega) (whole_at eL92) eP.symm).2 hf) ?_
              refine mv rfl .no (.u rfl) ?_
              refine mv rfl (Gd.f (b := false) rfl rfl) (.u rfl) ?_
              refine mv rfl (Gd.f (b := false) rfl rfl) (.u rfl) ?_
              refine mv rfl (Gd.f (b := false) rfl rfl) (.u rfl) ?_
              refine kv rfl (Gd.f (b := false) rfl rfl) Fx.go50 (Eva.cons (.u rfl) (Eva.cons (.u rfl) (Eva.cons (.u rfl) Eva.nil))) (fun _ => wrong_ok (xs.getD (a + 6) 0) (m46 + 256 * m52) (!Q.isEmpty) _) ?_
              refine wo_b false (hw) ?_
              refine pkO rfl .no (.u rfl) (.u rfl) ?_
              refine .nil ?_
              refine .code ?_
              refine Wk.condF rfl rfl ?_
              refine .skip ?_
              refine .code ?_
              refine .seq ?_
              refine Wk.rg [0, 1, 2, 3, 4] rfl rfl ?_
              refine mv rfl .no (.u rfl) ?_
              refine arn (((a + 7) : Nat) : Int) rfl .no (.u rfl) (.u rfl) rfl (fun _ => by omega) (fun _ => wrap_i64 (by omega) (by omega)) ?_
              refine mv rfl .no (.u rfl) ?_
              refine arn ((((a + 7) + (m46 + (256 * m52))) : Nat) : Int) rfl .no (.u rfl) (.u rfl) rfl (fun _ => by omega) (fun _ => wrap_i64 (by omega) (by omega)) ?_
              refine asg rfl .no (.u rfl) ?_
              refine .nil ?_
              refine .code ?_
              refine .seq ?_
              refine Wk.rg [0, 1, 2, 3] rfl rfl ?_
              refine mv rfl .no (.u rfl) ?_
              refine mv rfl .no (.u rfl) ?_
              refine apY rfl Fx.se27 Fx.zv5 (.u rfl) (.u rfl) (.there .here) hs81.sc (by (try simp only [List.length_append, List.length_cons, List.length_nil, yl_len]); omega) ?_
              intro v108 L108 ov108 eL108
              have lL108 : L108.length = Q.length + L81.length := by rw [eL108, List.length_append]
              refine asg rfl .no (.u rfl) ?_
              refine .nil ?_
              refine .code ?_
              refine .seq ?_
              refine Wk.rg [0] rfl rfl ?_
              refine asg rfl .no (.u rfl) ?_
              refine .nil ?_
              refine .code ?_
              refine .seq ?_
              refine Wk.rg [0, 1, 2, 3, 4, 5] rfl rfl ?_
              refine mv rfl .no (.u rfl) ?_
              refine cp rfl .no (.u rfl) (.u rfl) rfl ?_
              refine mv rfl .no (.u rfl) ?_
              refine mv rfl (.f rfl rfl) (.u rfl) ?_
              refine cp rfl (.f rfl rfl) (.s rfl) (.u rfl) rfl ?_
              refine pkO rfl .no (.u rfl) (.s rfl) ?_
              refine .nil ?_
              refine .code ?_
              refine .cond rfl (fun c6 => ?_) (fun c6 => ?_)
              · have c6k := c6
                try simp only [decide_eq_true_eq, decide_eq_false_iff_not, Int.not_lt, Int.not_le, gt_iff_lt, ge_iff_le, Bool.or_eq_true, Bool.and_eq_true, Bool.or_eq_false_iff, Bool.and_eq_false_iff, Bool.not_eq_true', Bool.not_eq_false', Int.toNat_natCast, bne_iff_ne, beq_iff_eq, bne_eq_false_iff_eq, beq_eq_false_iff_ne, ne_eq] at c6
                have hk : (xs.getD (a + 6) 0) = 1#8 ∨ (xs.getD (a + 6) 0) = 4#8 := c6.imp (byte_eq (n := 1) (by decide)).1 (byte_eq (n := 4) (by decide)).1
                refine .seq ?_
                refine wk_fb .here (by first | (intro b hb; cases hb; done) | simp [keys, Res.keys]) ?_; intro GfRQ hRQ hleRQ evRQ hsRQ; subst evRQ
                have hs := hs.mono hleRQ
                have hR := hR.mono hleRQ
                have hA := hA.mono hleRQ
                have hs81 := hs81.mono hleRQ
                have hs92 := hs92.mono hleRQ
                have hs84 := hs84.mono hleRQ
                refine Wk.draw (mc := ⟨false, false⟩) [0, 1, 2, 3, 4, 6, 8, 5, 7, 9, 10, 11, 12, 13, 14] Fx.mix (by kernel_rfl) ?_
                refine lA rfl .no Fx.ag24 (.u rfl) (fun _ => RdN.own (.there (.there .here))) (fun _ => (by first | exact (key_len _ _).trans (key_len _ _).symm | exact key_len _ _ | exact ba_len _ _ | rfl)) ?_
                refine fz rfl .no Fx.fo52_1 (.u rfl) ?_
                refine ld rfl .no Fx.ag50 (.u rfl) (fun _ => Rd.own (.there .here) (by first | exact wap_f rfl | rfl)) ?_
                refine lr rfl .no Fx.sn50 (.u rfl) .here ?_
                refine ci rfl .no rfl Fx.cv3_43 (.u rfl) ?_
                refine lA rfl .no Fx.ag45 (.u rfl) (fun _ => RdN.own (.there (.there (.there .here)))) (fun _ => (by first | exact (key_len _ _).trans (key_len _ _).symm | exact key_len _ _ | exact ba_len _ _ | rfl)) ?_
                refine mv rfl .no (.u rfl) ?_
                refine kv rfl .no Fx.go43 (Eva.cons (.u rfl) Eva.nil) (fun _ => rNonce_ok _ _) ?_
                refine kc rfl Fx.go44 (Eva.cons (.u rfl) Eva.nil) (Ct.frzB (rnLay_ok (takeH xs).1 _)) ?_
                rintro _ G123 μ123 hG123 ⟨h123, L123, eL123, rfl, rfl, hs123⟩
                have hs := hs.mono hG123
                have hR := hR.mono hG123
                have hA := hA.mono hG123
                have hs81 := hs81.mono hG123
                have hs92 := hs92.mono hG123
                have hs84 := hs84.mono hG123
                have hsRQ := hsRQ.mono hG123
                refine kc rfl Fx.go21 (Eva.cons (.u rfl) (Eva.cons (.u rfl) (Eva.cons (.u rfl) (Eva.cons (.u rfl) Eva.nil)))) (rOpen_ok (keyEnc root (headL (takeH xs).1)) (keyMac root (headL (takeH xs).1)) _ L123 h123 L108 hRQ _ hs123 hsRQ hR (by rw [eL123, head_len]; decide) (by omega)) ?_
                rintro _ G125 μ125 hG125 ⟨v125, L125, e125, hO125, rfl, rfl⟩
                have hs := hs.mono hG125
                have hR := hR.mono hG125
                have hA := hA.mono hG125
                have hs81 := hs81.mono hG125
                have hs92 := hs92.mono hG125
                have hs84 := hs84.mono hG125
                have hsRQ := hsRQ.mono hG125
                have hs123 := hs123.mono hG125
                refine mv rfl .no (.u rfl) ?_
                refine ex rfl .no (.u rfl) rfl ?_
                refine ex rfl .no (.u rfl) rfl ?_
                refine asg rfl .no (.u rfl) ?_
                refine asg rfl .no (.u rfl) ?_
                refine .nil ?_
                refine .code ?_
                refine .seq ?_
                refine .seq ?_
                refine Wk.rg [0, 1] rfl rfl ?_
                refine mv rfl .no (.u rfl) ?_
                refine cp rfl .no (.u rfl) (.u rfl) rfl ?_
                refine .nil ?_
                refine .code ?_
                refine .cond rfl (fun c7 => ?_) (fun c7 => ?_)
                · have c7k := c7
                  try simp only [decide_eq_true_eq, decide_eq_false_iff_not, Int.not_lt, Int.not_le, gt_iff_lt, ge_iff_le, Bool.or_eq_true, Bool.and_eq_true, Bool.or_eq_false_iff, Bool.and_eq_false_iff, Bool.not_eq_true', Bool.not_eq_false', Int.toNat_natCast, bne_iff_ne, beq_iff_eq, bne_eq_false_iff_eq, beq_eq_false_iff_ne, ne_eq] at c7
                  obtain ⟨ho, _, _⟩ := hO125.resolve_left (fun h => c7 h.2)
                  refine .seq ?_
                  refine Wk.rg [0, 1, 2] rfl rfl ?_
                  refine bC rfl .no Fx.bp52_ .nil rfl ?_
                  refine sw rfl (.u rfl) (.u rfl) rfl Fx.sz52 (.there (.there (.there (.there (.there .here))))) (by first | exact (key_len _ _).trans (key_len _ _).symm | exact key_len _ _ | exact ba_len _ _ | rfl) (one8 rfl rfl rfl rfl rfl rfl rfl rfl) ?_
                  refine asg rfl .no (.u rfl) ?_
                  refine .nil ?_
                  refine .code ?_
                  refine .ret ?_
                  refine We.fin0 Tryd.results26 (.cell rfl (fun w hw => run_loadVarN Fx.ag52 (RdN.own .here) ((by first | exact (key_len _ _).trans (key_len _ _).symm | exact key_len _ _ | exact ba_len _ _ | rfl)) hw) (.tmp rfl .nil)) ?_
                  refine ⟨⟨none, 0⟩, [], SlP.nul, by rw [read_none (by omega) c2 (eB.trans ((rd_take (by rw [List.length_drop]; omega) en (by omega) (by rw [List.length_drop]; omega) eP (by rw [drop_getD]; exact hf)).trans (by rw [drop_getD, take_on (by omega) hw hk, show openAt root (takeH xs).1 (ps.map (·.2)).length (Q ++ L81) = none by rw [List.length_map]; rw [eL123, eL108] at ho; exact ho]; rfl)))]; rfl, rfl, ?_⟩
                  rw [read_none (by omega) c2 (eB.trans ((rd_take (by rw [List.length_drop]; omega) en (by omega) (by rw [List.length_drop]; omega) eP (by rw [drop_getD]; exact hf)).trans (by rw [drop_getD, take_on (by omega) hw hk, show openAt root (takeH xs).1 (ps.map (·.2)).length (Q ++ L81) = none by rw [List.length_map]; rw [eL123, eL108] at ho; exact ho]; rfl)))]; rfl
                · have c7k := c7
                  try simp only [decide_eq_true_eq, decide_eq_false_iff_not, Int.not_lt, Int.not_le, gt_iff_lt, ge_iff_le, Bool.or_eq_true, Bool.and_eq_true, Bool.or_eq_false_iff, Bool.and_eq_false_iff, Bool.not_eq_true', Bool.not_eq_false', Int.toNat_natCast, bne_iff_ne, beq_iff_eq, bne_eq_false_iff_eq, beq_eq_false_iff_ne, ne_eq] at c7
                  obtain ⟨ho, _⟩ := hO125.resolve_right (fun h => by rw [h.2.2] at c7; cases c7)
                  rw [eL123, eL108] at ho
                  have ho2 : openAt root (takeH xs).1 (ps.map (·.2)).length (Q ++ L81) = some L125 := by rw [List.length_map]; exact ho
                  refine .skip ?_
                  refine .code ?_
                  refine .seq ?_
                  refine wk_fb .here (by first | (intro b hb; cases hb; done) | simp [keys, Res.keys]) ?_; intro GfR125 hR125 hleR125 evR125 hsR125; subst evR125
                  have hs := hs.mono hleR125
                  have hR := hR.mono hleR125
                  have hA := hA.mono hleR125
                  have hs81 := hs81.mono hleR125
                  have hs92 := hs92.mono hleR125
                  have hs84 := hs84.mono hleR125
                  have hsRQ := hsRQ.mono hleR125
                  have hs123 := hs123.mono hleR125
                  have take_some : takeS (openAt root (takeH xs).1) Q (ps.map (·.2)) (xs.getD (a + 6) 0) L81 = some ([], (ps ++ [(hR125, L125)]).map (·.2)) := by rw [take_on (by omega) hw hk, ho2, List.map_append]; rfl
                  refine Wk.rg [0, 1, 2, 3, 4, 5, 6] rfl rfl ?_
                  refine fz rfl .no Fx.fo52_1 (.u rfl) ?_
                  refine ld rfl .no Fx.ag50 (.u rfl) (fun _ => Rd.own (.there .here) (by first | exact wap_f rfl | rfl)) ?_
                  refine mv rfl .no (.u rfl) ?_
                  refine Go.Tan.b1 rfl Fx.se50 Fx.zv27 (.u rfl) rfl rfl (by decide) ?_; intro b134
                  refine apS ((hR125, L125)) rfl Fx.se50 Fx.zv27 rfl (.u rfl) (.u rfl) (.there .here) .here (rfl) (one1 rfl) (by omega) (by unfold maxLen; omega) ?_; intro v135 ov135
                  refine fz rfl .no Fx.fo52_1 (.u rfl) ?_
                  refine s1v rfl (.u rfl) (.u rfl) .here Fx.sz50 (.there (.there .here)) (by show _ < 8; decide) (rfl) ?_
                  refine .nil ?_
                  refine .code ?_
                  refine .seq ?_
                  refine Wk.rg [0, 1, 2] rfl rfl ?_
                  refine mv rfl .no (.u rfl) ?_
                  refine fz rfl .no Fx.fo52_2 (.u rfl) ?_
                  refine s1 rfl (.u rfl) (.u rfl) rfl Fx.sz3 .here (by show _ < 8; decide) (rfl) ?_
                  refine .nil ?_
                  refine .code ?_
                  refine .seq ?_
                  refine Wk.rg [0] rfl rfl ?_
                  refine asg rfl .no (.u rfl) ?_
                  refine .nil ?_
                  refine .code ?_
                  refine wk_nilB 5 ?_
                  refine Wk.rg [0] rfl rfl ?_
                  refine asg rfl .no (.u rfl) ?_
                  refine .nil ?_
                  refine .blk ?_
                  refine We.lpo (a + 7 + (m46 + 256 * m52), .slice none 0 0, [], ps ++ [(hR125, L125)], v135, a + 7 + (m46 + 256 * m52)) ?_ ?_ ?_ ?_ ?_
                  · exact (ESub.cons rfl (by first | rfl | exact evi (by omega)) (ESub.cons rfl rfl (ESub.cons rfl rfl (ESub.cons rfl rfl (ESub.cons rfl rfl (ESub.cons rfl rfl (ESub.cons rfl rfl (ESub.cons rfl rfl ESub.nil))))))))
                  · exact (MSub.cons (.there (.there .here)) rfl (MSub.cons .here rfl (MSub.cons .here rfl (MSub.cons (.there .here) rfl (MSub.cons (.there .here) rfl (MSub.cons (.there .here) rfl (MSub.cons (.there .here) rfl MSub.nil)))))))
                  · first | omega | (dsimp only; omega)
                  · exact (((((hGl0).trans hG84).trans hleRQ).trans hG123).trans hG125).trans hleR125
                  · refine ⟨?_, ?_, ?_, ?_, ?_⟩
                    · (try dsimp only) <;> (exact AllS.snoc hA hsR125)
                    · (try dsimp only) <;> (exact rd_on eB (by rw [List.length_drop]; omega) en (by omega) (by rw [List.length_drop]; omega) eP (by rw [drop_getD]; exact hf) (by rw [drop_getD]; exact take_some) (by rw [List.drop_drop]; congr 1; omega) (by simp; omega))
                    · (try dsimp only) <;> (first | omega | rfl | assumption | (simp; done))
                    · (try dsimp only) <;> (simp; omega)
                    · (try dsimp only) <;> (simp)
              · have c6k := c6
                try simp only [decide_eq_true_eq, decide_eq_false_iff_not, Int.not_lt, Int.not_le, gt_iff_lt, ge_iff_le, Bool.or_eq_true, Bool.and_eq_true, Bool.or_eq_false_iff, Bool.and_eq_false_iff, Bool.not_eq_true', Bool.not_eq_false', Int.toNat_natCast, bne_iff_ne, beq_iff_eq, bne_eq_false_iff_eq, beq_eq_false_iff_ne, ne_eq] at c6
                refine .skip ?_
                refine .blk ?_
                refine We.lpo (a + 7 + (m46 + 256 * m52), v108, L108, ps, vr, used) ?_ ?_ ?_ ?_ ?_
                · exact (ESub.cons rfl (by first | rfl | exact evi (by omega)) (ESub.cons rfl rfl (ESub.cons rfl (congrArg Value.bool (by rw [eL108]; exact (begun_next (by omega)).symm)) (ESub.cons rfl rfl (ESub.cons rfl rfl (ESub.cons rfl rfl (ESub.cons rfl rfl (ESub.cons rfl rfl ESub.nil))))))))
                · exact (MSub.cons (.there .here) rfl (MSub.cons .here rfl (MSub.cons .here rfl (MSub.cons .here rfl (MSub.cons .here rfl (MSub.cons .here rfl (MSub.cons .here rfl MSub.nil)))))))
                · first | omega | (dsimp only; omega)
                · exact (hGl0).trans hG84
                · refine ⟨?_, ?_, ?_, ?_, ?_⟩
                  · (try dsimp only) <;> (exact hA)
                  · (try dsimp only) <;> (exact rd_on eB (by rw [List.length_drop]; omega) en (by omega) (by rw [List.length_drop]; omega) eP (by rw [drop_getD]; exact hf) (by rw [drop_getD]; exact by rw [eL108]; exact take_pass (by omega) hw (fun hk => hk.elim (fun e => c6.1 ((byte_eq (n := 1) (by decide)).2 e)) (fun e => c6.2 ((byte_eq (n := 4) (by decide)).2 e)))) (by rw [List.drop_drop]; congr 1; omega) (by rw [eL108, show (Q ++ L81).isEmpty = false by have := begun_next (Q := Q) (p := L81) (by omega); simpa using this]; rfl))
                  · (try dsimp only) <;> (first | omega | rfl | assumption | (simp; done))
                  · (try dsimp only) <;> (first | omega | rfl | assumption | (simp; done))
                  · (try dsimp only) <;> (first | omega | rfl | assumption | (simp; done))
      · have c3k := c3
        try simp only [decide_eq_true_eq, decide_eq_false_iff_not, Int.not_lt, Int.not_le, gt_iff_lt, ge_iff_le, Bool.or_eq_true, Bool.and_eq_true, Bool.or_eq_false_iff, Bool.and_eq_false_iff, Bool.not_eq_true', Bool.not_eq_false', Int.toNat_natCast, bne_iff_ne, beq_iff_eq, bne_eq_false_iff_eq, beq_eq_false_iff_ne, ne_eq] at c3
        refine .exit ?_
        refine .xcode ?_
        refine .xlp ?_
        refine .xblk ?_
        refine .code ?_
        refine .seq ?_
        refine wk_fs .here (fun _ _ => rfl) (by intro b hb; cases hb) ?_; intro GfRR hRR hleRR evRR hsRR; subst evRR
        have hs := hs.mono hleRR
        have hR := hR.mono hleRR
        have hA := hA.mono hleRR
        have hsRR := SlP.of hsRR hA
        refine Wk.rg [0, 1, 2, 3, 4, 5, 6] rfl rfl ?_
        refine fz rfl .no Fx.fo52_2 (.u rfl) ?_
        refine ld rfl .no Fx.ag3 (.u rfl) (fun _ => Rd.own (.there .here) (by first | exact wap_f rfl | rfl)) ?_
        refine mv rfl .no (.u rfl) ?_
        refine ln rfl .no Fx.sn27 (.u rfl) ?_
        refine cp rfl .no (.u rfl) (.u rfl) rfl ?_
        refine fz rfl .no Fx.fo52_3 (.u rfl) ?_
        refine s1 rfl (.u rfl) (.u rfl) rfl Fx.sz4 (.there .here) (by show _ < 8; decide) (rfl) ?_
        refine .nil ?_
        refine .code ?_
        refine .seq ?_
        refine Wk.rg [0, 1, 2] rfl rfl ?_
        refine lA rfl .no Fx.ag52 (.u rfl) (fun _ => RdN.own .here) (fun _ => (by first | exact (key_len _ _).trans (key_len _ _).symm | exact key_len _ _ | exact ba_len _ _ | rfl)) ?_
        refine sw rfl (.u rfl) (.u rfl) rfl Fx.sz52 (.there (.there (.there (.there .here)))) (by first | exact (key_len _ _).trans (key_len _ _).symm | exact key_len _ _ | exact ba_len _ _ | rfl) (one8 rfl rfl rfl rfl rfl rfl rfl rfl) ?_
        refine asg rfl .no (.u rfl) ?_
        refine .nil ?_
        refine .code ?_
        refine .ret ?_
        refine We.fin0 Tryd.results26 (.cell rfl (fun w hw => run_loadVarN Fx.ag52 (RdN.own .here) ((by first | exact (key_len _ _).trans (key_len _ _).symm | exact key_len _ _ | exact ba_len _ _ | rfl)) hw) (.tmp rfl .nil)) ?_
        have E := read_some (root := root) (by omega) c2 (eB.trans (rd_short (by rw [List.length_drop]; omega)))
        refine ⟨hRR, ps, hsRR, by rw [E], rfl, ?_⟩
        rw [E]
        · exact congrArg (fun z => Value.tuple #[.agg (List.toArray z), .int .i64 0]) (cells_l8 rfl rfl rfl (by simp))

theorem same_ok (xh : Hd) (s : Sh) (ps : List (Sh × List Y)) (used : Int) (torn : Bool) (s2 : Sh) (qs : List (Sh × List Y)) (G : PM) (hs : SlP G s ps) (hs2 : SlP G s2 qs) (he : ps.map (·.2) = qs.map (·.2)) (hl : ps.length ≤ 1000000000) : Ct Tryd.prog 27 ([.agg ([V xh.kind, V xh.level, uv .u64 xh.gen, uv .u64 xh.epoch, uv .u64 xh.num, (s.val ps.length), .int .i64 used, .bool torn] : List Value).toArray, .agg ([V xh.kind, V xh.level, uv .u64 xh.gen, uv .u64 xh.epoch, uv .u64 xh.num, (s2.val qs.length), .int .i64 used, .bool torn] : List Value).toArray] : List Value).toArray G [] (fun _ μ' u => μ' = [] ∧ u = .bool true) := by
  refine Ct.of Tryd.func27 rfl Tryd.ntmps27 rfl fun w0 hs0 => ?_
  have le : ps.length = qs.length := by have := congrArg List.length he; simpa using this
  refine .seq ?_
  refine Wk.rg [0, 1, 2] rfl rfl ?_
  refine bx rfl (.u rfl) rfl ?_; intro b2
  refine bx rfl (.u rfl) rfl ?_; intro b3
  refine asg rfl .no (.u rfl) ?_
  refine .nil ?_
  refine .code ?_
  refine .seq ?_
  refine .seq ?_
  refine Wk.rg [0, 1, 2, 3, 4, 5, 6, 7, 8, 9, 10, 11, 12, 13, 14, 15, 16, 17, 18, 19, 20, 21, 22, 23, 24, 25, 26, 27] rfl rfl ?_
  refine fz rfl .no FxWalL.fo52_0 (.u rfl) ?_
  refine lA rfl .no Fx.ag45 (.u rfl) (fun _ => RdN.part (n := 5) (cs' := [V xh.kind, V xh.level, uv .u64 xh.gen, uv .u64 xh.epoch, uv .u64 xh.num]) (.there .here) (rfl)) (fun _ => rfl) ?_
  refine fz rfl .no FxWalL.fo52_0 (.u rfl) ?_
  refine lA rfl .no Fx.ag45 (.u rfl) (fun _ => RdN.part (n := 5) (cs' := [V xh.kind, V xh.level, uv .u64 xh.gen, uv .u64 xh.epoch, uv .u64 xh.num]) .here (rfl)) (fun _ => rfl) ?_
  refine nqC (decide (xh = xh)) rfl .no FxWalL.eqt45 (.u rfl) (.u rfl) (fun _ => hd_conf _) (fun _ => hd_conf _) (fun _ => hd_iff) ?_
  refine mv rfl .no (.u rfl) ?_
  refine fz rfl (.f rfl rfl) Fx.fo52_2 (.u rfl) ?_
  refine ld rfl (.f rfl rfl) Fx.ag3 (.s rfl) (fun hc => Rd.own (.there .here) (by first | exact wap_f rfl | rfl)) ?_
  refine fz rfl (.f rfl rfl) Fx.fo52_2 (.u rfl) ?_
  refine ld rfl (.f rfl rfl) Fx.ag3 (.s rfl) (fun hc => Rd.own .here (by first | exact wap_f rfl | rfl)) ?_
  refine cp rfl (.f rfl rfl) (.s rfl) (.s rfl) rfl ?_
  refine pkO rfl .no (.u rfl) (.s rfl) ?_
  refine mv rfl .no (.u rfl) ?_
  refine fz rfl (.f rfl rfl) Fx.fo52_3 (.u rfl) ?_
  refine ld rfl (.f rfl rfl) Fx.ag4 (.s rfl) (fun hc => Rd.own (.there .here) (by first | exact wap_f rfl | rfl)) ?_
  refine fz rfl (.f rfl rfl) Fx.fo52_3 (.u rfl) ?_
  refine ld rfl (.f rfl rfl) Fx.ag4 (.s rfl) (fun hc => Rd.own .here (by first | exact wap_f rfl | rfl)) ?_
  refine nb rfl (.f rfl rfl) Fx.bt4 (.s rfl) (.s rfl) ?_
  refine pkO rfl .no (.u rfl) (.s rfl) ?_
  refine mv rfl .no (.u rfl) ?_
  refine fz rfl (.f rfl rfl) Fx.fo52_1 (.u rfl) ?_
  refine ld rfl (.f rfl rfl) Fx.ag50 (.s rfl) (fun hc => Rd.own (.there .here) (by first | exact wap_f rfl | rfl)) ?_
  refine ln rfl (.f rfl rfl) Fx.sn50 (.s rfl) ?_
  refine fz rfl (.f rfl rfl) Fx.fo52_1 (.u rfl) ?_
  refine ld rfl (.f rfl rfl) Fx.ag50 (.s rfl) (fun hc => Rd.own .here (by first | exact wap_f rfl | rfl)) ?_
  refine ln rfl (.f rfl rfl) Fx.sn50 (.s rfl) ?_
  refine cp rfl (.f rfl rfl) (.s rfl) (.s rfl) rfl ?_
  refine pkO rfl .no (.u rfl) (.s rfl) ?_
  refine .nil ?_
  refine .code ?_
  refine .cond rfl (fun c1 => ?_) (fun c1 => ?_)
  · have c1k := c1
    rw [le] at c1
    simp at c1
  · have c1k := c1
    try simp only [decide_eq_true_eq, decide_eq_false_iff_not, Int.not_lt, Int.not_le, gt_iff_lt, ge_iff_le, Bool.or_eq_true, Bool.and_eq_true, Bool.or_eq_false_iff, Bool.and_eq_false_iff, Bool.not_eq_true', Bool.not_eq_false', Int.toNat_natCast, bne_iff_ne, beq_iff_eq, bne_eq_false_iff_eq, beq_eq_false_iff_ne, ne_eq] at c1
    refine .skip ?_
    refine .code ?_
    refine .seq ?_
    refine .seq ?_
    refine Wk.rg [0] rfl rfl ?_
    refine asg rfl .no (.u rfl) ?_
    refine .nil ?_
    refine .code ?_
    refine .block ?_
    refine Wk.lop (α := Nat) (fun k => [(5, true, .int .i64 (k : Int))]) (fun _ => [])
      (fun k Gl => (k ≤ ps.length)) (fun k => ps.length - k) 0 [(2, true, _), (3, true, _)] [_, _]
      (ESub.cons rfl (by first | rfl | exact evi (by omega)) (ESub.cons rfl rfl (ESub.cons rfl rfl ESub.nil)))
      (MSub.cons .here rfl (MSub.cons .here rfl MSub.nil)) ?_ ?_
    · (try dsimp only) <;> (first | omega | rfl | assumption | (simp; done))
    intro k N0 Gl0 hN0 hGl0 hF0
    try dsimp only at hF0 hN0 ⊢
    have hk := hF0
    have hs := hs.mono hGl0
    have hs2 := hs2.mono hGl0
    refine .seq ?_
    refine .seq ?_
    refine Wk.rg [0, 1, 2, 3, 4] rfl rfl ?_
    refine mv rfl .no (.u rfl) ?_
    refine fz rfl .no Fx.fo52_1 (.u rfl) ?_
    refine ld rfl .no Fx.ag50 (.u rfl) (fun _ => Rd.own (.there .here) (by first | exact wap_f rfl | rfl)) ?_
    refine ln rfl .no Fx.sn50 (.u rfl) ?_
    refine cp rfl .no (.u rfl) (.u rfl) rfl ?_
    refine .nil ?_
    refine .code ?_
    refine .cond rfl (fun c2 => ?_) (fun c2 => ?_)
    · have c2k := c2
      try simp only [decide_eq_true_eq, decide_eq_false_iff_not, Int.not_lt, Int.not_le, gt_iff_lt, ge_iff_le, Bool.or_eq_true, Bool.and_eq_true, Bool.or_eq_false_iff, Bool.and_eq_false_iff, Bool.not_eq_true', Bool.not_eq_false', Int.toNat_natCast, bne_iff_ne, beq_iff_eq, bne_eq_false_iff_eq, beq_eq_false_iff_ne, ne_eq] at c2
      refine .skip ?_
      refine .code ?_
      refine .seq ?_
      refine .block ?_
      refine .seq ?_
      refine Wk.draw (mc := ⟨false, false⟩) [0, 1, 2, 3, 4, 5, 6, 7, 8, 9, 10, 11, 12] Fx.mix (by kernel_rfl) ?_
      refine fz rfl .no Fx.fo52_1 (.u rfl) ?_
      refine ld rfl .no Fx.ag50 (.u rfl) (fun _ => Rd.own (.there .here) (by first | exact wap_f rfl | rfl)) ?_
      refine mv rfl .no (.u rfl) ?_
      refine ih rfl .no Fx.se50 (.u rfl) (.u rfl) (fun _ => by omega) (fun _ => by omega) (fun _ => hs.sl.nn (k := k) (by omega)) ?_
      obtain ⟨p45, ep45⟩ := getx (k := k) (xs := ps) (by omega)
      have hq45 := hs.get ep45
      refine ld rfl .no Fx.ag27 (.u rfl) (fun _ => (hs.at (k) (by omega) ep45).rd) ?_
      refine sB rfl .no Fx.bs27_9 (.u rfl) (fun _ => hq45.sc) ?_
      refine fz rfl .no Fx.fo52_1 (.u rfl) ?_
      refine ld rfl .no Fx.ag50 (.u rfl) (fun _ => Rd.own .here (by first | exact wap_f rfl | rfl)) ?_
      refine mv rfl .no (.u rfl) ?_
      refine ih rfl .no Fx.se50 (.u rfl) (.u rfl) (fun _ => by omega) (fun _ => by omega) (fun _ => hs2.sl.nn (k := k) (by omega)) ?_
      obtain ⟨p51, ep51⟩ := getx (k := k) (xs := qs) (by omega)
      have hq51 := hs2.get ep51
      refine ld rfl .no Fx.ag27 (.u rfl) (fun _ => (hs2.at (k) (by omega) ep51).rd) ?_
      refine sB rfl .no Fx.bs27_9 (.u rfl) (fun _ => hq51.sc) ?_
      refine cbn rfl .no (.u rfl) (.u rfl) ?_
      refine .nil ?_
      refine .code ?_
      refine .cond rfl (fun c3 => ?_) (fun c3 => ?_)
      · have c3k := c3
        try simp only [decide_eq_true_eq, decide_eq_false_iff_not, Int.not_lt, Int.not_le, gt_iff_lt, ge_iff_le, Bool.or_eq_true, Bool.and_eq_true, Bool.or_eq_false_iff, Bool.and_eq_false_iff, Bool.not_eq_true', Bool.not_eq_false', Int.toNat_natCast, bne_iff_ne, beq_iff_eq, bne_eq_false_iff_eq, beq_eq_false_iff_ne, ne_eq] at c3
        exact absurd (by have h1 := map_at ep45; rw [he, map_at ep51] at h1; exact (Option.some.inj h1).symm) c3
      · have c3k := c3
        try simp only [decide_eq_true_eq, decide_eq_false_iff_not, Int.not_lt, Int.not_le, gt_iff_lt, ge_iff_le, Bool.or_eq_true, Bool.and_eq_true, Bool.or_eq_false_iff, Bool.and_eq_false_iff, Bool.not_eq_true', Bool.not_eq_false', Int.toNat_natCast, bne_iff_ne, beq_iff_eq, bne_eq_false_iff_eq, beq_eq_false_iff_ne, ne_eq] at c3
        refine .skip ?_
        refine .blk ?_
        refine .code ?_
        refine Wk.rg [0, 1, 2] rfl rfl ?_
        refine mv rfl .no (.u rfl) ?_
        refine arn (((k + 1) : Nat) : Int) rfl .no (.u rfl) (.u rfl) rfl (fun _ => by omega) (fun _ => wrap_i64 (by omega) (by omega)) ?_
        refine asg rfl .no (.u rfl) ?_
        refine .nil ?_
        refine We.lpo (k + 1) ?_ ?_ ?_ ?_ ?_
        · exact (ESub.cons rfl (by first | rfl | exact evi (by omega)) (ESub.cons rfl rfl (ESub.cons rfl rfl ESub.nil)))
        · exact (MSub.cons .here rfl (MSub.cons .here rfl MSub.nil))
        · first | omega | (dsimp only; omega)
        · exact hGl0
        · (try dsimp only) <;> (first | omega | rfl | assumption | (simp; done))
    · have c2k := c2
      try simp only [decide_eq_true_eq, decide_eq_false_iff_not, Int.not_lt, Int.not_le, gt_iff_lt, ge_iff_le, Bool.or_eq_true, Bool.and_eq_true, Bool.or_eq_false_iff, Bool.and_eq_false_iff, Bool.not_eq_true', Bool.not_eq_false', Int.toNat_natCast, bne_iff_ne, beq_iff_eq, bne_eq_false_iff_eq, beq_eq_false_iff_ne, ne_eq] at c2
      refine .exit ?_
      refine .xcode ?_
      refine .xlp ?_
      refine .xblk ?_
      refine .code ?_
      refine .seq ?_
      refine Wk.rg [0] rfl rfl ?_
      refine asg rfl .no (.u rfl) ?_
      refine .nil ?_
      refine .code ?_
      refine .ret ?_
      refine We.fin0 Tryd.results27 (.tmp rfl .nil) ?_
      exact ⟨rfl, rfl⟩

theorem rRead_o (root : Nat → Y) (xs : List Y) (hx : Sh) (G : PM) (hs : SlR G 1 encY hx xs) (hR : RdNP G 0 0 (wa 64 kW)) (hm : xs.length ≤ 100000000) : Ct Tryd.prog 26 ([.agg (ba 32 root).toArray, hx.val xs.length] : List Value).toArray G [] (fun G' μ' u => ∃ RP s ps, RP = readP root xs ∧ SlP G' s ps ∧ ps.map (·.2) = RP.1.recs ∧ μ' = [] ∧ u = .tuple #[.agg ([V RP.1.hd.kind, V RP.1.hd.level, uv .u64 RP.1.hd.gen, uv .u64 RP.1.hd.epoch, uv .u64 RP.1.hd.num, (s.val ps.length), .int .i64 (RP.1.used : Int), .bool RP.1.torn] : List Value).toArray, .int .i64 RP.2]) :=
  (rRead_ok root xs hx G hs hR hm).mono fun G' μ' u ⟨s, ps, h1, h2, h3, h4⟩ => ⟨readP root xs, s, ps, rfl, h1, h2, h3, h4⟩
theorem wRead_p (root : Nat → Y) (xs : List Y) (hx : Sh) (G : PM) (hs : SlR G 1 encY hx xs) (hK : RdNP G 1 0 (wa 64 kW)) (hm : xs.length ≤ 100000000) : Ct Tryd.prog 25 ([.agg (ba 32 root).toArray, hx.val xs.length] : List Value).toArray G [] (fun G' μ' u => ∃ RP s ps, RP = readP root xs ∧ SlP G' s ps ∧ ps.map (·.2) = RP.1.recs ∧ μ' = [] ∧ u = .tuple #[.agg ([V RP.1.hd.kind, V RP.1.hd.level, uv .u64 RP.1.hd.gen, uv .u64 RP.1.hd.epoch, uv .u64 RP.1.hd.num, (s.val ps.length), .int .i64 (RP.1.used : Int), .bool RP.1.torn] : List Value).toArray, .int .i64 RP.2]) :=
  (wRead_ok root xs hx G hs hK hm).mono fun G' μ' u ⟨s, ps, h1, h2, h3, h4⟩ => ⟨readP root xs, s, ps, rfl, h1, h2, h3, h4⟩
theorem recs_le {op : Nat → List Y → Option (List Y)} {tot : Nat} : ∀ (n : Nat) (r parts : List Y) (recs : List (List Y)) (used : Nat) (R : List (List Y)) (u : Nat), r.length ≤ n → readL op tot r parts recs used = some (R, u) → R.length ≤ recs.length + r.length
  | n, r, parts, recs, used, R, u, hn, h => by
    unfold readL at h
    split at h
    · cases h; omega
    · split at h
      · cases h
      · split at h
        · cases h; omega
        · split at h
          · cases h
          · split at h
            · split at h
              · cases h
              · cases n with
                | zero => omega
                | succ n =>
                  have := recs_le n _ _ _ _ _ _ (by rw [List.length_drop]; omega) h
                  simp only [List.length_append, List.length_singleton, List.length_drop] at this
                  omega
            · cases n with
              | zero => omega
              | succ n =>
                have := recs_le n _ _ _ _ _ _ (by rw [List.length_drop]; omega) h
                simp only [List.length_drop] at this
                omega
theorem read_few {root : Nat → Y} {xs : List Y} : (readP root xs).1.recs.length ≤ xs.length := by
  unfold readP
  split
  · simp
  · split
    · simp
    · split
      · simp
      · rename_i recs used hb
        have := recs_le _ _ _ _ _ _ _ (Nat.le_refl _) hb
        simp only [List.length_nil, List.length_drop] at this
        simp only; omega
theorem WalReads_ok (root : Nat → Y) (xs : List Y) (hx : Sh) (G : PM) (hs : SlR G 1 encY hx xs) (hK : RdNP G 1 0 (wa 64 kW)) (hR : RdNP G 0 0 (wa 64 kW)) : Ct Tryd.prog 10 ([.agg (ba 32 root).toArray, hx.val xs.length] : List Value).toArray G [] (fun _ μ' u => μ' = [] ∧ u = .bool true) := by
  refine Ct.of Tryd.func10 rfl Tryd.ntmps10 rfl fun w0 hs0 => ?_
  refine .seq ?_
  refine Wk.rg [0, 1] rfl rfl ?_
  refine bx rfl (.u rfl) rfl ?_; intro b2
  refine asg rfl .no (.u rfl) ?_
  refine .nil ?_
  refine .code ?_
  refine .seq ?_
  refine Wk.rg [0, 1] rfl rfl ?_
  refine kv rfl .no FxWalL.go22 Eva.nil (fun _ => shown16_ok _ hK) ?_
  refine asg rfl .no (.u rfl) ?_
  refine .nil ?_
  refine .code ?_
  refine .seq ?_
  refine .seq ?_
  refine Wk.rg [0, 1, 2] rfl rfl ?_
  refine mv rfl .no (.u rfl) ?_
  refine ln rfl .no Fx.sn27 (.u rfl) ?_
  refine cp rfl .no (.u rfl) (.u rfl) rfl ?_
  refine .nil ?_
  refine .code ?_
  refine .cond rfl (fun c1 => ?_) (fun c1 => ?_)
  · have c1k := c1
    try simp only [decide_eq_true_eq, decide_eq_false_iff_not, Int.not_lt, Int.not_le, gt_iff_lt, ge_iff_le, Bool.or_eq_true, Bool.and_eq_true, Bool.or_eq_false_iff, Bool.and_eq_false_iff, Bool.not_eq_true', Bool.not_eq_false', Int.toNat_natCast, bne_iff_ne, beq_iff_eq, bne_eq_false_iff_eq, beq_eq_false_iff_ne, ne_eq] at c1
    refine .seq ?_
    refine Wk.rg [0, 1] rfl rfl ?_
    refine mv rfl .no (.u rfl) ?_
    refine asg rfl .no (.u rfl) ?_
    refine .nil ?_
    refine .code ?_
    refine .ret ?_
    refine We.fin0 Tryd.results10 (.tmp rfl .nil) ?_
    exact ⟨rfl, rfl⟩
  · have c1k := c1
    try simp only [decide_eq_true_eq, decide_eq_false_iff_not, Int.not_lt, Int.not_le, gt_iff_lt, ge_iff_le, Bool.or_eq_true, Bool.and_eq_true, Bool.or_eq_false_iff, Bool.and_eq_false_iff, Bool.not_eq_true', Bool.not_eq_false', Int.toNat_natCast, bne_iff_ne, beq_iff_eq, bne_eq_false_iff_eq, beq_eq_false_iff_ne, ne_eq] at c1
    refine .skip ?_
    refine .code ?_
    refine .seq ?_
    refine Wk.rg [0, 1, 2, 3, 4, 5, 6, 7, 8] rfl rfl ?_
    refine lA rfl .no Fx.ag42 (.u rfl) (fun _ => RdN.own .here) (fun _ => (by first | exact (ba_len _ _).trans (ba_len _ _).symm | exact (wa_len _ _).trans (wa_len _ _).symm | exact ba_len _ _ | exact wa_len _ _ | rfl | (simp only [wa_len, ba_len, List.length_append, List.length_cons, List.length_nil]))) ?_
    refine mv rfl .no (.u rfl) ?_
    refine kc rfl Fx.go25 (Eva.cons (.u rfl) (Eva.cons (.u rfl) Eva.nil)) (wRead_p root xs hx _ hs hK (by omega)) ?_
    rintro _ G18 μ18 hG18 ⟨RP18, sR18, pR18, eR18, hP18, eP18, rfl, rfl⟩
    have hs := hs.mono hG18
    have hK := hK.mono hG18
    have hR := hR.mono hG18
    refine mv rfl .no (.u rfl) ?_
    refine ex rfl .no (.u rfl) rfl ?_
    refine ex rfl .no (.u rfl) rfl ?_
    refine al rfl Fx.zr52 ?_; intro b6
    refine sw rfl (.u rfl) (.u rfl) rfl Fx.sz52 .here (by first | exact (ba_len _ _).trans (ba_len _ _).symm | exact (wa_len _ _).trans (wa_len _ _).symm | exact ba_len _ _ | exact wa_len _ _ | rfl | (simp only [wa_len, ba_len, List.length_append, List.length_cons, List.length_nil])) (one8 rfl rfl rfl rfl rfl rfl rfl rfl) ?_
    refine asg rfl .no (.u rfl) ?_
    refine .nil ?_
    refine .code ?_
    refine .seq ?_
    refine Wk.rg [0, 1, 2, 3, 4, 5, 6, 7, 8] rfl rfl ?_
    refine lA rfl .no Fx.ag42 (.u rfl) (fun _ => RdN.own (.there .here)) (fun _ => (by first | exact (ba_len _ _).trans (ba_len _ _).symm | exact (wa_len _ _).trans (wa_len _ _).symm | exact ba_len _ _ | exact wa_len _ _ | rfl | (simp only [wa_len, ba_len, List.length_append, List.length_cons, List.length_nil]))) ?_
    refine mv rfl .no (.u rfl) ?_
    refine kc rfl Fx.go26 (Eva.cons (.u rfl) (Eva.cons (.u rfl) Eva.nil)) (rRead_o root xs hx _ hs hR (by omega)) ?_
    rintro _ G24 μ24 hG24 ⟨RP24, sR24, pR24, eR24, hP24, eP24, rfl, rfl⟩
    have hs := hs.mono hG24
    have hK := hK.mono hG24
    have hR := hR.mono hG24
    have hP18 := hP18.mono hG24
    refine mv rfl .no (.u rfl) ?_
    refine ex rfl .no (.u rfl) rfl ?_
    refine ex rfl .no (.u rfl) rfl ?_
    refine al rfl Fx.zr52 ?_; intro b8
    refine sw rfl (.u rfl) (.u rfl) rfl Fx.sz52 .here (by first | exact (ba_len _ _).trans (ba_len _ _).symm | exact (wa_len _ _).trans (wa_len _ _).symm | exact ba_len _ _ | exact wa_len _ _ | rfl | (simp only [wa_len, ba_len, List.length_append, List.length_cons, List.length_nil])) (one8 rfl rfl rfl rfl rfl rfl rfl rfl) ?_
    refine asg rfl .no (.u rfl) ?_
    refine .nil ?_
    obtain rfl : RP24 = RP18 := eR24.trans eR18.symm
    refine .code ?_
    refine .seq ?_
    refine Wk.rg [0, 1, 2, 3, 4, 5, 6, 7, 8, 9, 10, 11] rfl rfl ?_
    refine mv rfl .no (.u rfl) ?_
    refine mv rfl .no (.u rfl) ?_
    refine lA rfl (.t rfl rfl) Fx.ag52 (.u rfl) (fun _ => RdN.own (.there .here)) (fun _ => (by first | exact (ba_len _ _).trans (ba_len _ _).symm | exact (wa_len _ _).trans (wa_len _ _).symm | exact ba_len _ _ | exact wa_len _ _ | rfl | (simp only [wa_len, ba_len, List.length_append, List.length_cons, List.length_nil]))) ?_
    refine lA rfl (.t rfl rfl) Fx.ag52 (.u rfl) (fun _ => RdN.own .here) (fun _ => (by first | exact (ba_len _ _).trans (ba_len _ _).symm | exact (wa_len _ _).trans (wa_len _ _).symm | exact ba_len _ _ | exact wa_len _ _ | rfl | (simp only [wa_len, ba_len, List.length_append, List.length_cons, List.length_nil]))) ?_
    refine kv rfl (.t rfl rfl) Fx.go27 (Eva.cons (.u rfl) (Eva.cons (.u rfl) Eva.nil)) (fun _ => same_ok RP24.1.hd sR18 pR18 (RP24.1.used : Int) RP24.1.torn sR24 pR24 _ hP18 hP24 (by rw [eP18, eP24]) (by have h1 := read_few (root := root) (xs := xs); rw [← eR18, ← eP18, List.length_map] at h1; omega)) ?_
    refine pkA rfl .no (.u rfl) (.u rfl) ?_
    refine mv rfl .no (.u rfl) ?_
    refine mv rfl (.t rfl rfl) (.u rfl) ?_
    refine mv rfl (.t rfl rfl) (.u rfl) ?_
    refine cp rfl (.t rfl rfl) (.u rfl) (.u rfl) rfl ?_
    refine pkA rfl .no (.u rfl) (.u rfl) ?_
    refine asg rfl .no (.u rfl) ?_
    refine .nil ?_
    refine .code ?_
    refine .ret ?_
    refine We.fin0 Tryd.results10 (.tmp rfl .nil) ?_
    refine ⟨rfl, congrArg Value.bool ?_⟩
    simp

end Go.Proofs.YtoogjfldgeiapaaDoor
