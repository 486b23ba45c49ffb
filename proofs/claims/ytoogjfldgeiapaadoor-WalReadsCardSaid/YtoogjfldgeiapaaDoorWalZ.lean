/- Contracts of functions, walked. -/
import Derived.Test.YtoogjfldgeiapaaDoorWalY
namespace Go.Proofs.YtoogjfldgeiapaaDoor
set_option linter.unusedSimpArgs false
set_option linter.unusedVariables false
open Go.Tan Go.RowKit

namespace Fx
theorem sz81 : szT Tryd.prog 81 = some 74 := by kernel_rfl
theorem bp52_0_2 : bPl Tryd.prog 52 [0, 2] = some ([V 0#8, V 0#8, uv .u64 0#64, uv .u64 0#64, uv .u64 0#64, .slice none 0 0, .int .i64 0, .bool false], [(0, 5), (6, 1)]) := by kernel_rfl
theorem bp81_0_1_2 : bPl Tryd.prog 81 [0, 1, 2] = some (ba 32 zF ++ ba 32 zF ++ [.slice none 0 0, V 0#8, V 0#8, uv .u64 0#64, uv .u64 0#64, uv .u64 0#64, .slice none 0 0, .int .i64 0, .bool false, .slice none 0 0], [(0, 64), (64, 1), (65, 8)]) := by kernel_rfl
theorem zr81 : zrL Tryd.prog 81 = some (ba 32 zF ++ ba 32 zF ++ [.slice none 0 0, V 0#8, V 0#8, uv .u64 0#64, uv .u64 0#64, uv .u64 0#64, .slice none 0 0, .int .i64 0, .bool false, .slice none 0 0]) := by kernel_rfl
theorem cv5_3 : cvK Tryd.prog 5 3 = some .i64 := by kernel_rfl
theorem fo52_2 : fOff Tryd.prog 52 2 = some 6 := by kernel_rfl
theorem sz4 : szT Tryd.prog 4 = some 1 := by kernel_rfl
theorem go47 : goFn Tryd.prog 47 = true := by kernel_rfl
theorem go48 : goFn Tryd.prog 48 = true := by kernel_rfl
end Fx
theorem cells_l8 {h h' : Hd} {v v' : Value} {u u' : Int} {t t' : Bool} (e1 : h = h') (e2 : v = v') (e3 : u = u') (e4 : t = t') : ([V h.kind, V h.level, uv .u64 h.gen, uv .u64 h.epoch, uv .u64 h.num, v, .int .i64 u, .bool t] : List Value) = [V h'.kind, V h'.level, uv .u64 h'.gen, uv .u64 h'.epoch, uv .u64 h'.num, v', .int .i64 u', .bool t'] := by rw [e1, e2, e3, e4]
theorem three {α β γ : Type} [DecidableEq α] (A B : α) (o : Option (β × γ)) : A ≠ B ∨ (A = B ∧ o = none) ∨ (A = B ∧ ∃ Q R, o = some (Q, R)) := by
  by_cases h : A = B
  · rcases o with _ | ⟨Q, R⟩
    · exact .inr (.inl ⟨h, rfl⟩)
    · exact .inr (.inr ⟨h, Q, R, rfl⟩)
  · exact .inl h
theorem sh8 {m : Nat} (h : m < 256) : IntKind.i64.wrap ((m : Int) * 2 ^ (min (8 : Int).toNat IntKind.i64.bits)) = ((256 * m : Nat) : Int) := by
  rw [show min (8 : Int).toNat IntKind.i64.bits = 8 from rfl, show (2 : Int) ^ 8 = 256 from rfl, wrap_i64 (by omega) (by omega)]; omega
theorem rd_on {op : Nat → List Y → Option (List Y)} {tot : Nat} {r parts p Q r' : List Y} {recs R : List (List Y)} {used n u : Nat} {X : Option (List (List Y) × Nat)} (eB : X = readL op tot r parts recs used) (h : ¬ r.length < 7) (en : n = pieceN r) (hn : ¬ (n = 0 ∨ 128 < n)) (ht : ¬ r.length < 7 + n) (ep : p = (r.drop 7).take n) (hf : frameL (r.getD 6 0) p = r.take 7)
    (hT : takeS op parts recs (r.getD 6 0) p = some (Q, R)) (er : r' = r.drop (7 + n)) (eu : u = if Q.isEmpty then tot - r'.length else used) : X = readL op tot r' Q R u := by
  rw [eB, rd_take h en hn ht ep hf, hT, er, eu, er]
theorem wRead_ok (root : Nat → Y) (xs : List Y) (hx : Sh) (G : PM) (hs : SlR G 1 encY hx xs) (hK : RdNP G 1 0 (wa 64 kW)) (hm : xs.length ≤ 100000000) : Ct Tryd.prog 25 ([.agg (ba 32 root).toArray, hx.val xs.length] : List Value).toArray G [] (fun G' μ' u => ∃ s ps, SlP G' s ps ∧ ps.map (·.2) = (readP root xs).1.recs ∧ μ' = [] ∧ u = .tuple #[.agg ([V (readP root xs).1.hd.kind, V (readP root xs).1.hd.level, uv .u64 (readP root xs).1.hd.gen, uv .u64 (readP root xs).1.hd.epoch, uv .u64 (readP root xs).1.hd.num, (s.val ps.length), .int .i64 ((readP root xs).1.used : Int), .bool (readP root xs).1.torn] : List Value).toArray, .int .i64 (readP root xs).2]) := by
  refine Ct.of Tryd.func25 rfl Tryd.ntmps25 rfl fun w0 hs0 => ?_
  refine .seq ?_
  refine Wk.rg [0, 1, 2] rfl rfl ?_
  refine bx rfl (.u rfl) rfl ?_; intro b2
  refine al rfl Fx.zr52 ?_; intro b4
  refine asg rfl .no (.u rfl) ?_
  refine .nil ?_
  refine .code ?_
  refine .seq ?_
  refine .seq ?_
  refine Wk.rg [0, 1, 2] rfl rfl ?_
  refine mv rfl .no (.u rfl) ?_
  refine ln rfl .no Fx.sn27 (.u rfl) ?_
  refine cp rfl .no (.u rfl) (.u rfl) rfl ?_
  refine .nil ?_
  refine .code ?_
  refine .cond rfl (fun c1 => ?_) (fun c1 => ?_)
  · have c1k := c1
    try simp only [decide_eq_true_eq, decide_eq_false_iff_not, Int.not_lt, Int.not_le, gt_iff_lt, ge_iff_le, Bool.or_eq_true, Bool.and_eq_true, Bool.or_eq_false_iff, Bool.and_eq_false_iff, Bool.not_eq_true', Bool.not_eq_false', Int.toNat_natCast, bne_iff_ne, beq_iff_eq, bne_eq_false_iff_eq, beq_eq_false_iff_ne, ne_eq] at c1
    refine .seq ?_
    refine Wk.rg [0, 1, 2] rfl rfl ?_
    refine bC rfl .no Fx.bp52_3 (.cons (.u rfl) rfl .nil) rfl ?_
    refine sw rfl (.u rfl) (.u rfl) rfl Fx.sz52 .here (by first | exact (key_len _ _).trans (key_len _ _).symm | exact key_len _ _ | exact ba_len _ _ | rfl) (one8 rfl rfl rfl rfl rfl rfl rfl rfl) ?_
    refine asg rfl .no (.u rfl) ?_
    refine .nil ?_
    refine .code ?_
    refine .ret ?_
    refine We.fin0 Tryd.results25 (.cell rfl (fun w hw => run_loadVarN Fx.ag52 (RdN.own .here) ((by first | exact (key_len _ _).trans (key_len _ _).symm | exact key_len _ _ | exact ba_len _ _ | rfl)) hw) (.tmp rfl .nil)) ?_
    refine ⟨⟨none, 0⟩, [], SlP.nul, by rw [read_short (by omega)]; rfl, rfl, ?_⟩
    rw [read_short (by omega)]; rfl
  · have c1k := c1
    try simp only [decide_eq_true_eq, decide_eq_false_iff_not, Int.not_lt, Int.not_le, gt_iff_lt, ge_iff_le, Bool.or_eq_true, Bool.and_eq_true, Bool.or_eq_false_iff, Bool.and_eq_false_iff, Bool.not_eq_true', Bool.not_eq_false', Int.toNat_natCast, bne_iff_ne, beq_iff_eq, bne_eq_false_iff_eq, beq_eq_false_iff_ne, ne_eq] at c1
    refine .skip ?_
    refine .code ?_
    refine .seq ?_
    refine Wk.rg [0, 1, 2, 3, 4, 5, 6, 7] rfl rfl ?_
    refine mv rfl .no (.u rfl) ?_
    refine kv rfl .no Fx.go46 (Eva.cons (.u rfl) Eva.nil) (fun _ => Take_ok xs hx _ hs (by omega)) ?_
    refine mv rfl .no (.u rfl) ?_
    refine ex rfl .no (.u rfl) rfl ?_
    refine ex rfl .no (.u rfl) rfl ?_
    refine al rfl Fx.zr45 ?_; intro b6
    refine sw rfl (.u rfl) (.u rfl) rfl Fx.sz45 .here (by first | exact (key_len _ _).trans (key_len _ _).symm | exact key_len _ _ | exact ba_len _ _ | rfl) (one5 rfl rfl rfl rfl rfl) ?_
    refine asg rfl .no (.u rfl) ?_
    refine .nil ?_
    refine .code ?_
    refine .seq ?_
    refine .seq ?_
    refine Wk.rg [0, 1] rfl rfl ?_
    refine mv rfl .no (.u rfl) ?_
    refine cp rfl .no (.u rfl) (.u rfl) rfl ?_
    refine .nil ?_
    refine .code ?_
    refine .cond rfl (fun c2 => ?_) (fun c2 => ?_)
    · have c2k := c2
      try simp only [decide_eq_true_eq, decide_eq_false_iff_not, Int.not_lt, Int.not_le, gt_iff_lt, ge_iff_le, Bool.or_eq_true, Bool.and_eq_true, Bool.or_eq_false_iff, Bool.and_eq_false_iff, Bool.not_eq_true', Bool.not_eq_false', Int.toNat_natCast, bne_iff_ne, beq_iff_eq, bne_eq_false_iff_eq, beq_eq_false_iff_ne, ne_eq] at c2
      refine .seq ?_
      refine Wk.rg [0, 1, 2, 3] rfl rfl ?_
      refine bC rfl .no Fx.bp52_ .nil rfl ?_
      refine mv rfl .no (.u rfl) ?_
      refine sw rfl (.u rfl) (.u rfl) rfl Fx.sz52 (.there .here) (by first | exact (key_len _ _).trans (key_len _ _).symm | exact key_len _ _ | exact ba_len _ _ | rfl) (one8 rfl rfl rfl rfl rfl rfl rfl rfl) ?_
      refine asg rfl .no (.u rfl) ?_
      refine .nil ?_
      refine .code ?_
      refine .ret ?_
      refine We.fin0 Tryd.results25 (.cell rfl (fun w hw => run_loadVarN Fx.ag52 (RdN.own .here) ((by first | exact (key_len _ _).trans (key_len _ _).symm | exact key_len _ _ | exact ba_len _ _ | rfl)) hw) (.tmp rfl .nil)) ?_
      refine ⟨⟨none, 0⟩, [], SlP.nul, by rw [read_head (by omega) c2]; rfl, rfl, ?_⟩
      rw [read_head (by omega) c2]; rfl
    · have c2k := c2
      try simp only [decide_eq_true_eq, decide_eq_false_iff_not, Int.not_lt, Int.not_le, gt_iff_lt, ge_iff_le, Bool.or_eq_true, Bool.and_eq_true, Bool.or_eq_false_iff, Bool.and_eq_false_iff, Bool.not_eq_true', Bool.not_eq_false', Int.toNat_natCast, bne_iff_ne, beq_iff_eq, bne_eq_false_iff_eq, beq_eq_false_iff_ne, ne_eq] at c2
      refine .skip ?_
      refine .code ?_
      refine .seq ?_
      refine Wk.draw (mc := ⟨false, false⟩) [0, 1, 3, 5, 6, 2, 4, 7, 8, 9] Fx.mix (by kernel_rfl) ?_
      refine lA rfl .no Fx.ag42 (.u rfl) (fun _ => RdN.own (.there (.there .here))) (fun _ => (by first | exact (key_len _ _).trans (key_len _ _).symm | exact key_len _ _ | exact ba_len _ _ | rfl)) ?_
      refine lA rfl .no Fx.ag45 (.u rfl) (fun _ => RdN.own .here) (fun _ => (by first | exact (key_len _ _).trans (key_len _ _).symm | exact key_len _ _ | exact ba_len _ _ | rfl)) ?_
      refine lA rfl .no Fx.ag45 (.u rfl) (fun _ => RdN.own .here) (fun _ => (by first | exact (key_len _ _).trans (key_len _ _).symm | exact key_len _ _ | exact ba_len _ _ | rfl)) ?_
      refine lA rfl .no Fx.ag45 (.u rfl) (fun _ => RdN.own .here) (fun _ => (by first | exact (key_len _ _).trans (key_len _ _).symm | exact key_len _ _ | exact ba_len _ _ | rfl)) ?_
      refine bCe ([V (takeH xs).1.kind, V (takeH xs).1.level, uv .u64 (takeH xs).1.gen, uv .u64 (takeH xs).1.epoch, uv .u64 (takeH xs).1.num, .slice none 0 0, .int .i64 30, .bool false]) rfl .no Fx.bp52_0_2 (.cons (.u rfl) rfl (.cons (.u rfl) rfl .nil)) rfl (rfl) ?_
      refine kv rfl .no Fx.go38 (Eva.cons (.u rfl) (Eva.cons (.u rfl) Eva.nil)) (fun _ => KeyOf_ok root (takeH xs).1 _ hK) ?_
      refine kc rfl Fx.go40 (Eva.cons (.u rfl) Eva.nil) (Ct.frzB (nLay_ok (takeH xs).1 _)) ?_
      rintro _ G29 μ29 hG29 ⟨h29, L29, eL29, rfl, rfl, hs29⟩
      have hs := hs.mono hG29
      have hK := hK.mono hG29
      refine bCe (rdC (keyEnc root (headL (takeH xs).1)) (keyMac root (headL (takeH xs).1)) (h29.val L29.length) (takeH xs).1 (.slice none 0 0) 30 false (.slice none 0 0)) rfl .no Fx.bp81_0_1_2 (.cons (.u rfl) rfl (.cons (.u rfl) rfl (.cons (.u rfl) rfl .nil))) (rd_ok rdz_len k64 rfl) (rd_built rfl k64 _ _ rfl) ?_
      refine al rfl Fx.zr81 ?_; intro b8
      refine sw rfl (.u rfl) (.u rfl) rfl (by rw [rdc_len]; exact Fx.sz81) .here (rdc_len.trans rdz_len.symm) (rdc_one rfl rfl rfl) ?_
      refine .nil ?_
      subst eL29
      have lh := head_len (takeH xs).1
      refine .code ?_
      refine .seq ?_
      refine wk_nilS 1 encP 27 ?_
      refine Wk.rg [0, 1, 2] rfl rfl ?_
      refine mv rfl .no (.u rfl) ?_
      refine kD (30) rfl .no Fx.se27 hs (.u rfl) (.u rfl) (fun _ => by omega) (fun _ => by omega) ?_
      intro h34 L34 eL34 lL34 hs34
      have lL34 := lL34 rfl
      refine asg rfl .no (.u rfl) ?_
      refine .nil ?_
      refine .code ?_
      refine .seq ?_
      refine .block ?_
      refine Wk.lop (α := List Y × Sh × List Y × Sh × List (Sh × List Y) × Value × Nat) (fun gh => [(9, true, gh.2.1.val gh.1.length)]) (fun gh => [rS 1 encP gh.2.2.2.2.2.1 27 gh.2.2.2.2.1, .blk b8 (cl (rdC (keyEnc root (headL (takeH xs).1)) (keyMac root (headL (takeH xs).1)) (h29.val (headL (takeH xs).1).length) (takeH xs).1 gh.2.2.2.2.2.1 (gh.2.2.2.2.2.2 : Int) false (gh.2.2.2.1.val gh.2.2.1.length)) 81)])
        (fun gh Gl => (SlR Gl 1 encY gh.2.1 gh.1) ∧ (SlR Gl 1 encY gh.2.2.2.1 gh.2.2.1) ∧ (AllS Gl gh.2.2.2.2.1) ∧ (gh.2.2.1 = [] → gh.2.2.2.1 = ⟨none, 0⟩) ∧ (bodyR root (takeH xs).1 xs = readL (openAt root (takeH xs).1) xs.length gh.1 gh.2.2.1 (gh.2.2.2.2.1.map (·.2)) gh.2.2.2.2.2.2) ∧ (gh.2.2.2.2.1.length + gh.1.length ≤ xs.length) ∧ (gh.2.2.1.length + gh.1.length ≤ xs.length)) (fun gh => gh.1.length) (L34, h34, [], ⟨none, 0⟩, [], .slice none 0 0, 30) [(1, true, _), (4, true, _), (8, true, _)] [_, _, _]
        (ESub.cons rfl rfl (ESub.cons rfl rfl (ESub.cons rfl rfl (ESub.cons rfl rfl ESub.nil))))
        (MSub.cons .here rfl (MSub.cons .here rfl (MSub.cons .here rfl (MSub.cons .here rfl (MSub.cons .here rfl MSub.nil))))) ?_ ?_
      · refine ⟨?_, ?_, ?_, ?_, ?_, ?_, ?_⟩
        · (try dsimp only) <;> (exact hs34)
        · (try dsimp only) <;> (exact SlR.nul)
        · (try dsimp only) <;> (exact AllS.nil)
        · (try dsimp only) <;> (exact fun _ => rfl)
        · (try dsimp only) <;> (rw [eL34]; rfl)
        · (try dsimp only) <;> (simp; omega)
        · (try dsimp only) <;> (simp; omega)
      intro gh N0 Gl0 hN0 hGl0 hF0
      obtain ⟨M, r, Q, sQ, ps, vr, used⟩ := gh; dsimp only at hF0 hN0 ⊢
      obtain ⟨hr, hq, hA, h0, eB, hps, hQ⟩ := hF0
      have hs := hs.mono hGl0
      have hK := hK.mono hGl0
      have hs29 := hs29.mono hGl0
      have hs34 := hs34.mono hGl0
      refine .seq ?_
      refine .seq ?_
      refine Wk.rg [0, 1, 2] rfl rfl ?_
      refine mv rfl .no (.u rfl) ?_
      refine ln rfl .no Fx.sn27 (.u rfl) ?_
      refine cp rfl .no (.u rfl) (.u rfl) rfl ?_
      refine .nil ?_
      refine .code ?_
      refine .cond rfl (fun c3 => ?_) (fun c3 => ?_)
      · have c3k := c3
        try simp only [decide_eq_true_eq, decide_eq_false_iff_not, Int.not_lt, Int.not_le, gt_iff_lt, ge_iff_le, Bool.or_eq_true, Bool.and_eq_true, Bool.or_eq_false_iff, Bool.and_eq_false_iff, Bool.not_eq_true', Bool.not_eq_false', Int.toNat_natCast, bne_iff_ne, beq_iff_eq, bne_eq_false_iff_eq, beq_eq_false_iff_ne, ne_eq] at c3
        refine .skip ?_
        refine .code ?_
        refine .block ?_
        refine .seq ?_
        refine Wk.draw (mc := ⟨false, false⟩) [0, 1, 2, 3, 4, 5, 6, 7, 8, 9, 10] Fx.mix (by kernel_rfl) ?_
        refine mv rfl .no (.u rfl) ?_
        refine ih rfl .no Fx.se27 (.u rfl) (.u rfl) (fun _ => by omega) (fun _ => by omega) (fun _ => hr.nn (k := 4) (by omega)) ?_
        refine ld rfl .no Fx.ag5 (.u rfl) (fun _ => (hr.yat (4) (by omega) (by omega)).rd) ?_
        refine cn (k := .u8) rfl .no Fx.cv5_3 (by decide) (.u rfl) ?_; intro m41 em41 lm41
        refine mv rfl .no (.u rfl) ?_
        refine ih rfl .no Fx.se27 (.u rfl) (.u rfl) (fun _ => by omega) (fun _ => by omega) (fun _ => hr.nn (k := 5) (by omega)) ?_
        refine ld rfl .no Fx.ag5 (.u rfl) (fun _ => (hr.yat (5) (by omega) (by omega)).rd) ?_
        refine cn (k := .u8) rfl .no Fx.cv5_3 (by decide) (.u rfl) ?_; intro m45 em45 lm45
        refine sl rfl .no (.u rfl) (.u rfl) (fun _ => by decide) ?_
        have lm41 : m41 < 256 := lm41
        have lm45 : m45 < 256 := lm45
        refine or8r (m41) (m45) rfl .no (.u rfl) (.u rfl) (fun _ => rfl) (fun _ => sh8 lm45) (by omega) (by omega) ?_
        refine asg rfl .no (.u rfl) ?_
        refine .nil ?_
        have en : m41 + 256 * m45 = pieceN M := by rw [em41, em45]; rfl
        refine .code ?_
        refine .seq ?_
        refine .seq ?_
        refine Wk.rg [0, 1, 2, 3, 4, 5] rfl rfl ?_
        refine mv rfl .no (.u rfl) ?_
        refine cp rfl .no (.u rfl) (.u rfl) rfl ?_
        refine mv rfl .no (.u rfl) ?_
        refine mv rfl (.f rfl rfl) (.u rfl) ?_
        refine cp rfl (.f rfl rfl) (.s rfl) (.u rfl) rfl ?_
        refine pkO rfl .no (.u rfl) (.s rfl) ?_
        refine .nil ?_
        refine .code ?_
        refine .cond rfl (fun c4 => ?_) (fun c4 => ?_)
        · have c4k := c4
          try simp only [decide_eq_true_eq, decide_eq_false_iff_not, Int.not_lt, Int.not_le, gt_iff_lt, ge_iff_le, Bool.or_eq_true, Bool.and_eq_true, Bool.or_eq_false_iff, Bool.and_eq_false_iff, Bool.not_eq_true', Bool.not_eq_false', Int.toNat_natCast, bne_iff_ne, beq_iff_eq, bne_eq_false_iff_eq, beq_eq_false_iff_ne, ne_eq] at c4
          refine .seq ?_
          refine Wk.rg [0, 1, 2] rfl rfl ?_
          refine bC rfl .no Fx.bp52_ .nil rfl ?_
          refine sw rfl (.u rfl) (.u rfl) rfl Fx.sz52 (.there (.there (.there .here))) (by first | exact (key_len _ _).trans (key_len _ _).symm | exact key_len _ _ | exact ba_len _ _ | rfl) (one8 rfl rfl rfl rfl rfl rfl rfl rfl) ?_
          refine asg rfl .no (.u rfl) ?_
          refine .nil ?_
          refine .code ?_
          refine .ret ?_
          refine We.fin0 Tryd.results25 (.cell rfl (fun w hw => run_loadVarN Fx.ag52 (RdN.own .here) ((by first | exact (key_len _ _).trans (key_len _ _).symm | exact key_len _ _ | exact ba_len _ _ | rfl)) hw) (.tmp rfl .nil)) ?_
          refine ⟨⟨none, 0⟩, [], SlP.nul, by rw [read_none (by omega) c2 (eB.trans (rd_bad (by omega) (by omega)))]; rfl, rfl, ?_⟩
          rw [read_none (by omega) c2 (eB.trans (rd_bad (by omega) (by omega)))]; rfl
        · have c4k := c4
          try simp only [decide_eq_true_eq, decide_eq_false_iff_not, Int.not_lt, Int.not_le, gt_iff_lt, ge_iff_le, Bool.or_eq_true, Bool.and_eq_true, Bool.or_eq_false_iff, Bool.and_eq_false_iff, Bool.not_eq_true', Bool.not_eq_false', Int.toNat_natCast, bne_iff_ne, beq_iff_eq, bne_eq_false_iff_eq, beq_eq_false_iff_ne, ne_eq] at c4
          refine .skip ?_
          refine .code ?_
          refine .seq ?_
          refine .seq ?_
          refine Wk.rg [0, 1, 2, 3, 4] rfl rfl ?_
          refine mv rfl .no (.u rfl) ?_
          refine ln rfl .no Fx.sn27 (.u rfl) ?_
          refine mv rfl .no (.u rfl) ?_
          refine arn (((7 + (m41 + 256 * m45)) : Nat) : Int) rfl .no (.u rfl) (.u rfl) rfl (fun _ => by omega) (fun _ => wrap_i64 (by omega) (by omega)) ?_
          refine cp rfl .no (.u rfl) (.u rfl) rfl ?_
          refine .nil ?_
          refine .code ?_
          refine .cond rfl (fun c5 => ?_) (fun c5 => ?_)
          · have c5k := c5
            try simp only [decide_eq_true_eq, decide_eq_false_iff_not, Int.not_lt, Int.not_le, gt_iff_lt, ge_iff_le, Bool.or_eq_true, Bool.and_eq_true, Bool.or_eq_false_iff, Bool.and_eq_false_iff, Bool.not_eq_true', Bool.not_eq_false', Int.toNat_natCast, bne_iff_ne, beq_iff_eq, bne_eq_false_iff_eq, beq_eq_false_iff_ne, ne_eq] at c5
            refine .exit ?_
            refine .xcode ?_
            refine .xnot rfl ?_
            refine .xlp ?_
            refine .xblk ?_
            refine .code ?_
            refine .seq ?_
            refine wk_fs .here (fun _ _ => rfl) (by intro b hb; cases hb) ?_; intro GfRR hRR hleRR evRR hsRR; subst evRR
            have hs := hs.mono hleRR
            have hK := hK.mono hleRR
            have hs29 := hs29.mono hleRR
            have hs34 := hs34.mono hleRR
            have hr := hr.mono hleRR
            have hq := hq.mono hleRR
            have hA := hA.mono hleRR
            have hsRR := SlP.of hsRR hA
            refine Wk.rg [0, 1, 2, 3, 4, 5, 6, 7, 8] rfl rfl ?_
            refine fz rfl .no Fx.fo81_2 (.u rfl) ?_
            refine fa rfl .no Fx.fo52_2 (.u rfl) ?_
            refine ld rfl .no Fx.ag3 (.u rfl) (fun _ => Rd.own .here rdc_used) ?_
            refine mv rfl .no (.u rfl) ?_
            refine ln rfl .no Fx.sn27 (.u rfl) ?_
            refine cp rfl .no (.u rfl) (.u rfl) rfl ?_
            refine fz rfl .no Fx.fo81_2 (.u rfl) ?_
            refine fa rfl .no Fx.fo52_3 (.u rfl) ?_
            refine s1 rfl (.u rfl) (.u rfl) rfl Fx.sz4 .here (by (try rw [rdc_len]); decide) (rds_torn) ?_
            refine .nil ?_
            refine .code ?_
            refine .seq ?_
            refine Wk.rg [0, 1, 2, 3] rfl rfl ?_
            refine fz rfl .no Fx.fo81_2 (.u rfl) ?_
            refine lA rfl .no Fx.ag52 (.u rfl) (fun _ => RdN.part (n := 8) (cs' := [V (takeH xs).1.kind, V (takeH xs).1.level, uv .u64 (takeH xs).1.gen, uv .u64 (takeH xs).1.epoch, uv .u64 (takeH xs).1.num, (hRR.val ps.length), .int .i64 (used : Int), .bool (decide ((used : Int) < (xs.length : Int)))]) .here (rdc_log)) (fun _ => rfl) ?_
            refine sw rfl (.u rfl) (.u rfl) rfl Fx.sz52 (.there (.there .here)) (by first | exact (key_len _ _).trans (key_len _ _).symm | exact key_len _ _ | exact ba_len _ _ | rfl) (one8 rfl rfl rfl rfl rfl rfl rfl rfl) ?_
            refine asg rfl .no (.u rfl) ?_
            refine .nil ?_
            refine .code ?_
            refine .ret ?_
            refine We.fin0 Tryd.results25 (.cell rfl (fun w hw => run_loadVarN Fx.ag52 (RdN.own .here) ((by first | exact (key_len _ _).trans (key_len _ _).symm | exact key_len _ _ | exact ba_len _ _ | rfl)) hw) (.tmp rfl .nil)) ?_
            have E := read_some (root := root) (by omega) c2 (eB.trans (rd_torn (by omega) (by omega) (by omega)))
            refine ⟨hRR, ps, hsRR, by rw [E], rfl, ?_⟩
            rw [E]
            · exact congrArg (fun z => Value.tuple #[.agg (List.toArray z), .int .i64 0]) (cells_l8 rfl rfl rfl (by simp))
          · have c5k := c5
            try simp only [decide_eq_true_eq, decide_eq_false_iff_not, Int.not_lt, Int.not_le, gt_iff_lt, ge_iff_le, Bool.or_eq_true, Bool.and_eq_true, Bool.or_eq_false_iff, Bool.and_eq_false_iff, Bool.not_eq_true', Bool.not_eq_false', Int.toNat_natCast, bne_iff_ne, beq_iff_eq, bne_eq_false_iff_eq, beq_eq_false_iff_ne, ne_eq] at c5
            refine .skip ?_
            refine .code ?_
            refine .seq ?_
            refine Wk.rg [0, 1, 2, 3, 4] rfl rfl ?_
            refine mv rfl .no (.u rfl) ?_
            refine mv rfl .no (.u rfl) ?_
            refine arn (((7 + (m41 + 256 * m45)) : Nat) : Int) rfl .no (.u rfl) (.u rfl) rfl (fun _ => by omega) (fun _ => wrap_i64 (by omega) (by omega)) ?_
            refine kS (7) ((7 + (m41 + 256 * m45))) rfl .no Fx.se27 hr (.u rfl) (.u rfl) (.u rfl) (fun _ => by omega) (fun _ => by omega) (fun _ => by omega) (fun _ => by omega) ?_
            intro h63 L63 eL63 lL63 hs63
            have lL63 := lL63 rfl
            refine asg rfl .no (.u rfl) ?_
            refine .nil ?_
            have eP : L63 = (M.drop 7).take (m41 + 256 * m45) := by rw [eL63]; congr 1; omega
            refine .code ?_
            refine .seq ?_
            refine .seq ?_
            rcases three (frameL (M.getD 6 0) L63) (M.take 7) (takeS (openAt root (takeH xs).1) Q (ps.map (·.2)) (M.getD 6 0) L63) with hf | ⟨hf, hT⟩ | ⟨hf, Q2, R2, hT⟩
            · refine Wk.draw (mc := ⟨true, false⟩) [0, 1, 2, 3, 5, 6, 4, 7, 8, 9, 10, 11, 12, 13, 14, 15, 16] Fx.mix (by kernel_rfl) ?_
              refine mv rfl .no (.u rfl) ?_
              refine ih rfl .no Fx.se27 (.u rfl) (.u rfl) (fun _ => by omega) (fun _ => by omega) (fun _ => hr.nn (k := 6) (by omega)) ?_
              refine ld rfl .no Fx.ag5 (.u rfl) (fun _ => (hr.yat (6) (by omega) (by omega)).rd) ?_
              refine mv rfl .no (.u rfl) ?_
              refine mv rfl .no (.u rfl) ?_
              refine kE (7) rfl .no Fx.se27 hr (.u rfl) (.u rfl) (fun _ => by omega) (fun _ => by omega) ?_
              intro h70 L70 eL70 lL70 hs70
              have lL70 := lL70 rfl
              refine kc rfl Fx.go41 (Eva.cons (.u rfl) (Eva.cons (.u rfl) Eva.nil)) (Ct.frzB (whead_ok (M.getD 6 0) L63 h63 _ hs63 (by omega))) ?_
              rintro _ G68 μ68 hG68 ⟨h68, L68, eL68, rfl, rfl, hs68⟩
              have hs := hs.mono hG68
              have hK := hK.mono hG68
              have hs29 := hs29.mono hG68
              have hs34 := hs34.mono hG68
              have hr := hr.mono hG68
              have hq := hq.mono hG68
              have hA := hA.mono hG68
              have hs63 := hs63.mono hG68
              have hs70 := hs70.mono hG68
              refine kv rfl .no Fx.go47 (Eva.cons (.u rfl) (Eva.cons (.u rfl) Eva.nil)) (fun _ => sEqual_ok L68 L70 h68 h70 _ hs68 hs70 (by rw [show L68 = frameL (M.getD 6 0) L63 from eL68, frame_len]; decide)) ?_
              refine wo_b false (decide_eq_false (by rw [eL68, eL70]; exact hf)) ?_
              refine nt rfl .no (.u rfl) ?_
              refine mv rfl .no (.u rfl) ?_
              refine skp (.bool false) rfl rfl (Gd.f (b := true) rfl rfl) ?_
              refine skp (.bool false) rfl rfl (Gd.f (b := true) rfl rfl) ?_
              refine skr (.bool false) rfl rfl (Gd.f (b := true) rfl rfl) ?_
              refine skp (.bool false) rfl rfl (Gd.f (b := true) rfl rfl) ?_
              refine ska (.bool false) rfl rfl (Gd.f (b := true) rfl rfl) ?_
              refine skp (.bool false) rfl rfl (Gd.f (b := true) rfl rfl) ?_
              refine pkO rfl .no (.u rfl) (.s rfl) ?_
              refine .nil ?_
              refine .code ?_
              refine Wk.condT rfl rfl ?_
              refine .seq ?_
              refine Wk.rg [0, 1, 2] rfl rfl ?_
              refine bC rfl .no Fx.bp52_ .nil rfl ?_
              refine sw rfl (.u rfl) (.u rfl) rfl Fx.sz52 (.there (.there (.there .here))) (by first | exact (key_len _ _).trans (key_len _ _).symm | exact key_len _ _ | exact ba_len _ _ | rfl) (one8 rfl rfl rfl rfl rfl rfl rfl rfl) ?_
              refine asg rfl .no (.u rfl) ?_
              refine .nil ?_
              refine .code ?_
              refine .ret ?_
              refine We.fin0 Tryd.results25 (.cell rfl (fun w hw => run_loadVarN Fx.ag52 (RdN.own .here) ((by first | exact (key_len _ _).trans (key_len _ _).symm | exact key_len _ _ | exact ba_len _ _ | rfl)) hw) (.tmp rfl .nil)) ?_
              refine ⟨⟨none, 0⟩, [], SlP.nul, by rw [read_none (by omega) c2 (eB.trans (rd_no (by omega) (by omega) (by omega) (.inl (by rw [← en, ← eP]; exact hf))))]; rfl, rfl, ?_⟩
              rw [read_none (by omega) c2 (eB.trans (rd_no (by omega) (by omega) (by omega) (.inl (by rw [← en, ← eP]; exact hf))))]; rfl
            · refine Wk.draw (mc := ⟨true, false⟩) [0, 1, 2, 3, 5, 6, 4, 7, 8, 9, 10, 11, 12, 13, 14, 15, 16] Fx.mix (by kernel_rfl) ?_
              refine mv rfl .no (.u rfl) ?_
              refine ih rfl .no Fx.se27 (.u rfl) (.u rfl) (fun _ => by omega) (fun _ => by omega) (fun _ => hr.nn (k := 6) (by omega)) ?_
              refine ld rfl .no Fx.ag5 (.u rfl) (fun _ => (hr.yat (6) (by omega) (by omega)).rd) ?_
              refine mv rfl .no (.u rfl) ?_
              refine mv rfl .no (.u rfl) ?_
              refine kE (7) rfl .no Fx.se27 hr (.u rfl) (.u rfl) (fun _ => by omega) (fun _ => by omega) ?_
              intro h70 L70 eL70 lL70 hs70
              have lL70 := lL70 rfl
              refine kc rfl Fx.go41 (Eva.cons (.u rfl) (Eva.cons (.u rfl) Eva.nil)) (Ct.frzB (whead_ok (M.getD 6 0) L63 h63 _ hs63 (by omega))) ?_
              rintro _ G68 μ68 hG68 ⟨h68, L68, eL68, rfl, rfl, hs68⟩
              have hs := hs.mono hG68
              have hK := hK.mono hG68
              have hs29 := hs29.mono hG68
              have hs34 := hs34.mono hG68
              have hr := hr.mono hG68
              have hq := hq.mono hG68
              have hA := hA.mono hG68
              have hs63 := hs63.mono hG68
              have hs70 := hs70.mono hG68
              refine kv rfl .no Fx.go47 (Eva.cons (.u rfl) (Eva.cons (.u rfl) Eva.nil)) (fun _ => sEqual_ok L68 L70 h68 h70 _ hs68 hs70 (by rw [show L68 = frameL (M.getD 6 0) L63 from eL68, frame_len]; decide)) ?_
              refine wo_b true (decide_eq_true (by rw [eL68, eL70]; exact hf)) ?_
              refine nt rfl .no (.u rfl) ?_
              refine mv rfl .no (.u rfl) ?_
              refine mv rfl (Gd.f (b := false) rfl rfl) (.u rfl) ?_
              refine ih rfl (Gd.f (b := false) rfl rfl) Fx.se27 (.u rfl) (.u rfl) (fun _ => by omega) (fun _ => by omega) (fun _ => hr.nn (k := 6) (by omega)) ?_
              refine ld rfl (Gd.f (b := false) rfl rfl) Fx.ag5 (.u rfl) (fun _ => (hr.yat (6) (by omega) (by omega)).rd) ?_
              refine mv rfl (Gd.f (b := false) rfl rfl) (.u rfl) ?_
              refine kag rfl (Gd.f (b := false) rfl rfl) (.inl rfl) Fx.go48 (Eva.cons (.u rfl) (Eva.cons (.u rfl) (Eva.cons (.u rfl) Eva.nil))) (mtk2 (.there .here) .here) (take_no root (takeH xs).1 (M.getD 6 0) L63 h63 Q sQ ps vr h29 b8 (used : Int) _ hs63 hq h0 hA hs29 hK (by omega) (by omega) (by omega) hT) ?_
              rintro _ G78 μ78 hG78 ⟨rfl, rfl⟩
              have hs := hs.mono hG78
              have hK := hK.mono hG78
              have hs29 := hs29.mono hG78
              have hs34 := hs34.mono hG78
              have hr := hr.mono hG78
              have hq := hq.mono hG78
              have hA := hA.mono hG78
              have hs63 := hs63.mono hG78
              have hs70 := hs70.mono hG78
              have hs68 := hs68.mono hG78
              refine nt rfl (Gd.f (b := false) rfl rfl) (.u rfl) ?_
              refine pkO rfl .no (.u rfl) (.u rfl) ?_
              refine .nil ?_
              refine .code ?_
              refine Wk.condT rfl rfl ?_
              refine .seq ?_
              refine Wk.rg [0, 1, 2] rfl rfl ?_
              refine bC rfl .no Fx.bp52_ .nil rfl ?_
              refine sw rfl (.u rfl) (.u rfl) rfl Fx.sz52 (.there .here) (by first | exact (key_len _ _).trans (key_len _ _).symm | exact key_len _ _ | exact ba_len _ _ | rfl) (one8 rfl rfl rfl rfl rfl rfl rfl rfl) ?_
              refine asg rfl .no (.u rfl) ?_
              refine .nil ?_
              refine .code ?_
              refine .ret ?_
              refine We.fin0 Tryd.results25 (.cell rfl (fun w hw => run_loadVarN Fx.ag52 (RdN.own .here) ((by first | exact (key_len _ _).trans (key_len _ _).symm | exact key_len _ _ | exact ba_len _ _ | rfl)) hw) (.tmp rfl .nil)) ?_
              refine ⟨⟨none, 0⟩, [], SlP.nul, by rw [read_none (by omega) c2 (eB.trans ((rd_take (by omega) en (by omega) (by omega) eP hf).trans (by rw [hT])))]; rfl, rfl, ?_⟩
              rw [read_none (by omega) c2 (eB.trans ((rd_take (by omega) en (by omega) (by omega) eP hf).trans (by rw [hT])))]; rfl
            · refine Wk.draw (mc := ⟨true, false⟩) [0, 1, 2, 3, 5, 6, 4, 7, 8, 9, 10, 11, 12, 13, 14, 15, 16] Fx.mix (by kernel_rfl) ?_
              refine mv rfl .no (.u rfl) ?_
              refine ih rfl .no Fx.se27 (.u rfl) (.u rfl) (fun _ => by omega) (fun _ => by omega) (fun _ => hr.nn (k := 6) (by omega)) ?_
              refine ld rfl .no Fx.ag5 (.u rfl) (fun _ => (hr.yat (6) (by omega) (by omega)).rd) ?_
              refine mv rfl .no (.u rfl) ?_
              refine mv rfl .no (.u rfl) ?_
              refine kE (7) rfl .no Fx.se27 hr (.u rfl) (.u rfl) (fun _ => by omega) (fun _ => by omega) ?_
              intro h70 L70 eL70 lL70 hs70
              have lL70 := lL70 rfl
              refine kc rfl Fx.go41 (Eva.cons (.u rfl) (Eva.cons (.u rfl) Eva.nil)) (Ct.frzB (whead_ok (M.getD 6 0) L63 h63 _ hs63 (by omega))) ?_
              rintro _ G68 μ68 hG68 ⟨h68, L68, eL68, rfl, rfl, hs68⟩
              have hs := hs.mono hG68
              have hK := hK.mono hG68
              have hs29 := hs29.mono hG68
              have hs34 := hs34.mono hG68
              have hr := hr.mono hG68
              have hq := hq.mono hG68
              have hA := hA.mono hG68
              have hs63 := hs63.mono hG68
              have hs70 := hs70.mono hG68
              refine kv rfl .no Fx.go47 (Eva.cons (.u rfl) (Eva.cons (.u rfl) Eva.nil)) (fun _ => sEqual_ok L68 L70 h68 h70 _ hs68 hs70 (by rw [show L68 = frameL (M.getD 6 0) L63 from eL68, frame_len]; decide)) ?_
              refine wo_b true (decide_eq_true (by rw [eL68, eL70]; exact hf)) ?_
              refine nt rfl .no (.u rfl) ?_
              refine mv rfl .no (.u rfl) ?_
              refine mv rfl (Gd.f (b := false) rfl rfl) (.u rfl) ?_
              refine ih rfl (Gd.f (b := false) rfl rfl) Fx.se27 (.u rfl) (.u rfl) (fun _ => by omega) (fun _ => by omega) (fun _ => hr.nn (k := 6) (by omega)) ?_
              refine ld rfl (Gd.f (b := false) rfl rfl) Fx.ag5 (.u rfl) (fun _ => (hr.yat (6) (by omega) (by omega)).rd) ?_
              refine mv rfl (Gd.f (b := false) rfl rfl) (.u rfl) ?_
              refine kag rfl (Gd.f (b := false) rfl rfl) (.inl rfl) Fx.go48 (Eva.cons (.u rfl) (Eva.cons (.u rfl) (Eva.cons (.u rfl) Eva.nil))) (mtk2 (.there .here) .here) (take_yes root (takeH xs).1 (M.getD 6 0) L63 h63 Q sQ ps vr h29 b8 (used : Int) _ hs63 hq h0 hA hs29 hK (by omega) (by omega) (by omega) hT) ?_
              rintro _ G78 μ78 hG78 ⟨ps2, sQ2, vr2, rfl, rfl, rfl, hq2, h02, hA2, ln2, lQ2⟩
              have hs := hs.mono hG78
              have hK := hK.mono hG78
              have hs29 := hs29.mono hG78
              have hs34 := hs34.mono hG78
              have hr := hr.mono hG78
              have hq := hq.mono hG78
              have hA := hA.mono hG78
              have hs63 := hs63.mono hG78
              have hs70 := hs70.mono hG78
              have hs68 := hs68.mono hG78
              refine nt rfl (Gd.f (b := false) rfl rfl) (.u rfl) ?_
              refine pkO rfl .no (.u rfl) (.u rfl) ?_
              refine .nil ?_
              refine .code ?_
              refine Wk.condF rfl rfl ?_
              refine .skip ?_
              refine .code ?_
              refine .seq ?_
              refine Wk.rg [0, 1, 2, 3, 4] rfl rfl ?_
              refine mv rfl .no (.u rfl) ?_
              refine mv rfl .no (.u rfl) ?_
              refine arn (((7 + (m41 + 256 * m45)) : Nat) : Int) rfl .no (.u rfl) (.u rfl) rfl (fun _ => by omega) (fun _ => wrap_i64 (by omega) (by omega)) ?_
              refine kD ((7 + (m41 + 256 * m45))) rfl .no Fx.se27 hr (.u rfl) (.u rfl) (fun _ => by omega) (fun _ => by omega) ?_
              intro h85 L85 eL85 lL85 hs85
              have lL85 := lL85 rfl
              refine asg rfl .no (.u rfl) ?_
              refine .nil ?_
              have eE := emp_oa hq2 h02
              refine .code ?_
              refine .seq ?_
              refine Wk.rg [0, 1, 2] rfl rfl ?_
              refine fz rfl .no Fx.fo81_3 (.u rfl) ?_
              refine ld rfl .no Fx.ag27 (.u rfl) (fun _ => Rd.own .here rdc_parts) ?_
              refine sn0 rfl .no Fx.sn27 (.u rfl) (.u rfl) ?_
              refine .nil ?_
              refine .code ?_
              refine .cond rfl (fun c6 => ?_) (fun c6 => ?_)
              · have c6k := c6
                try simp only [decide_eq_true_eq, decide_eq_false_iff_not, Int.not_lt, Int.not_le, gt_iff_lt, ge_iff_le, Bool.or_eq_true, Bool.and_eq_true, Bool.or_eq_false_iff, Bool.and_eq_false_iff, Bool.not_eq_true', Bool.not_eq_false', Int.toNat_natCast, bne_iff_ne, beq_iff_eq, bne_eq_false_iff_eq, beq_eq_false_iff_ne, ne_eq] at c6
                refine Wk.rg [0, 1, 2, 3, 4, 5, 6, 7] rfl rfl ?_
                refine mv rfl .no (.u rfl) ?_
                refine ln rfl .no Fx.sn27 (.u rfl) ?_
                refine mv rfl .no (.u rfl) ?_
                refine ln rfl .no Fx.sn27 (.u rfl) ?_
                refine arn (((xs.length - L85.length) : Nat) : Int) rfl .no (.u rfl) (.u rfl) rfl (fun _ => by omega) (fun _ => wrap_i64 (by omega) (by omega)) ?_
                refine fz rfl .no Fx.fo81_2 (.u rfl) ?_
                refine fa rfl .no Fx.fo52_2 (.u rfl) ?_
                refine s1 rfl (.u rfl) (.u rfl) rfl Fx.sz3 .here (by (try rw [rdc_len]); decide) (rds_used) ?_
                refine .nil ?_
                refine .blk ?_
                refine We.lpo (L85, h85, Q2, sQ2, ps2, vr2, xs.length - L85.length) ?_ ?_ ?_ ?_ ?_
                · exact (ESub.cons rfl rfl (ESub.cons rfl rfl (ESub.cons rfl rfl (ESub.cons rfl rfl ESub.nil))))
                · exact (MSub.cons (.there .here) rfl (MSub.cons .here rfl (MSub.cons .here rfl (MSub.cons .here rfl (MSub.cons .here rfl MSub.nil)))))
                · first | omega | (dsimp only; omega)
                · exact ((hGl0).trans hG68).trans hG78
                · refine ⟨?_, ?_, ?_, ?_, ?_, ?_, ?_⟩
                  · (try dsimp only) <;> (exact hs85)
                  · (try dsimp only) <;> (exact hq2)
                  · (try dsimp only) <;> (exact hA2)
                  · (try dsimp only) <;> (exact h02)
                  · (try dsimp only) <;> (exact rd_on eB (by omega) en (by omega) (by omega) eP hf hT eL85 (by rw [show Q2.isEmpty = true from eE.symm.trans c6]; rfl))
                  · (try dsimp only) <;> (first | omega | rfl | assumption | (simp; done))
                  · (try dsimp only) <;> (first | omega | rfl | assumption | (simp; done))
              · have c6k := c6
                try simp only [decide_eq_true_eq, decide_eq_false_iff_not, Int.not_lt, Int.not_le, gt_iff_lt, ge_iff_le, Bool.or_eq_true, Bool.and_eq_true, Bool.or_eq_false_iff, Bool.and_eq_false_iff, Bool.not_eq_true', Bool.not_eq_false', Int.toNat_natCast, bne_iff_ne, beq_iff_eq, bne_eq_false_iff_eq, beq_eq_false_iff_ne, ne_eq] at c6
                refine .skip ?_
                refine .blk ?_
                refine We.lpo (L85, h85, Q2, sQ2, ps2, vr2, used) ?_ ?_ ?_ ?_ ?_
                · exact (ESub.cons rfl rfl (ESub.cons rfl rfl (ESub.cons rfl rfl (ESub.cons rfl rfl ESub.nil))))
                · exact (MSub.cons (.there .here) rfl (MSub.cons .here rfl (MSub.cons .here rfl (MSub.cons .here rfl (MSub.cons .here rfl MSub.nil)))))
                · first | omega | (dsimp only; omega)
                · exact ((hGl0).trans hG68).trans hG78
                · refine ⟨?_, ?_, ?_, ?_, ?_, ?_, ?_⟩
                  · (try dsimp only) <;> (exact hs85)
                  · (try dsimp only) <;> (exact hq2)
                  · (try dsimp only) <;> (exact hA2)
                  · (try dsimp only) <;> (exact h02)
                  · (try dsimp only) <;> (exact rd_on eB (by omega) en (by omega) (by omega) eP hf hT eL85 (by rw [show Q2.isEmpty = false from eE.symm.trans c6]; rfl))
                  · (try dsimp only) <;> (first | omega | rfl | assumption | (simp; done))
                  · (try dsimp only) <;> (first | omega | rfl | assumption | (simp; done))
      · have c3k := c3
        try simp only [decide_eq_true_eq, decide_eq_false_iff_not, Int.not_lt, Int.not_le, gt_iff_lt, ge_iff_le, Bool.or_eq_true, Bool.and_eq_true, Bool.or_eq_false_iff, Bool.and_eq_false_iff, Bool.not_eq_true', Bool.not_eq_false', Int.toNat_natCast, bne_iff_ne, beq_iff_eq, bne_eq_false_iff_eq, beq_eq_false_iff_ne, ne_eq] at c3
        refine .exit ?_
        refine .xcode ?_
        refine .xlp ?_
        refine .xblk ?_
        refine .code ?_
        refine .seq ?_
        refine wk_fs .here (fun _ _ => rfl) (by intro b hb; cases hb) ?_; intro GfRR hRR hleRR evRR hsRR; subst evRR
        have hs := hs.mono hleRR
        have hK := hK.mono hleRR
        have hs29 := hs29.mono hleRR
        have hs34 := hs34.mono hleRR
        have hr := hr.mono hleRR
        have hq := hq.mono hleRR
        have hA := hA.mono hleRR
        have hsRR := SlP.of hsRR hA
        refine Wk.rg [0, 1, 2, 3, 4, 5, 6, 7, 8] rfl rfl ?_
        refine fz rfl .no Fx.fo81_2 (.u rfl) ?_
        refine fa rfl .no Fx.fo52_2 (.u rfl) ?_
        refine ld rfl .no Fx.ag3 (.u rfl) (fun _ => Rd.own .here rdc_used) ?_
        refine mv rfl .no (.u rfl) ?_
        refine ln rfl .no Fx.sn27 (.u rfl) ?_
        refine cp rfl .no (.u rfl) (.u rfl) rfl ?_
        refine fz rfl .no Fx.fo81_2 (.u rfl) ?_
        refine fa rfl .no Fx.fo52_3 (.u rfl) ?_
        refine s1 rfl (.u rfl) (.u rfl) rfl Fx.sz4 .here (by (try rw [rdc_len]); decide) (rds_torn) ?_
        refine .nil ?_
        refine .code ?_
        refine .seq ?_
        refine Wk.rg [0, 1, 2, 3] rfl rfl ?_
        refine fz rfl .no Fx.fo81_2 (.u rfl) ?_
        refine lA rfl .no Fx.ag52 (.u rfl) (fun _ => RdN.part (n := 8) (cs' := [V (takeH xs).1.kind, V (takeH xs).1.level, uv .u64 (takeH xs).1.gen, uv .u64 (takeH xs).1.epoch, uv .u64 (takeH xs).1.num, (hRR.val ps.length), .int .i64 (used : Int), .bool (decide ((used : Int) < (xs.length : Int)))]) .here (rdc_log)) (fun _ => rfl) ?_
        refine sw rfl (.u rfl) (.u rfl) rfl Fx.sz52 (.there (.there .here)) (by first | exact (key_len _ _).trans (key_len _ _).symm | exact key_len _ _ | exact ba_len _ _ | rfl) (one8 rfl rfl rfl rfl rfl rfl rfl rfl) ?_
        refine asg rfl .no (.u rfl) ?_
        refine .nil ?_
        refine .code ?_
        refine .ret ?_
        refine We.fin0 Tryd.results25 (.cell rfl (fun w hw => run_loadVarN Fx.ag52 (RdN.own .here) ((by first | exact (key_len _ _).trans (key_len _ _).symm | exact key_len _ _ | exact ba_len _ _ | rfl)) hw) (.tmp rfl .nil)) ?_
        have E := read_some (root := root) (by omega) c2 (eB.trans (rd_short (by omega)))
        refine ⟨hRR, ps, hsRR, by rw [E], rfl, ?_⟩
        rw [E]
        · exact congrArg (fun z => Value.tuple #[.agg (List.toArray z), .int .i64 0]) (cells_l8 rfl rfl rfl (by simp))

end Go.Proofs.YtoogjfldgeiapaaDoor
