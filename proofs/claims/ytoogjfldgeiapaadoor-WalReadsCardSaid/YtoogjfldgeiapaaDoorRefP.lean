/- Contracts of functions, walked. -/
import Derived.Test.YtoogjfldgeiapaaDoorSealW
namespace Go.Proofs.YtoogjfldgeiapaaDoor
set_option linter.unusedSimpArgs false
set_option linter.unusedVariables false
open Go.Tan Go.RowKit

namespace Fx
theorem zv69 : (Tryd.prog.info? 69).bind (·.zero) = some (.int .u32 0) := by kernel_rfl
theorem go88 : goFn Tryd.prog 88 = true := by kernel_rfl
theorem zr112 : zrL Tryd.prog 112 = some ([.int .u32 0, .int .u32 0, .int .u32 0, .int .u32 0, .int .u32 0, .int .u32 0, .int .u32 0, .int .u32 0]) := by kernel_rfl
theorem go87 : goFn Tryd.prog 87 = true := by kernel_rfl
theorem sz112 : szT Tryd.prog 112 = some 8 := by kernel_rfl
theorem go76 : goFn Tryd.prog 76 = true := by kernel_rfl
theorem go77 : goFn Tryd.prog 77 = true := by kernel_rfl
end Fx
theorem rturn_ok (x : W) (k : Nat) (G : PM) (hk : k ≤ 32) : Ct Tryd.prog 88 ([U x, .int .i64 (k : Int)] : List Value).toArray G [] (fun _ μ' u => μ' = [] ∧ u = U (rotr x k)) := by
  refine Ct.of Tryd.func88 rfl Tryd.ntmps88 rfl fun w0 hs0 => ?_
  refine .seq ?_
  refine Wk.rg [0] rfl rfl ?_
  refine asg rfl .no (.u rfl) ?_
  refine .nil ?_
  refine .code ?_
  refine .seq ?_
  refine Wk.draw (mc := ⟨false, false⟩) [0, 1, 2, 3, 4, 5, 6, 7, 8] Fx.mix (by kernel_rfl) ?_
  refine mv rfl .no (.u rfl) ?_
  refine mv rfl .no (.u rfl) ?_
  refine rw' (k := .u32) rfl .no (.u rfl) (.u rfl) (fun _ => by omega) ?_
  refine mv rfl .no (.u rfl) ?_
  refine mv rfl .no (.u rfl) ?_
  refine arn (((32 - k) : Nat) : Int) rfl .no (.u rfl) (.u rfl) rfl (fun _ => by omega) (fun _ => wrap_i64 (by omega) (by omega)) ?_
  refine lw (k := .u32) rfl .no rfl (.u rfl) (.u rfl) (fun _ => by omega) ?_
  refine bw (k := .u32) rfl .no rfl (.u rfl) (.u rfl) rfl ?_
  refine asg rfl .no (.u rfl) ?_
  refine .nil ?_
  refine .code ?_
  refine .ret ?_
  refine We.fin0 Tryd.results88 (.tmp rfl .nil) ?_
  exact ⟨rfl, congrArg (fun z => tup [uv .u32 z]) (BitVec.or_comm ..)⟩

theorem wa_snoc {n : Nat} {y : Nat → W} {z : W} : wa n y ++ [U z] = wa (n + 1) (upd y n z) := by
  refine List.ext_getElem? fun i => ?_
  rw [List.getElem?_append, wa_len]
  by_cases h : i < n
  · rw [if_pos h, wa_at h, wa_at (by omega), upd, if_neg (by omega)]
  · rw [if_neg h]
    by_cases h2 : i = n
    · subst h2; rw [wa_at (by omega), upd_at]; simp
    · rw [List.getElem?_eq_none (by simp; omega), List.getElem?_eq_none (by rw [wa_len]; omega)]
theorem row_snoc {v : Value} {E n : Nat} {y : Nat → W} {z : W} : Res.row v E 1 (n + 1) (wa n y ++ [U z]) = Res.row v E 1 (n + 1) (wa (n + 1) (upd y n z)) := by rw [wa_snoc]
theorem upd_if2 {s x : Nat → W} {k : Nat} : upd (fun i => if i < k then s i + x i else x i) k ((if k < k then s k + x k else x k) + s k) = fun i => if i < k + 1 then s i + x i else x i := by
  funext i
  unfold upd
  by_cases h : i = k
  · subst h; simp [BitVec.add_comm]
  · rw [if_neg h]
    by_cases h2 : i < k
    · simp [h2, show i < k + 1 by omega]
    · simp [h2, show ¬ i < k + 1 by omega]
theorem lenF_nat {n q : Nat} (h : q < 8) : lenF n q = ((BitVec.ofInt 64 (n : Int) * 8#64) >>> (((8 * (7 - q) : Nat) : Int)).toNat).setWidth 8 := by
  rw [Int.toNat_natCast, show 8 * (7 - q) = 56 - 8 * q by omega]; rfl
theorem blk_step {zs L : List Y} {j b T : Nat} (eL : L = (zs.drop (64 * j)).take (64 * j + 64 - 64 * j)) : Res.blk b (cl (wa 8 (shaC (shaW zs j) (fun i => L.getD i 0))) T) = .blk b (cl (wa 8 (shaW zs (j + 1))) T) := by
  rw [shaW, shaC_congr (b' := blkF zs j)]
  intro i hi
  rw [eL, blkF, getD_part (by omega)]
theorem shaD4 (xs : List Y) (i q : Nat) (hq : q < 4) : shaD xs (4 * i + q) = ((shaW (padL xs) ((padL xs).length / 64) i) >>> (24 - 8 * q)).setWidth 8 := by
  unfold shaD
  rw [show (4 * i + q) / 4 = i by omega, show (4 * i + q) % 4 = q by omega]
theorem add_mid (a b c d : W) : a + b + c + d = a + c + b + d := by rw [BitVec.add_assoc a b c, BitVec.add_comm b c, ← BitVec.add_assoc]
theorem rnd_a (x : Nat → W) (k w : W) : x 7 + (rotr (x 4) 6 ^^^ rotr (x 4) 11 ^^^ rotr (x 4) 25) + ((x 4 &&& x 5) ^^^ (~~~x 4 &&& x 6)) + k + w + ((rotr (x 0) 2 ^^^ rotr (x 0) 13 ^^^ rotr (x 0) 22) + ((x 0 &&& x 1) ^^^ (x 0 &&& x 2) ^^^ (x 1 &&& x 2))) = rndW x k w 0 := by rw [ch_eq, maj_eq]; rfl
theorem rnd_e (x : Nat → W) (k w : W) : x 3 + (x 7 + (rotr (x 4) 6 ^^^ rotr (x 4) 11 ^^^ rotr (x 4) 25) + ((x 4 &&& x 5) ^^^ (~~~x 4 &&& x 6)) + k + w) = rndW x k w 4 := by rw [ch_eq]; rfl
theorem shaD0 (xs : List Y) (i : Nat) : shaD xs (4 * i) = ((shaW (padL xs) ((padL xs).length / 64) i) >>> 24).setWidth 8 := shaD4 xs i 0 (by decide)
theorem rwords_ok (xs : List Y) (h : Sh) (G : PM) (hs : SlR G 1 encY h xs) (hl : 64 ≤ xs.length) : Ct Tryd.prog 87 ([h.val xs.length] : List Value).toArray G [] (fun _ μ' u => μ' = [.row u 69 1 64 (wa 64 (sched (fun i => xs.getD i 0) 48))]) := by
  refine Ct.of Tryd.func87 rfl Tryd.ntmps87 rfl fun w0 hs0 => ?_
  refine .seq ?_
  refine Wk.rg [0] rfl rfl ?_
  refine asg rfl .no (.u rfl) ?_
  refine .nil ?_
  refine .code ?_
  refine .seq ?_
  refine Wk.rg [0] rfl rfl ?_
  refine asg rfl .no (.u rfl) ?_
  refine .nil ?_
  refine .code ?_
  refine .seq ?_
  refine .seq ?_
  refine wk_nilRow 69 1 ?_
  refine Wk.rg [0] rfl rfl ?_
  refine asg rfl .no (.u rfl) ?_
  refine .nil ?_
  refine .code ?_
  refine .block ?_
  refine Wk.lop (α := Nat × Value × (Nat → W)) (fun gh => [(3, true, gh.2.1), (4, true, .int .i64 (gh.1 : Int))]) (fun gh => [.row gh.2.1 69 1 gh.1 (wa gh.1 gh.2.2)])
    (fun gh Gl => (gh.1 ≤ 16) ∧ (gh.2.2 = w16 (fun i => xs.getD i 0) gh.1)) (fun gh => 16 - gh.1) (0, .slice none 0 0, fun _ => 0#32) [(0, true, _)] []
    (ESub.cons rfl rfl (ESub.cons rfl (by first | rfl | exact evi (by omega)) (ESub.cons rfl rfl ESub.nil)))
    (MSub.cons .here rfl MSub.nil) ?_ ?_
  · refine ⟨?_, ?_⟩
    · (try dsimp only) <;> (first | omega | rfl | assumption | (simp; done))
    · (try dsimp only) <;> (first | omega | rfl | assumption | (simp; done))
  intro gh N0 Gl0 hN0 hGl0 hF0
  obtain ⟨k, v, y⟩ := gh; dsimp only at hF0 hN0 ⊢
  obtain ⟨hk, ey⟩ := hF0
  have hs := hs.mono hGl0
  refine .seq ?_
  refine .seq ?_
  refine Wk.rg [0, 1] rfl rfl ?_
  refine mv rfl .no (.u rfl) ?_
  refine cp rfl .no (.u rfl) (.u rfl) rfl ?_
  refine .nil ?_
  refine .code ?_
  refine .cond rfl (fun c1 => ?_) (fun c1 => ?_)
  · have c1k := c1
    try simp only [decide_eq_true_eq, decide_eq_false_iff_not, Int.not_lt, Int.not_le, gt_iff_lt, ge_iff_le, Bool.or_eq_true, Bool.and_eq_true, Bool.or_eq_false_iff, Bool.not_eq_true', Bool.not_eq_false', Int.toNat_natCast, bne_iff_ne, beq_iff_eq, bne_eq_false_iff_eq, beq_eq_false_iff_ne, ne_eq] at c1
    refine .skip ?_
    refine .code ?_
    refine .seq ?_
    refine .block ?_
    refine Wk.draw (mc := ⟨false, false⟩) [0, 1, 2, 3, 4, 5, 6, 7, 8, 9, 10, 11, 12, 13, 14, 15, 16, 17, 18, 19, 20, 21, 22, 23, 24, 25, 26, 27, 28, 29, 30, 31, 32, 33, 34, 35, 36] Fx.mix (by kernel_rfl) ?_
    refine mv rfl .no (.u rfl) ?_
    refine mv rfl .no (.u rfl) ?_
    refine mv rfl .no (.u rfl) ?_
    refine arn (((4 * k) : Nat) : Int) rfl .no (.u rfl) (.u rfl) rfl (fun _ => by omega) (fun _ => wrap_i64 (by omega) (by omega)) ?_
    refine ih rfl .no Fx.se27 (.u rfl) (.u rfl) (fun _ => by omega) (fun _ => by omega) (fun _ => hs.nn (k := (4 * k)) (by omega)) ?_
    refine ld rfl .no Fx.ag5 (.u rfl) (fun _ => (hs.yat ((4 * k)) (by omega) (by omega)).rd) ?_
    refine cu (k := .u8) rfl .no rfl Fx.cv5_69 (.u rfl) ?_
    refine lw (k := .u32) rfl .no rfl (.u rfl) (.u rfl) (fun _ => by decide) ?_
    refine mv rfl .no (.u rfl) ?_
    refine mv rfl .no (.u rfl) ?_
    refine arn (((4 * k) : Nat) : Int) rfl .no (.u rfl) (.u rfl) rfl (fun _ => by omega) (fun _ => wrap_i64 (by omega) (by omega)) ?_
    refine arn ((((4 * k) + 1) : Nat) : Int) rfl .no (.u rfl) (.u rfl) rfl (fun _ => by omega) (fun _ => wrap_i64 (by omega) (by omega)) ?_
    refine ih rfl .no Fx.se27 (.u rfl) (.u rfl) (fun _ => by omega) (fun _ => by omega) (fun _ => hs.nn (k := ((4 * k) + 1)) (by omega)) ?_
    refine ld rfl .no Fx.ag5 (.u rfl) (fun _ => (hs.yat (((4 * k) + 1)) (by omega) (by omega)).rd) ?_
    refine cu (k := .u8) rfl .no rfl Fx.cv5_69 (.u rfl) ?_
    refine lw (k := .u32) rfl .no rfl (.u rfl) (.u rfl) (fun _ => by decide) ?_
    refine bw (k := .u32) rfl .no rfl (.u rfl) (.u rfl) rfl ?_
    refine mv rfl .no (.u rfl) ?_
    refine mv rfl .no (.u rfl) ?_
    refine arn (((4 * k) : Nat) : Int) rfl .no (.u rfl) (.u rfl) rfl (fun _ => by omega) (fun _ => wrap_i64 (by omega) (by omega)) ?_
    refine arn ((((4 * k) + 2) : Nat) : Int) rfl .no (.u rfl) (.u rfl) rfl (fun _ => by omega) (fun _ => wrap_i64 (by omega) (by omega)) ?_
    refine ih rfl .no Fx.se27 (.u rfl) (.u rfl) (fun _ => by omega) (fun _ => by omega) (fun _ => hs.nn (k := ((4 * k) + 2)) (by omega)) ?_
    refine ld rfl .no Fx.ag5 (.u rfl) (fun _ => (hs.yat (((4 * k) + 2)) (by omega) (by omega)).rd) ?_
    refine cu (k := .u8) rfl .no rfl Fx.cv5_69 (.u rfl) ?_
    refine lw (k := .u32) rfl .no rfl (.u rfl) (.u rfl) (fun _ => by decide) ?_
    refine bw (k := .u32) rfl .no rfl (.u rfl) (.u rfl) rfl ?_
    refine mv rfl .no (.u rfl) ?_
    refine mv rfl .no (.u rfl) ?_
    refine arn (((4 * k) : Nat) : Int) rfl .no (.u rfl) (.u rfl) rfl (fun _ => by omega) (fun _ => wrap_i64 (by omega) (by omega)) ?_
    refine arn ((((4 * k) + 3) : Nat) : Int) rfl .no (.u rfl) (.u rfl) rfl (fun _ => by omega) (fun _ => wrap_i64 (by omega) (by omega)) ?_
    refine ih rfl .no Fx.se27 (.u rfl) (.u rfl) (fun _ => by omega) (fun _ => by omega) (fun _ => hs.nn (k := ((4 * k) + 3)) (by omega)) ?_
    refine ld rfl .no Fx.ag5 (.u rfl) (fun _ => (hs.yat (((4 * k) + 3)) (by omega) (by omega)).rd) ?_
    refine cu (k := .u8) rfl .no rfl Fx.cv5_69 (.u rfl) ?_
    refine bw (k := .u32) rfl .no rfl (.u rfl) (.u rfl) rfl ?_
    refine Go.Tan.b1 rfl Fx.se109 Fx.zv69 (.u rfl) rfl rfl (by decide) ?_; intro b46
    refine ap rfl Fx.se109 Fx.zv69 rfl (.u rfl) (.u rfl) (.there .here) (rfl) (fun _ => ⟨_, _, rfl, RdN.own .here⟩) (one1 rfl) (by omega) (by unfold maxLen; omega) ?_; intro v47
    refine asg rfl .no (.u rfl) ?_
    refine .nil ?_
    refine .blk ?_
    refine .code ?_
    refine Wk.rg [0, 1, 2] rfl rfl ?_
    refine mv rfl .no (.u rfl) ?_
    refine arn (((k + 1) : Nat) : Int) rfl .no (.u rfl) (.u rfl) rfl (fun _ => by omega) (fun _ => wrap_i64 (by omega) (by omega)) ?_
    refine asg rfl .no (.u rfl) ?_
    refine .nil ?_
    refine We.lpo (k + 1, v47, upd y k (beW (fun i => xs.getD i 0) (4 * k))) ?_ ?_ ?_ ?_ ?_
    · exact (ESub.cons rfl rfl (ESub.cons rfl (by first | rfl | exact evi (by omega)) (ESub.cons rfl rfl ESub.nil)))
    · exact (MSub.cons .here row_snoc MSub.nil)
    · first | omega | (dsimp only; omega)
    · exact hGl0
    · refine ⟨?_, ?_⟩
      · (try dsimp only) <;> (first | omega | rfl | assumption | (simp; done))
      · (try dsimp only) <;> (rw [ey]; rfl)
  · have c1k := c1
    try simp only [decide_eq_true_eq, decide_eq_false_iff_not, Int.not_lt, Int.not_le, gt_iff_lt, ge_iff_le, Bool.or_eq_true, Bool.and_eq_true, Bool.or_eq_false_iff, Bool.not_eq_true', Bool.not_eq_false', Int.toNat_natCast, bne_iff_ne, beq_iff_eq, bne_eq_false_iff_eq, beq_eq_false_iff_ne, ne_eq] at c1
    refine .exit ?_
    refine .xcode ?_
    refine .xlp ?_
    refine .xblk ?_
    refine .code ?_
    refine .seq ?_
    refine .seq ?_
    refine Wk.rg [0] rfl rfl ?_
    refine asg rfl .no (.u rfl) ?_
    refine .nil ?_
    refine .code ?_
    refine .block ?_
    obtain rfl : k = 16 := by omega
    refine Wk.lop (α := Nat × Value × (Nat → W)) (fun gh => [(3, true, gh.2.1), (5, true, .int .i64 ((16 + gh.1 : Nat) : Int))]) (fun gh => [.row gh.2.1 69 1 (16 + gh.1) (wa (16 + gh.1) gh.2.2)])
      (fun gh Gl => (gh.1 ≤ 48) ∧ (gh.2.2 = sched (fun i => xs.getD i 0) gh.1)) (fun gh => 48 - gh.1) (0, _, y) [] []
      (ESub.cons rfl rfl (ESub.cons rfl (by first | rfl | exact evi (by omega)) ESub.nil))
      (MSub.cons .here rfl MSub.nil) ?_ ?_
    · refine ⟨?_, ?_⟩
      · (try dsimp only) <;> (first | omega | rfl | assumption | (simp; done))
      · (try dsimp only) <;> (rw [ey]; rfl)
    intro gh N1 Gl1 hN1 hGl1 hF1
    obtain ⟨k1, v, y⟩ := gh; dsimp only at hF1 hN1 ⊢
    obtain ⟨hk1, ey⟩ := hF1
    have hs := hs.mono hGl1
    refine .seq ?_
    refine .seq ?_
    refine Wk.rg [0, 1] rfl rfl ?_
    refine mv rfl .no (.u rfl) ?_
    refine cp rfl .no (.u rfl) (.u rfl) rfl ?_
    refine .nil ?_
    refine .code ?_
    refine .cond rfl (fun c2 => ?_) (fun c2 => ?_)
    · have c2k := c2
      try simp only [decide_eq_true_eq, decide_eq_false_iff_not, Int.not_lt, Int.not_le, gt_iff_lt, ge_iff_le, Bool.or_eq_true, Bool.and_eq_true, Bool.or_eq_false_iff, Bool.not_eq_true', Bool.not_eq_false', Int.toNat_natCast, bne_iff_ne, beq_iff_eq, bne_eq_false_iff_eq, beq_eq_false_iff_ne, ne_eq] at c2
      refine .skip ?_
      refine .code ?_
      refine .seq ?_
      refine .block ?_
      refine .seq ?_
      refine wk_rv .here (by omega) ?_; intro bRW cRW evRW lcRW; subst evRW
      refine Wk.draw (mc := ⟨false, false⟩) [0, 1, 2, 3, 4, 6, 7, 8, 9, 10, 13, 14, 15, 16, 17, 18, 5, 11, 12, 19, 20] Fx.mix (by kernel_rfl) ?_
      refine mv rfl .no (.u rfl) ?_
      refine mv rfl .no (.u rfl) ?_
      refine arn (((1 + k1) : Nat) : Int) rfl .no (.u rfl) (.u rfl) rfl (fun _ => by omega) (fun _ => wrap_i64 (by omega) (by omega)) ?_
      refine ia rfl .no Fx.se109 (.u rfl) (.u rfl) (fun _ => by omega) (fun _ => by omega) ?_
      refine ld rfl .no Fx.ag69 (.u rfl) (fun _ => Rd.row .here (by first | exact map_at1 ((1 + k1)) (by omega) (by omega) | exact wa_at1 ((1 + k1)) (by omega) (by omega))) ?_
      refine mv rfl .no (.u rfl) ?_
      refine mv rfl .no (.u rfl) ?_
      refine arn (((1 + k1) : Nat) : Int) rfl .no (.u rfl) (.u rfl) rfl (fun _ => by omega) (fun _ => wrap_i64 (by omega) (by omega)) ?_
      refine ia rfl .no Fx.se109 (.u rfl) (.u rfl) (fun _ => by omega) (fun _ => by omega) ?_
      refine ld rfl .no Fx.ag69 (.u rfl) (fun _ => Rd.row .here (by first | exact map_at1 ((1 + k1)) (by omega) (by omega) | exact wa_at1 ((1 + k1)) (by omega) (by omega))) ?_
      refine mv rfl .no (.u rfl) ?_
      refine mv rfl .no (.u rfl) ?_
      refine arn (((1 + k1) : Nat) : Int) rfl .no (.u rfl) (.u rfl) rfl (fun _ => by omega) (fun _ => wrap_i64 (by omega) (by omega)) ?_
      refine ia rfl .no Fx.se109 (.u rfl) (.u rfl) (fun _ => by omega) (fun _ => by omega) ?_
      refine ld rfl .no Fx.ag69 (.u rfl) (fun _ => Rd.row .here (by first | exact map_at1 ((1 + k1)) (by omega) (by omega) | exact wa_at1 ((1 + k1)) (by omega) (by omega))) ?_
      refine rw' (k := .u32) rfl .no (.u rfl) (.u rfl) (fun _ => by decide) ?_
      refine kv rfl .no Fx.go88 (Eva.cons (.u rfl) (Eva.cons (.u rfl) Eva.nil)) (fun _ => rturn_ok _ 7 _ (by decide)) ?_
      refine kv rfl .no Fx.go88 (Eva.cons (.u rfl) (Eva.cons (.u rfl) Eva.nil)) (fun _ => rturn_ok _ 18 _ (by decide)) ?_
      refine bw (k := .u32) rfl .no rfl (.u rfl) (.u rfl) rfl ?_
      refine bw (k := .u32) rfl .no rfl (.u rfl) (.u rfl) rfl ?_
      refine asg rfl .no (.u rfl) ?_
      refine .nil ?_
      refine .code ?_
      refine .seq ?_
      refine Wk.draw (mc := ⟨false, false⟩) [0, 1, 2, 3, 4, 6, 7, 8, 9, 10, 13, 14, 15, 16, 17, 18, 5, 11, 12, 19, 20] Fx.mix (by kernel_rfl) ?_
      refine mv rfl .no (.u rfl) ?_
      refine mv rfl .no (.u rfl) ?_
      refine arn (((14 + k1) : Nat) : Int) rfl .no (.u rfl) (.u rfl) rfl (fun _ => by omega) (fun _ => wrap_i64 (by omega) (by omega)) ?_
      refine ia rfl .no Fx.se109 (.u rfl) (.u rfl) (fun _ => by omega) (fun _ => by omega) ?_
      refine ld rfl .no Fx.ag69 (.u rfl) (fun _ => Rd.row .here (by first | exact map_at1 ((14 + k1)) (by omega) (by omega) | exact wa_at1 ((14 + k1)) (by omega) (by omega))) ?_
      refine mv rfl .no (.u rfl) ?_
      refine mv rfl .no (.u rfl) ?_
      refine arn (((14 + k1) : Nat) : Int) rfl .no (.u rfl) (.u rfl) rfl (fun _ => by omega) (fun _ => wrap_i64 (by omega) (by omega)) ?_
      refine ia rfl .no Fx.se109 (.u rfl) (.u rfl) (fun _ => by omega) (fun _ => by omega) ?_
      refine ld rfl .no Fx.ag69 (.u rfl) (fun _ => Rd.row .here (by first | exact map_at1 ((14 + k1)) (by omega) (by omega) | exact wa_at1 ((14 + k1)) (by omega) (by omega))) ?_
      refine mv rfl .no (.u rfl) ?_
      refine mv rfl .no (.u rfl) ?_
      refine arn (((14 + k1) : Nat) : Int) rfl .no (.u rfl) (.u rfl) rfl (fun _ => by omega) (fun _ => wrap_i64 (by omega) (by omega)) ?_
      refine ia rfl .no Fx.se109 (.u rfl) (.u rfl) (fun _ => by omega) (fun _ => by omega) ?_
      refine ld rfl .no Fx.ag69 (.u rfl) (fun _ => Rd.row .here (by first | exact map_at1 ((14 + k1)) (by omega) (by omega) | exact wa_at1 ((14 + k1)) (by omega) (by omega))) ?_
      refine rw' (k := .u32) rfl .no (.u rfl) (.u rfl) (fun _ => by decide) ?_
      refine kv rfl .no Fx.go88 (Eva.cons (.u rfl) (Eva.cons (.u rfl) Eva.nil)) (fun _ => rturn_ok _ 17 _ (by decide)) ?_
      refine kv rfl .no Fx.go88 (Eva.cons (.u rfl) (Eva.cons (.u rfl) Eva.nil)) (fun _ => rturn_ok _ 19 _ (by decide)) ?_
      refine bw (k := .u32) rfl .no rfl (.u rfl) (.u rfl) rfl ?_
      refine bw (k := .u32) rfl .no rfl (.u rfl) (.u rfl) rfl ?_
      refine asg rfl .no (.u rfl) ?_
      refine .nil ?_
      refine .code ?_
      refine Wk.draw (mc := ⟨false, false⟩) [0, 1, 2, 3, 4, 5, 6, 7, 8, 9, 10, 11, 12, 13, 14, 15, 16, 17, 18] Fx.mix (by kernel_rfl) ?_
      refine mv rfl .no (.u rfl) ?_
      refine mv rfl .no (.u rfl) ?_
      refine mv rfl .no (.u rfl) ?_
      refine arn ((k1 : Nat) : Int) rfl .no (.u rfl) (.u rfl) rfl (fun _ => by omega) (fun _ => wrap_i64 (by omega) (by omega)) ?_
      refine ia rfl .no Fx.se109 (.u rfl) (.u rfl) (fun _ => by omega) (fun _ => by omega) ?_
      refine ld rfl .no Fx.ag69 (.u rfl) (fun _ => Rd.row .here (by first | exact map_at1 (k1) (by omega) (by omega) | exact wa_at1 (k1) (by omega) (by omega))) ?_
      refine mv rfl .no (.u rfl) ?_
      refine bw (k := .u32) rfl .no rfl (.u rfl) (.u rfl) rfl ?_
      refine mv rfl .no (.u rfl) ?_
      refine mv rfl .no (.u rfl) ?_
      refine arn (((9 + k1) : Nat) : Int) rfl .no (.u rfl) (.u rfl) rfl (fun _ => by omega) (fun _ => wrap_i64 (by omega) (by omega)) ?_
      refine ia rfl .no Fx.se109 (.u rfl) (.u rfl) (fun _ => by omega) (fun _ => by omega) ?_
      refine ld rfl .no Fx.ag69 (.u rfl) (fun _ => Rd.row .here (by first | exact map_at1 ((9 + k1)) (by omega) (by omega) | exact wa_at1 ((9 + k1)) (by omega) (by omega))) ?_
      refine bw (k := .u32) rfl .no rfl (.u rfl) (.u rfl) rfl ?_
      refine mv rfl .no (.u rfl) ?_
      refine bw (k := .u32) rfl .no rfl (.u rfl) (.u rfl) rfl ?_
      refine Go.Tan.b1 rfl Fx.se109 Fx.zv69 (.u rfl) rfl rfl (by decide) ?_; intro b108
      refine ap rfl Fx.se109 Fx.zv69 rfl (.u rfl) (.u rfl) (.there .here) (rfl) (fun _ => ⟨_, _, rfl, RdN.own .here⟩) (one1 rfl) (by omega) (by unfold maxLen; omega) ?_; intro v109
      refine asg rfl .no (.u rfl) ?_
      refine .nil ?_
      refine .blk ?_
      refine .code ?_
      refine Wk.rg [0, 1, 2] rfl rfl ?_
      refine mv rfl .no (.u rfl) ?_
      refine arn (((((16 + k1 : Nat)) + 1) : Nat) : Int) rfl .no (.u rfl) (.u rfl) rfl (fun _ => by omega) (fun _ => wrap_i64 (by omega) (by omega)) ?_
      refine asg rfl .no (.u rfl) ?_
      refine .nil ?_
      refine We.lpo (k1 + 1, v109, upd y (16 + k1) (y k1 + s0W (y (1 + k1)) + y (9 + k1) + s1W (y (14 + k1)))) ?_ ?_ ?_ ?_ ?_
      · exact (ESub.cons rfl rfl (ESub.cons rfl (by first | rfl | exact evi (by omega)) ESub.nil))
      · exact (MSub.cons .here row_snoc MSub.nil)
      · first | omega | (dsimp only; omega)
      · exact hGl1
      · refine ⟨?_, ?_⟩
        · (try dsimp only) <;> (first | omega | rfl | assumption | (simp; done))
        · (try dsimp only) <;> (rw [ey, sched]; exact congrArg (upd _ _) (add_mid ..))
    · have c2k := c2
      try simp only [decide_eq_true_eq, decide_eq_false_iff_not, Int.not_lt, Int.not_le, gt_iff_lt, ge_iff_le, Bool.or_eq_true, Bool.and_eq_true, Bool.or_eq_false_iff, Bool.not_eq_true', Bool.not_eq_false', Int.toNat_natCast, bne_iff_ne, beq_iff_eq, bne_eq_false_iff_eq, beq_eq_false_iff_ne, ne_eq] at c2
      refine .exit ?_
      refine .xcode ?_
      refine .xlp ?_
      refine .xblk ?_
      refine .code ?_
      refine .seq ?_
      refine Wk.rg [0, 1] rfl rfl ?_
      refine mv rfl .no (.u rfl) ?_
      refine asg rfl .no (.u rfl) ?_
      refine .nil ?_
      refine .code ?_
      refine .ret ?_
      refine We.fin Tryd.results87 (.tmp rfl .nil) (MSub.cons .here rfl MSub.nil) ?_
      obtain rfl : k1 = 48 := by omega
      rw [ey]; rfl

theorem rnd_b {x y : Nat → W} {k : Nat} {zs : List Value} (h : zs.length = 8) (a e : W) (ha : a = rndW x (kW k) (y k) 0) (he : e = rndW x (kW k) (y k) 4) : bFold zs [(0, 1), (1, 1), (2, 1), (3, 1), (4, 1), (5, 1), (6, 1), (7, 1)] [[U a], [U (x 0)], [U (x 1)], [U (x 2)], [U e], [U (x 4)], [U (x 5)], [U (x 6)]] = wa 8 (rndW x (kW k) (y k)) := by
  subst ha; subst he
  match zs, h with
  | [a, b, c, d, e, f, g, h], _ => rfl
set_option maxHeartbeats 1000000 in
theorem rblock_ok (s : Nat → W) (xs : List Y) (h : Sh) (G : PM) (hs : SlR G 1 encY h xs) (hR : RdNP G 0 0 (wa 64 kW)) (hl : 64 ≤ xs.length) : Ct Tryd.prog 77 ([.agg (wa 8 s).toArray, h.val xs.length] : List Value).toArray G [] (fun _ μ' u => μ' = [] ∧ u = .agg (wa 8 (shaC s (fun i => xs.getD i 0))).toArray) := by
  refine Ct.of Tryd.func77 rfl Tryd.ntmps77 rfl fun w0 hs0 => ?_
  refine .seq ?_
  refine Wk.rg [0, 1] rfl rfl ?_
  refine bx rfl (.u rfl) rfl ?_; intro b2
  refine al rfl Fx.zr112 ?_; intro b4
  refine .nil ?_
  refine .code ?_
  refine .seq ?_
  refine Wk.rg [0, 1, 2] rfl rfl ?_
  refine mv rfl .no (.u rfl) ?_
  refine kc rfl Fx.go87 (Eva.cons (.u rfl) Eva.nil) (rwords_ok xs h _ hs hl) ?_
  rintro v12 G12 μ12 hG12 rfl
  have hs := hs.mono hG12
  have hR := hR.mono hG12
  refine asg rfl .no (.u rfl) ?_
  refine .nil ?_
  refine .code ?_
  refine .seq ?_
  refine Wk.rg [0, 1, 2] rfl rfl ?_
  refine lA rfl .no Fx.ag112 (.u rfl) (fun _ => RdN.own (.there (.there .here))) (fun _ => (by first | exact (ba_len _ _).trans (ba_len _ _).symm | exact (wa_len _ _).trans (wa_len _ _).symm | exact ba_len _ _ | exact wa_len _ _ | rfl | (simp only [wa_len, ba_len, List.length_append, List.length_cons, List.length_nil]))) ?_
  refine al rfl Fx.zr112 ?_; intro b6
  refine sw rfl (.u rfl) (.u rfl) rfl Fx.sz112 .here (by first | exact (ba_len _ _).trans (ba_len _ _).symm | exact (wa_len _ _).trans (wa_len _ _).symm | exact ba_len _ _ | exact wa_len _ _ | rfl | (simp only [wa_len, ba_len, List.length_append, List.length_cons, List.length_nil])) (by first | exact ba_one _ _ | exact wa_one _ _ | exact one_V _ | decide | exact one_app (wa_one _ _) (by simp [Value.oneCell'])) ?_
  refine .nil ?_
  refine .code ?_
  refine .seq ?_
  refine .seq ?_
  refine wk_rv (.there .here) (by omega) ?_; intro bRW cRW evRW lcRW; subst evRW
  refine Wk.rg [0] rfl rfl ?_
  refine asg rfl .no (.u rfl) ?_
  refine .nil ?_
  refine .code ?_
  refine .block ?_
  refine Wk.lop (α := Nat × (Nat → W)) (fun gh => [(7, true, .int .i64 (gh.1 : Int))]) (fun gh => [.blk b6 (cl (wa 8 gh.2) 112)])
    (fun gh Gl => (gh.1 ≤ 64) ∧ (gh.2 = rnds (sched (fun i => xs.getD i 0) 48) s gh.1)) (fun gh => 64 - gh.1) (0, s) [(2, true, _), (4, true, _), (5, true, _), (6, true, _)] [_, _, _]
    (ESub.cons rfl (by first | rfl | exact evi (by omega)) (ESub.cons rfl rfl (ESub.cons rfl rfl (ESub.cons rfl rfl (ESub.cons rfl rfl ESub.nil)))))
    (MSub.cons .here rfl (MSub.cons .here rfl (MSub.cons .here rfl (MSub.cons .here rfl MSub.nil)))) ?_ ?_
  · refine ⟨?_, ?_⟩
    · (try dsimp only) <;> (first | omega | rfl | assumption | (simp; done))
    · (try dsimp only) <;> (first | omega | rfl | assumption | (simp; done))
  intro gh N0 Gl0 hN0 hGl0 hF0
  obtain ⟨k, x⟩ := gh; dsimp only at hF0 hN0 ⊢
  obtain ⟨hk, ex⟩ := hF0
  have hs := hs.mono hGl0
  have hR := hR.mono hGl0
  refine .seq ?_
  refine .seq ?_
  refine Wk.rg [0, 1] rfl rfl ?_
  refine mv rfl .no (.u rfl) ?_
  refine cp rfl .no (.u rfl) (.u rfl) rfl ?_
  refine .nil ?_
  refine .code ?_
  refine .cond rfl (fun c1 => ?_) (fun c1 => ?_)
  · have c1k := c1
    try simp only [decide_eq_true_eq, decide_eq_false_iff_not, Int.not_lt, Int.not_le, gt_iff_lt, ge_iff_le, Bool.or_eq_true, Bool.and_eq_true, Bool.or_eq_false_iff, Bool.not_eq_true', Bool.not_eq_false', Int.toNat_natCast, bne_iff_ne, beq_iff_eq, bne_eq_false_iff_eq, beq_eq_false_iff_ne, ne_eq] at c1
    refine .skip ?_
    refine .code ?_
    refine .seq ?_
    refine .block ?_
    refine .seq ?_
    refine Wk.draw (mc := ⟨false, false⟩) [0, 1, 2, 3, 5, 6, 9, 10, 14, 15, 16, 17, 18, 19, 20, 21, 22, 23, 24, 25, 27, 28, 29, 31, 32, 33, 34, 4, 7, 8, 11, 12, 13, 26, 30, 35, 36] Fx.mix (by kernel_rfl) ?_
    refine iA rfl .no Fx.ar112 (.u rfl) (.u rfl) (fun _ => by decide) (fun _ => by decide) ?_
    refine ld rfl .no Fx.ag69 (.u rfl) (fun _ => Rd.own .here (by first | exact wa_at1 (7) (by omega) (by omega) | exact ba_at1 (7) (by omega) (by omega) | exact wap_at1 (7) (by omega) (by omega) | rfl)) ?_
    refine iA rfl .no Fx.ar112 (.u rfl) (.u rfl) (fun _ => by decide) (fun _ => by decide) ?_
    refine ld rfl .no Fx.ag69 (.u rfl) (fun _ => Rd.own .here (by first | exact wa_at1 (4) (by omega) (by omega) | exact ba_at1 (4) (by omega) (by omega) | exact wap_at1 (4) (by omega) (by omega) | rfl)) ?_
    refine iA rfl .no Fx.ar112 (.u rfl) (.u rfl) (fun _ => by decide) (fun _ => by decide) ?_
    refine ld rfl .no Fx.ag69 (.u rfl) (fun _ => Rd.own .here (by first | exact wa_at1 (4) (by omega) (by omega) | exact ba_at1 (4) (by omega) (by omega) | exact wap_at1 (4) (by omega) (by omega) | rfl)) ?_
    refine iA rfl .no Fx.ar112 (.u rfl) (.u rfl) (fun _ => by decide) (fun _ => by decide) ?_
    refine ld rfl .no Fx.ag69 (.u rfl) (fun _ => Rd.own .here (by first | exact wa_at1 (4) (by omega) (by omega) | exact ba_at1 (4) (by omega) (by omega) | exact wap_at1 (4) (by omega) (by omega) | rfl)) ?_
    refine iA rfl .no Fx.ar112 (.u rfl) (.u rfl) (fun _ => by decide) (fun _ => by decide) ?_
    refine ld rfl .no Fx.ag69 (.u rfl) (fun _ => Rd.own .here (by first | exact wa_at1 (4) (by omega) (by omega) | exact ba_at1 (4) (by omega) (by omega) | exact wap_at1 (4) (by omega) (by omega) | rfl)) ?_
    refine iA rfl .no Fx.ar112 (.u rfl) (.u rfl) (fun _ => by decide) (fun _ => by decide) ?_
    refine ld rfl .no Fx.ag69 (.u rfl) (fun _ => Rd.own .here (by first | exact wa_at1 (5) (by omega) (by omega) | exact ba_at1 (5) (by omega) (by omega) | exact wap_at1 (5) (by omega) (by omega) | rfl)) ?_
    refine bw (k := .u32) rfl .no rfl (.u rfl) (.u rfl) rfl ?_
    refine iA rfl .no Fx.ar112 (.u rfl) (.u rfl) (fun _ => by decide) (fun _ => by decide) ?_
    refine ld rfl .no Fx.ag69 (.u rfl) (fun _ => Rd.own .here (by first | exact wa_at1 (4) (by omega) (by omega) | exact ba_at1 (4) (by omega) (by omega) | exact wap_at1 (4) (by omega) (by omega) | rfl)) ?_
    refine xw (k := .u32) rfl .no rfl (.u rfl) ?_
    refine iA rfl .no Fx.ar112 (.u rfl) (.u rfl) (fun _ => by decide) (fun _ => by decide) ?_
    refine ld rfl .no Fx.ag69 (.u rfl) (fun _ => Rd.own .here (by first | exact wa_at1 (6) (by omega) (by omega) | exact ba_at1 (6) (by omega) (by omega) | exact wap_at1 (6) (by omega) (by omega) | rfl)) ?_
    refine bw (k := .u32) rfl .no rfl (.u rfl) (.u rfl) rfl ?_
    refine bw (k := .u32) rfl .no rfl (.u rfl) (.u rfl) rfl ?_
    refine mv rfl .no (.u rfl) ?_
    refine iA rfl .no Fx.ar127 (.u rfl) (.u rfl) (fun _ => by omega) (fun _ => by omega) ?_
    refine ld rfl .no Fx.ag69 (.u rfl) (fun _ => (hR.wat (k) (by omega) (by omega)).rd) ?_
    refine mv rfl .no (.u rfl) ?_
    refine mv rfl .no (.u rfl) ?_
    refine ia rfl .no Fx.se109 (.u rfl) (.u rfl) (fun _ => by omega) (fun _ => by omega) ?_
    refine ld rfl .no Fx.ag69 (.u rfl) (fun _ => Rd.row (.there .here) (by first | exact map_at1 (k) (by omega) (by omega) | exact wa_at1 (k) (by omega) (by omega))) ?_
    refine kv rfl .no Fx.go88 (Eva.cons (.u rfl) (Eva.cons (.u rfl) Eva.nil)) (fun _ => rturn_ok _ 6 _ (by decide)) ?_
    refine kv rfl .no Fx.go88 (Eva.cons (.u rfl) (Eva.cons (.u rfl) Eva.nil)) (fun _ => rturn_ok _ 11 _ (by decide)) ?_
    refine bw (k := .u32) rfl .no rfl (.u rfl) (.u rfl) rfl ?_
    refine kv rfl .no Fx.go88 (Eva.cons (.u rfl) (Eva.cons (.u rfl) Eva.nil)) (fun _ => rturn_ok _ 25 _ (by decide)) ?_
    refine bw (k := .u32) rfl .no rfl (.u rfl) (.u rfl) rfl ?_
    refine bw (k := .u32) rfl .no rfl (.u rfl) (.u rfl) rfl ?_
    refine bw (k := .u32) rfl .no rfl (.u rfl) (.u rfl) rfl ?_
    refine bw (k := .u32) rfl .no rfl (.u rfl) (.u rfl) rfl ?_
    refine bw (k := .u32) rfl .no rfl (.u rfl) (.u rfl) rfl ?_
    refine asg rfl .no (.u rfl) ?_
    refine .nil ?_
    refine .code ?_
    refine .seq ?_
    refine Wk.draw (mc := ⟨false, false⟩) [0, 1, 3, 4, 7, 8, 11, 12, 13, 14, 15, 16, 17, 18, 19, 20, 21, 22, 23, 24, 25, 26, 27, 2, 5, 6, 9, 10, 28, 29] Fx.mix (by kernel_rfl) ?_
    refine iA rfl .no Fx.ar112 (.u rfl) (.u rfl) (fun _ => by decide) (fun _ => by decide) ?_
    refine ld rfl .no Fx.ag69 (.u rfl) (fun _ => Rd.own .here (by first | exact wa_at1 (0) (by omega) (by omega) | exact ba_at1 (0) (by omega) (by omega) | exact wap_at1 (0) (by omega) (by omega) | rfl)) ?_
    refine iA rfl .no Fx.ar112 (.u rfl) (.u rfl) (fun _ => by decide) (fun _ => by decide) ?_
    refine ld rfl .no Fx.ag69 (.u rfl) (fun _ => Rd.own .here (by first | exact wa_at1 (0) (by omega) (by omega) | exact ba_at1 (0) (by omega) (by omega) | exact wap_at1 (0) (by omega) (by omega) | rfl)) ?_
    refine iA rfl .no Fx.ar112 (.u rfl) (.u rfl) (fun _ => by decide) (fun _ => by decide) ?_
    refine ld rfl .no Fx.ag69 (.u rfl) (fun _ => Rd.own .here (by first | exact wa_at1 (0) (by omega) (by omega) | exact ba_at1 (0) (by omega) (by omega) | exact wap_at1 (0) (by omega) (by omega) | rfl)) ?_
    refine iA rfl .no Fx.ar112 (.u rfl) (.u rfl) (fun _ => by decide) (fun _ => by decide) ?_
    refine ld rfl .no Fx.ag69 (.u rfl) (fun _ => Rd.own .here (by first | exact wa_at1 (0) (by omega) (by omega) | exact ba_at1 (0) (by omega) (by omega) | exact wap_at1 (0) (by omega) (by omega) | rfl)) ?_
    refine iA rfl .no Fx.ar112 (.u rfl) (.u rfl) (fun _ => by decide) (fun _ => by decide) ?_
    refine ld rfl .no Fx.ag69 (.u rfl) (fun _ => Rd.own .here (by first | exact wa_at1 (1) (by omega) (by omega) | exact ba_at1 (1) (by omega) (by omega) | exact wap_at1 (1) (by omega) (by omega) | rfl)) ?_
    refine bw (k := .u32) rfl .no rfl (.u rfl) (.u rfl) rfl ?_
    refine iA rfl .no Fx.ar112 (.u rfl) (.u rfl) (fun _ => by decide) (fun _ => by decide) ?_
    refine ld rfl .no Fx.ag69 (.u rfl) (fun _ => Rd.own .here (by first | exact wa_at1 (0) (by omega) (by omega) | exact ba_at1 (0) (by omega) (by omega) | exact wap_at1 (0) (by omega) (by omega) | rfl)) ?_
    refine iA rfl .no Fx.ar112 (.u rfl) (.u rfl) (fun _ => by decide) (fun _ => by decide) ?_
    refine ld rfl .no Fx.ag69 (.u rfl) (fun _ => Rd.own .here (by first | exact wa_at1 (2) (by omega) (by omega) | exact ba_at1 (2) (by omega) (by omega) | exact wap_at1 (2) (by omega) (by omega) | rfl)) ?_
    refine bw (k := .u32) rfl .no rfl (.u rfl) (.u rfl) rfl ?_
    refine bw (k := .u32) rfl .no rfl (.u rfl) (.u rfl) rfl ?_
    refine iA rfl .no Fx.ar112 (.u rfl) (.u rfl) (fun _ => by decide) (fun _ => by decide) ?_
    refine ld rfl .no Fx.ag69 (.u rfl) (fun _ => Rd.own .here (by first | exact wa_at1 (1) (by omega) (by omega) | exact ba_at1 (1) (by omega) (by omega) | exact wap_at1 (1) (by omega) (by omega) | rfl)) ?_
    refine iA rfl .no Fx.ar112 (.u rfl) (.u rfl) (fun _ => by decide) (fun _ => by decide) ?_
    refine ld rfl .no Fx.ag69 (.u rfl) (fun _ => Rd.own .here (by first | exact wa_at1 (2) (by omega) (by omega) | exact ba_at1 (2) (by omega) (by omega) | exact wap_at1 (2) (by omega) (by omega) | rfl)) ?_
    refine bw (k := .u32) rfl .no rfl (.u rfl) (.u rfl) rfl ?_
    refine bw (k := .u32) rfl .no rfl (.u rfl) (.u rfl) rfl ?_
    refine kv rfl .no Fx.go88 (Eva.cons (.u rfl) (Eva.cons (.u rfl) Eva.nil)) (fun _ => rturn_ok _ 2 _ (by decide)) ?_
    refine kv rfl .no Fx.go88 (Eva.cons (.u rfl) (Eva.cons (.u rfl) Eva.nil)) (fun _ => rturn_ok _ 13 _ (by decide)) ?_
    refine bw (k := .u32) rfl .no rfl (.u rfl) (.u rfl) rfl ?_
    refine kv rfl .no Fx.go88 (Eva.cons (.u rfl) (Eva.cons (.u rfl) Eva.nil)) (fun _ => rturn_ok _ 22 _ (by decide)) ?_
    refine bw (k := .u32) rfl .no rfl (.u rfl) (.u rfl) rfl ?_
    refine bw (k := .u32) rfl .no rfl (.u rfl) (.u rfl) rfl ?_
    refine asg rfl .no (.u rfl) ?_
    refine .nil ?_
    refine .code ?_
    refine Wk.rg [0, 1, 2, 3, 4, 5, 6, 7, 8, 9, 10, 11, 12, 13, 14, 15, 16, 17, 18, 19, 20] rfl rfl ?_
    refine mv rfl .no (.u rfl) ?_
    refine mv rfl .no (.u rfl) ?_
    refine bw (k := .u32) rfl .no rfl (.u rfl) (.u rfl) rfl ?_
    refine iA rfl .no Fx.ar112 (.u rfl) (.u rfl) (fun _ => by decide) (fun _ => by decide) ?_
    refine ld rfl .no Fx.ag69 (.u rfl) (fun _ => Rd.own .here (by first | exact wa_at1 (0) (by omega) (by omega) | exact ba_at1 (0) (by omega) (by omega) | exact wap_at1 (0) (by omega) (by omega) | rfl)) ?_
    refine iA rfl .no Fx.ar112 (.u rfl) (.u rfl) (fun _ => by decide) (fun _ => by decide) ?_
    refine ld rfl .no Fx.ag69 (.u rfl) (fun _ => Rd.own .here (by first | exact wa_at1 (1) (by omega) (by omega) | exact ba_at1 (1) (by omega) (by omega) | exact wap_at1 (1) (by omega) (by omega) | rfl)) ?_
    refine iA rfl .no Fx.ar112 (.u rfl) (.u rfl) (fun _ => by decide) (fun _ => by decide) ?_
    refine ld rfl .no Fx.ag69 (.u rfl) (fun _ => Rd.own .here (by first | exact wa_at1 (2) (by omega) (by omega) | exact ba_at1 (2) (by omega) (by omega) | exact wap_at1 (2) (by omega) (by omega) | rfl)) ?_
    refine iA rfl .no Fx.ar112 (.u rfl) (.u rfl) (fun _ => by decide) (fun _ => by decide) ?_
    refine ld rfl .no Fx.ag69 (.u rfl) (fun _ => Rd.own .here (by first | exact wa_at1 (3) (by omega) (by omega) | exact ba_at1 (3) (by omega) (by omega) | exact wap_at1 (3) (by omega) (by omega) | rfl)) ?_
    refine mv rfl .no (.u rfl) ?_
    refine bw (k := .u32) rfl .no rfl (.u rfl) (.u rfl) rfl ?_
    refine iA rfl .no Fx.ar112 (.u rfl) (.u rfl) (fun _ => by decide) (fun _ => by decide) ?_
    refine ld rfl .no Fx.ag69 (.u rfl) (fun _ => Rd.own .here (by first | exact wa_at1 (4) (by omega) (by omega) | exact ba_at1 (4) (by omega) (by omega) | exact wap_at1 (4) (by omega) (by omega) | rfl)) ?_
    refine iA rfl .no Fx.ar112 (.u rfl) (.u rfl) (fun _ => by decide) (fun _ => by decide) ?_
    refine ld rfl .no Fx.ag69 (.u rfl) (fun _ => Rd.own .here (by first | exact wa_at1 (5) (by omega) (by omega) | exact ba_at1 (5) (by omega) (by omega) | exact wap_at1 (5) (by omega) (by omega) | rfl)) ?_
    refine iA rfl .no Fx.ar112 (.u rfl) (.u rfl) (fun _ => by decide) (fun _ => by decide) ?_
    refine ld rfl .no Fx.ag69 (.u rfl) (fun _ => Rd.own .here (by first | exact wa_at1 (6) (by omega) (by omega) | exact ba_at1 (6) (by omega) (by omega) | exact wap_at1 (6) (by omega) (by omega) | rfl)) ?_
    refine bCe (wa 8 (rndW x (kW k) (sched (fun i => xs.getD i 0) 48 k))) rfl .no Fx.bp112_0_1_2_3_4_5_6_7 (.cons (.u rfl) rfl (.cons (.u rfl) rfl (.cons (.u rfl) rfl (.cons (.u rfl) rfl (.cons (.u rfl) rfl (.cons (.u rfl) rfl (.cons (.u rfl) rfl (.cons (.u rfl) rfl .nil)))))))) rfl (rnd_b (y := sched (fun i => xs.getD i 0) 48) rfl _ _ (rnd_a x _ _) (rnd_e x _ _)) ?_
    refine sw rfl (.u rfl) (.u rfl) rfl Fx.sz112 .here (by first | exact (ba_len _ _).trans (ba_len _ _).symm | exact (wa_len _ _).trans (wa_len _ _).symm | exact ba_len _ _ | exact wa_len _ _ | rfl | (simp only [wa_len, ba_len, List.length_append, List.length_cons, List.length_nil])) (by first | exact ba_one _ _ | exact wa_one _ _ | exact one_V _ | decide | exact one_app (wa_one _ _) (by simp [Value.oneCell'])) ?_
    refine .nil ?_
    refine .blk ?_
    refine .code ?_
    refine Wk.rg [0, 1, 2] rfl rfl ?_
    refine mv rfl .no (.u rfl) ?_
    refine arn (((k + 1) : Nat) : Int) rfl .no (.u rfl) (.u rfl) rfl (fun _ => by omega) (fun _ => wrap_i64 (by omega) (by omega)) ?_
    refine asg rfl .no (.u rfl) ?_
    refine .nil ?_
    refine We.lpo (k + 1, rndW x (kW k) (sched (fun i => xs.getD i 0) 48 k)) ?_ ?_ ?_ ?_ ?_
    · exact (ESub.cons rfl (by first | rfl | exact evi (by omega)) (ESub.cons rfl rfl (ESub.cons rfl rfl (ESub.cons rfl rfl (ESub.cons rfl rfl ESub.nil)))))
    · exact (MSub.cons .here rfl (MSub.cons .here rfl (MSub.cons .here rfl (MSub.cons .here rfl MSub.nil))))
    · first | omega | (dsimp only; omega)
    · exact hGl0
    · refine ⟨?_, ?_⟩
      · (try dsimp only) <;> (first | omega | rfl | assumption | (simp; done))
      · (try dsimp only) <;> (rw [ex]; rfl)
  · have c1k := c1
    try simp only [decide_eq_true_eq, decide_eq_false_iff_not, Int.not_lt, Int.not_le, gt_iff_lt, ge_iff_le, Bool.or_eq_true, Bool.and_eq_true, Bool.or_eq_false_iff, Bool.not_eq_true', Bool.not_eq_false', Int.toNat_natCast, bne_iff_ne, beq_iff_eq, bne_eq_false_iff_eq, beq_eq_false_iff_ne, ne_eq] at c1
    refine .exit ?_
    refine .xcode ?_
    refine .xlp ?_
    refine .xblk ?_
    refine .code ?_
    refine .seq ?_
    refine .seq ?_
    refine Wk.rg [0] rfl rfl ?_
    refine asg rfl .no (.u rfl) ?_
    refine .nil ?_
    refine .code ?_
    refine .block ?_
    obtain rfl : k = 64 := by omega
    refine Wk.lop (α := Nat × (Nat → W)) (fun gh => [(10, true, .int .i64 (gh.1 : Int))]) (fun gh => [.blk b6 (cl (wa 8 gh.2) 112)])
      (fun gh Gl => (gh.1 ≤ 8) ∧ (gh.2 = fun i => if i < gh.1 then s i + x i else x i)) (fun gh => 8 - gh.1) (0, x) [(2, true, _), (4, true, _), (6, true, _)] [_, _, _]
      (ESub.cons rfl (by first | rfl | exact evi (by omega)) (ESub.cons rfl rfl (ESub.cons rfl rfl (ESub.cons rfl rfl ESub.nil))))
      (MSub.cons .here rfl (MSub.cons .here rfl (MSub.cons .here rfl (MSub.cons .here rfl MSub.nil)))) ?_ ?_
    · refine ⟨?_, ?_⟩
      · (try dsimp only) <;> (first | omega | rfl | assumption | (simp; done))
      · (try dsimp only) <;> (funext i; simp)
    intro gh N1 Gl1 hN1 hGl1 hF1
    obtain ⟨q, z⟩ := gh; dsimp only at hF1 hN1 ⊢
    obtain ⟨hq, ez⟩ := hF1
    have hs := hs.mono hGl1
    have hR := hR.mono hGl1
    refine .seq ?_
    refine .seq ?_
    refine Wk.rg [0, 1] rfl rfl ?_
    refine mv rfl .no (.u rfl) ?_
    refine cp rfl .no (.u rfl) (.u rfl) rfl ?_
    refine .nil ?_
    refine .code ?_
    refine .cond rfl (fun c2 => ?_) (fun c2 => ?_)
    · have c2k := c2
      try simp only [decide_eq_true_eq, decide_eq_false_iff_not, Int.not_lt, Int.not_le, gt_iff_lt, ge_iff_le, Bool.or_eq_true, Bool.and_eq_true, Bool.or_eq_false_iff, Bool.not_eq_true', Bool.not_eq_false', Int.toNat_natCast, bne_iff_ne, beq_iff_eq, bne_eq_false_iff_eq, beq_eq_false_iff_ne, ne_eq] at c2
      refine .skip ?_
      refine .code ?_
      refine .seq ?_
      refine .block ?_
      refine Wk.draw (mc := ⟨false, false⟩) [0, 1, 2, 3, 4, 5, 6, 7, 8, 9] Fx.mix (by kernel_rfl) ?_
      refine mv rfl .no (.u rfl) ?_
      refine mv rfl .no (.u rfl) ?_
      refine iA rfl .no Fx.ar112 (.u rfl) (.u rfl) (fun _ => by omega) (fun _ => by omega) ?_
      refine ld rfl .no Fx.ag69 (.u rfl) (fun _ => Rd.own .here (by first | exact wa_at1 (q) (by omega) (by omega) | exact ba_at1 (q) (by omega) (by omega) | exact wap_at1 (q) (by omega) (by omega) | rfl)) ?_
      refine mv rfl .no (.u rfl) ?_
      refine iA rfl .no Fx.ar112 (.u rfl) (.u rfl) (fun _ => by omega) (fun _ => by omega) ?_
      refine ld rfl .no Fx.ag69 (.u rfl) (fun _ => Rd.own (.there (.there (.there .here))) (by first | exact wa_at1 (q) (by omega) (by omega) | exact ba_at1 (q) (by omega) (by omega) | exact wap_at1 (q) (by omega) (by omega) | rfl)) ?_
      refine bw (k := .u32) rfl .no rfl (.u rfl) (.u rfl) rfl ?_
      refine iA rfl .no Fx.ar112 (.u rfl) (.u rfl) (fun _ => by omega) (fun _ => by omega) ?_
      refine s1 rfl (.u rfl) (.u rfl) rfl Fx.sz69 .here (by first | decide | (simp only [wa_len, ba_len, List.length_append, List.length_cons, List.length_nil]; omega)) (by first | exact wa_set1 (q) (by omega) | exact ba_set1 (q) (by omega) | exact wap_set1 (q) (by omega) (by omega) | rfl) ?_
      refine .nil ?_
      refine .blk ?_
      refine .code ?_
      refine Wk.rg [0, 1, 2] rfl rfl ?_
      refine mv rfl .no (.u rfl) ?_
      refine arn (((q + 1) : Nat) : Int) rfl .no (.u rfl) (.u rfl) rfl (fun _ => by omega) (fun _ => wrap_i64 (by omega) (by omega)) ?_
      refine asg rfl .no (.u rfl) ?_
      refine .nil ?_
      refine We.lpo (q + 1, upd z q (z q + s q)) ?_ ?_ ?_ ?_ ?_
      · exact (ESub.cons rfl (by first | rfl | exact evi (by omega)) (ESub.cons rfl rfl (ESub.cons rfl rfl (ESub.cons rfl rfl ESub.nil))))
      · exact (MSub.cons .here rfl (MSub.cons .here rfl (MSub.cons .here rfl (MSub.cons .here rfl MSub.nil))))
      · first | omega | (dsimp only; omega)
      · exact hGl1
      · refine ⟨?_, ?_⟩
        · (try dsimp only) <;> (first | omega | rfl | assumption | (simp; done))
        · (try dsimp only) <;> (rw [ez]; exact upd_if2)
    · have c2k := c2
      try simp only [decide_eq_true_eq, decide_eq_false_iff_not, Int.not_lt, Int.not_le, gt_iff_lt, ge_iff_le, Bool.or_eq_true, Bool.and_eq_true, Bool.or_eq_false_iff, Bool.not_eq_true', Bool.not_eq_false', Int.toNat_natCast, bne_iff_ne, beq_iff_eq, bne_eq_false_iff_eq, beq_eq_false_iff_ne, ne_eq] at c2
      refine .exit ?_
      refine .xcode ?_
      refine .xlp ?_
      refine .xblk ?_
      refine .code ?_
      refine .seq ?_
      refine Wk.rg [0, 1] rfl rfl ?_
      refine lA rfl .no Fx.ag112 (.u rfl) (fun _ => RdN.own .here) (fun _ => (by first | exact (ba_len _ _).trans (ba_len _ _).symm | exact (wa_len _ _).trans (wa_len _ _).symm | exact ba_len _ _ | exact wa_len _ _ | rfl | (simp only [wa_len, ba_len, List.length_append, List.length_cons, List.length_nil]))) ?_
      refine sw rfl (.u rfl) (.u rfl) rfl Fx.sz112 (.there (.there .here)) (by first | exact (ba_len _ _).trans (ba_len _ _).symm | exact (wa_len _ _).trans (wa_len _ _).symm | exact ba_len _ _ | exact wa_len _ _ | rfl | (simp only [wa_len, ba_len, List.length_append, List.length_cons, List.length_nil])) (by first | exact ba_one _ _ | exact wa_one _ _ | exact one_V _ | decide | exact one_app (wa_one _ _) (by simp [Value.oneCell'])) ?_
      refine .nil ?_
      refine .code ?_
      refine .ret ?_
      refine We.fin0 Tryd.results77 (.cell rfl (fun w hw => run_loadVarN Fx.ag112 (RdN.own .here) ((by first | exact (ba_len _ _).trans (ba_len _ _).symm | exact (wa_len _ _).trans (wa_len _ _).symm | exact ba_len _ _ | exact wa_len _ _ | rfl | (simp only [wa_len, ba_len, List.length_append, List.length_cons, List.length_nil]))) hw) .nil) ?_
      obtain rfl : q = 8 := by omega
      exact ⟨rfl, by rw [ez, ex, wa_congr (f := fun i => if i < 8 then s i + rnds (sched (fun i => xs.getD i 0) 48) s 64 i else rnds (sched (fun i => xs.getD i 0) 48) s 64 i) (f' := shaC s (fun i => xs.getD i 0)) (fun i hi => by rw [if_pos hi]; rfl)]; rfl⟩

theorem padded_ok (xs : List Y) (h : Sh) (G : PM) (hs : SlR G 1 encY h xs) (hl : xs.length ≤ 1000000000000) : Ct Tryd.prog 76 ([h.val xs.length] : List Value).toArray G [] (PR 5 (fun L => L = padL xs)) := by
  refine Ct.of Tryd.func76 rfl Tryd.ntmps76 rfl fun w0 hs0 => ?_
  have hz : zeros xs.length = (119 - xs.length % 64) % 64 := rfl
  refine .seq ?_
  refine Wk.rg [0] rfl rfl ?_
  refine asg rfl .no (.u rfl) ?_
  refine .nil ?_
  refine .code ?_
  refine .seq ?_
  refine Wk.rg [0, 1, 2, 3] rfl rfl ?_
  refine b0B rfl Fx.se27 ?_; intro b6
  refine mv rfl .no (.u rfl) ?_
  refine apY0 rfl Fx.se27 Fx.zv5 (.u rfl) (.u rfl) .here hs.sc (by (try simp only [List.length_append, List.length_cons, List.length_nil, yl_len]); omega) ?_
  intro v8 L8 _ ov8 eL8
  have lL8 : L8.length = xs.length := by rw [eL8]
  refine asg rfl .no (.u rfl) ?_
  refine .nil ?_
  refine .code ?_
  refine .seq ?_
  refine Wk.rg [0, 1, 2, 3] rfl rfl ?_
  refine mv rfl .no (.u rfl) ?_
  refine Go.Tan.b1 rfl Fx.se27 Fx.zv5 (.u rfl) rfl rfl (by decide) ?_; intro b10
  refine apY rfl Fx.se27 Fx.zv5 (.u rfl) (.u rfl) (.there .here) (Sc.one (y := 128#8) .here) (by show _ + 1 ≤ _; omega) ?_
  intro v11 L11 ov11 eL11
  have lL11 : L11.length = L8.length + 1 := by rw [eL11, List.length_append]; first | rfl | simp [yl_len]
  refine asg rfl .no (.u rfl) ?_
  refine .nil ?_
  refine .code ?_
  refine .seq ?_
  refine .block ?_
  refine Wk.lop (α := Nat × Value × List Y) (fun gh => [(3, true, gh.2.1)]) (fun gh => [rB gh.2.1 5 gh.2.2])
    (fun gh Gl => (gh.1 ≤ zeros xs.length) ∧ (gh.2.2 = xs ++ 128#8 :: List.replicate gh.1 0#8)) (fun gh => zeros xs.length - gh.1) (0, _, _) [(0, true, _)] [_]
    (ESub.cons rfl rfl (ESub.cons rfl rfl ESub.nil))
    (MSub.cons .here rfl (MSub.cons .here rfl MSub.nil)) ?_ ?_
  · refine ⟨?_, ?_⟩
    · (try dsimp only) <;> (exact Nat.zero_le _)
    · (try dsimp only) <;> (rw [eL11, eL8]; rfl)
  intro gh N0 Gl0 hN0 hGl0 hF0
  obtain ⟨j, v, L⟩ := gh; dsimp only at hF0 hN0 ⊢
  obtain ⟨hj, eL⟩ := hF0
  have hs := hs.mono hGl0
  have lL : L.length = xs.length + 1 + j := by rw [eL]; simp; omega
  refine .seq ?_
  refine .seq ?_
  refine Wk.rg [0, 1, 2, 3] rfl rfl ?_
  refine mv rfl .no (.u rfl) ?_
  refine lr rfl .no Fx.sn27 (.u rfl) .here ?_
  refine rmn (L.length) (64) rfl .no (.u rfl) (.u rfl) (fun _ => by omega) (fun _ => by omega) (fun _ => by first | decide | omega) ?_
  refine cp rfl .no (.u rfl) (.u rfl) rfl ?_
  refine .nil ?_
  refine .code ?_
  refine .cond rfl (fun c1 => ?_) (fun c1 => ?_)
  · have c1k := c1
    try simp only [decide_eq_true_eq, decide_eq_false_iff_not, Int.not_lt, Int.not_le, gt_iff_lt, ge_iff_le, Bool.or_eq_true, Bool.and_eq_true, Bool.or_eq_false_iff, Bool.not_eq_true', Bool.not_eq_false', Int.toNat_natCast, bne_iff_ne, beq_iff_eq, bne_eq_false_iff_eq, beq_eq_false_iff_ne, ne_eq] at c1
    refine .skip ?_
    refine .code ?_
    refine .block ?_
    refine Wk.rg [0, 1, 2, 3] rfl rfl ?_
    refine mv rfl .no (.u rfl) ?_
    refine Go.Tan.b1 rfl Fx.se27 Fx.zv5 (.u rfl) rfl rfl (by decide) ?_; intro b17
    refine apY rfl Fx.se27 Fx.zv5 (.u rfl) (.u rfl) (.there .here) (Sc.one (y := 0#8) .here) (by show _ + 1 ≤ _; omega) ?_
    intro v18 L18 ov18 eL18
    have lL18 : L18.length = L.length + 1 := by rw [eL18, List.length_append]; first | rfl | simp [yl_len]
    refine asg rfl .no (.u rfl) ?_
    refine .nil ?_
    refine .blk ?_
    refine We.lpo (j + 1, v18, L18) ?_ ?_ ?_ ?_ ?_
    · exact (ESub.cons rfl rfl (ESub.cons rfl rfl ESub.nil))
    · exact (MSub.cons .here rfl (MSub.cons (.there .here) rfl MSub.nil))
    · (try dsimp only); omega
    · exact hGl0
    · refine ⟨?_, ?_⟩
      · (try dsimp only) <;> (omega)
      · (try dsimp only) <;> (rw [eL18, eL, List.append_assoc, List.cons_append, ← List.replicate_succ'])
  · have c1k := c1
    try simp only [decide_eq_true_eq, decide_eq_false_iff_not, Int.not_lt, Int.not_le, gt_iff_lt, ge_iff_le, Bool.or_eq_true, Bool.and_eq_true, Bool.or_eq_false_iff, Bool.not_eq_true', Bool.not_eq_false', Int.toNat_natCast, bne_iff_ne, beq_iff_eq, bne_eq_false_iff_eq, beq_eq_false_iff_ne, ne_eq] at c1
    refine .exit ?_
    refine .xcode ?_
    refine .xlp ?_
    refine .xblk ?_
    refine .code ?_
    refine .seq ?_
    refine Wk.rg [0, 1, 2, 3, 4] rfl rfl ?_
    refine mv rfl .no (.u rfl) ?_
    refine ln rfl .no Fx.sn27 (.u rfl) ?_
    refine ci rfl .no rfl Fx.cv3_43 (.u rfl) ?_
    refine bw (k := .u64) (b := 8#64) rfl .no rfl (.u rfl) (.u rfl) rfl ?_
    refine asg rfl .no (.u rfl) ?_
    refine .nil ?_
    refine .code ?_
    refine .seq ?_
    refine .seq ?_
    refine Wk.rg [0] rfl rfl ?_
    refine asg rfl .no (.u rfl) ?_
    refine .nil ?_
    refine .code ?_
    refine .block ?_
    refine Wk.lop (α := Nat × Value × List Y) (fun gh => [(3, true, gh.2.1), (5, true, .int .i64 (7 - (gh.1 : Int)))]) (fun gh => [rB gh.2.1 5 gh.2.2])
      (fun gh Gl => (gh.1 ≤ 8) ∧ (gh.2.2 = xs ++ (128#8 :: List.replicate (zeros xs.length) 0#8 ++ lenB xs.length gh.1))) (fun gh => 8 - gh.1) (0, _, _) [(4, true, _)] [_]
      (ESub.cons rfl rfl (ESub.cons rfl (by first | rfl | exact evi (by omega)) (ESub.cons rfl rfl ESub.nil)))
      (MSub.cons .here rfl (MSub.cons .here rfl MSub.nil)) ?_ ?_
    · refine ⟨?_, ?_⟩
      · (try dsimp only) <;> (first | omega | rfl | assumption | (simp; done))
      · (try dsimp only) <;> (rw [eL, show j = zeros xs.length by omega]; simp [lenB])
    intro gh N1 Gl1 hN1 hGl1 hF1
    obtain ⟨q, v, L⟩ := gh; dsimp only at hF1 hN1 ⊢
    obtain ⟨hq, eL⟩ := hF1
    have hs := hs.mono hGl1
    have lL : L.length = xs.length + zeros xs.length + 1 + q := by rw [eL]; simp [lenB_len]; omega
    refine .seq ?_
    refine .seq ?_
    refine Wk.rg [0, 1] rfl rfl ?_
    refine mv rfl .no (.u rfl) ?_
    refine cp rfl .no (.u rfl) (.u rfl) rfl ?_
    refine .nil ?_
    refine .code ?_
    refine .cond rfl (fun c2 => ?_) (fun c2 => ?_)
    · have c2k := c2
      try simp only [decide_eq_true_eq, decide_eq_false_iff_not, Int.not_lt, Int.not_le, gt_iff_lt, ge_iff_le, Bool.or_eq_true, Bool.and_eq_true, Bool.or_eq_false_iff, Bool.not_eq_true', Bool.not_eq_false', Int.toNat_natCast, bne_iff_ne, beq_iff_eq, bne_eq_false_iff_eq, beq_eq_false_iff_ne, ne_eq] at c2
      refine .skip ?_
      refine .code ?_
      refine .seq ?_
      refine .block ?_
      refine Wk.rg [0, 1, 2, 3, 4, 5, 6, 7, 8] rfl rfl ?_
      refine mv rfl .no (.u rfl) ?_
      refine mv rfl .no (.u rfl) ?_
      refine mv rfl .no (.u rfl) ?_
      refine arn (((8 * (7 - q)) : Nat) : Int) rfl .no (.u rfl) (.u rfl) rfl (fun _ => by omega) (fun _ => wrap_i64 (by omega) (by omega)) ?_
      refine rw' (k := .u64) rfl .no (.u rfl) (.u rfl) (fun _ => by omega) ?_
      refine cu (k := .u64) rfl .no rfl Fx.cv43_5 (.u rfl) ?_
      refine Go.Tan.b1 rfl Fx.se27 Fx.zv5 (.u rfl) rfl rfl (by decide) ?_; intro b33
      refine apY rfl Fx.se27 Fx.zv5 (.u rfl) (.u rfl) (.there .here) (Sc.one .here) (by show _ + 1 ≤ _; omega) ?_
      intro v34 L34 ov34 eL34
      have lL34 : L34.length = L.length + 1 := by rw [eL34, List.length_append]; first | rfl | simp [yl_len]
      refine asg rfl .no (.u rfl) ?_
      refine .nil ?_
      refine .blk ?_
      refine .code ?_
      refine Wk.rg [0, 1, 2] rfl rfl ?_
      refine mv rfl .no (.u rfl) ?_
      refine ar rfl .no (.u rfl) (.u rfl) rfl (fun _ => wrap_i64 (by omega) (by omega)) ?_
      refine asg rfl .no (.u rfl) ?_
      refine .nil ?_
      refine We.lpo (q + 1, v34, L34) ?_ ?_ ?_ ?_ ?_
      · exact (ESub.cons rfl rfl (ESub.cons rfl (by first | rfl | exact evi (by omega)) (ESub.cons rfl rfl ESub.nil)))
      · exact (MSub.cons .here rfl (MSub.cons (.there .here) rfl MSub.nil))
      · first | omega | (dsimp only; omega)
      · exact hGl1
      · refine ⟨?_, ?_⟩
        · (try dsimp only) <;> (first | omega | rfl | assumption | (simp; done))
        · (try dsimp only) <;> (rw [eL34, eL, lenB_snoc, List.append_assoc, List.append_assoc, lenF_nat (by omega)]; rfl)
    · have c2k := c2
      try simp only [decide_eq_true_eq, decide_eq_false_iff_not, Int.not_lt, Int.not_le, gt_iff_lt, ge_iff_le, Bool.or_eq_true, Bool.and_eq_true, Bool.or_eq_false_iff, Bool.not_eq_true', Bool.not_eq_false', Int.toNat_natCast, bne_iff_ne, beq_iff_eq, bne_eq_false_iff_eq, beq_eq_false_iff_ne, ne_eq] at c2
      refine .exit ?_
      refine .xcode ?_
      refine .xlp ?_
      refine .xblk ?_
      refine .code ?_
      refine .seq ?_
      refine Wk.rg [0, 1] rfl rfl ?_
      refine mv rfl .no (.u rfl) ?_
      refine asg rfl .no (.u rfl) ?_
      refine .nil ?_
      refine .code ?_
      refine .ret ?_
      refine We.fin Tryd.results76 (.tmp rfl .nil) (MSub.cons .here rfl MSub.nil) ?_
      obtain rfl : q = 8 := by omega
      exact ⟨L, eL, rfl⟩

theorem rSum_ok (xs : List Y) (h : Sh) (G : PM) (hs : SlR G 1 encY h xs) (hR : RdNP G 0 0 (wa 64 kW)) (hl : xs.length ≤ 1000000000000) : Ct Tryd.prog 59 ([h.val xs.length] : List Value).toArray G [] (fun _ μ' u => μ' = [] ∧ u = .agg (ba 32 (shaD xs)).toArray) := by
  refine Ct.of Tryd.func59 rfl Tryd.ntmps59 rfl fun w0 hs0 => ?_
  refine .seq ?_
  refine Wk.rg [0] rfl rfl ?_
  refine al rfl Fx.zr42 ?_; intro b2
  refine .nil ?_
  refine .code ?_
  refine .seq ?_
  refine Wk.rg [0, 1, 2] rfl rfl ?_
  refine mv rfl .no (.u rfl) ?_
  refine kc rfl Fx.go76 (Eva.cons (.u rfl) Eva.nil) (Ct.rowc (padded_ok xs h _ hs hl)) ?_
  rintro v9 G9 μ9 hG9 ⟨L9, ov9, eL9, rfl⟩
  have hs := hs.mono hG9
  have hR := hR.mono hG9
  refine asg rfl .no (.u rfl) ?_
  refine .nil ?_
  refine .code ?_
  refine .seq ?_
  refine wk_fb .here (by first | (intro b hb; cases hb; done) | simp [keys, Res.keys]) ?_; intro GfR9 hR9 hleR9 evR9 hsR9; subst evR9
  have hs := hs.mono hleR9
  have hR := hR.mono hleR9
  subst eL9
  have lp := pad_len xs
  have lt := tail_len xs.length
  have hz : zeros xs.length = (119 - xs.length % 64) % 64 := rfl
  have lp2 : (padL xs).length = xs.length + (zeros xs.length + 9) := by rw [padL, List.length_append, lt]
  refine Wk.rg [0, 1, 2] rfl rfl ?_
  refine bCe (wa 8 ivW) rfl .no Fx.bp112_0_1_2_3_4_5_6_7 (.cons (.u rfl) rfl (.cons (.u rfl) rfl (.cons (.u rfl) rfl (.cons (.u rfl) rfl (.cons (.u rfl) rfl (.cons (.u rfl) rfl (.cons (.u rfl) rfl (.cons (.u rfl) rfl .nil)))))))) rfl (by rfl) ?_
  refine al rfl Fx.zr112 ?_; intro b4
  refine sw rfl (.u rfl) (.u rfl) rfl Fx.sz112 .here (by first | exact (ba_len _ _).trans (ba_len _ _).symm | exact (wa_len _ _).trans (wa_len _ _).symm | exact ba_len _ _ | exact wa_len _ _ | rfl | (simp only [wa_len, ba_len, List.length_append, List.length_cons, List.length_nil])) (by first | exact ba_one _ _ | exact wa_one _ _ | exact one_V _ | decide | exact one_app (wa_one _ _) (by simp [Value.oneCell'])) ?_
  refine .nil ?_
  refine .code ?_
  refine .seq ?_
  refine .seq ?_
  refine Wk.rg [0] rfl rfl ?_
  refine asg rfl .no (.u rfl) ?_
  refine .nil ?_
  refine .code ?_
  refine .block ?_
  refine Wk.lop (α := Nat) (fun j => [(5, true, .int .i64 ((64 * j : Nat) : Int))]) (fun j => [.blk b4 (cl (wa 8 (shaW (padL xs) j)) 112)])
    (fun j Gl => (64 * j ≤ (padL xs).length)) (fun j => (padL xs).length - 64 * j) 0 [(2, true, _), (3, true, _), (4, true, _)] [_]
    (ESub.cons rfl (by first | rfl | exact evi (by omega)) (ESub.cons rfl rfl (ESub.cons rfl rfl (ESub.cons rfl rfl ESub.nil))))
    (MSub.cons .here rfl (MSub.cons .here rfl MSub.nil)) ?_ ?_
  · (try dsimp only) <;> (first | omega | rfl | assumption | (simp; done))
  intro j N0 Gl0 hN0 hGl0 hF0
  try dsimp only at hF0 hN0 ⊢
  have hj := hF0
  have hs := hs.mono hGl0
  have hR := hR.mono hGl0
  have hsR9 := hsR9.mono hGl0
  refine .seq ?_
  refine .seq ?_
  refine Wk.rg [0, 1, 2, 3] rfl rfl ?_
  refine mv rfl .no (.u rfl) ?_
  refine mv rfl .no (.u rfl) ?_
  refine ln rfl .no Fx.sn27 (.u rfl) ?_
  refine cp rfl .no (.u rfl) (.u rfl) rfl ?_
  refine .nil ?_
  refine .code ?_
  refine .cond rfl (fun c1 => ?_) (fun c1 => ?_)
  · have c1k := c1
    try simp only [decide_eq_true_eq, decide_eq_false_iff_not, Int.not_lt, Int.not_le, gt_iff_lt, ge_iff_le, Bool.or_eq_true, Bool.and_eq_true, Bool.or_eq_false_iff, Bool.not_eq_true', Bool.not_eq_false', Int.toNat_natCast, bne_iff_ne, beq_iff_eq, bne_eq_false_iff_eq, beq_eq_false_iff_ne, ne_eq] at c1
    refine .skip ?_
    refine .code ?_
    refine .seq ?_
    refine .block ?_
    refine Wk.draw (mc := ⟨false, false⟩) [0, 1, 2, 3, 4, 5, 6, 7] Fx.mix (by kernel_rfl) ?_
    refine lA rfl .no Fx.ag112 (.u rfl) (fun _ => RdN.own .here) (fun _ => (by first | exact (ba_len _ _).trans (ba_len _ _).symm | exact (wa_len _ _).trans (wa_len _ _).symm | exact ba_len _ _ | exact wa_len _ _ | rfl | (simp only [wa_len, ba_len, List.length_append, List.length_cons, List.length_nil]))) ?_
    refine mv rfl .no (.u rfl) ?_
    refine mv rfl .no (.u rfl) ?_
    refine mv rfl .no (.u rfl) ?_
    refine arn (((((64 * j : Nat)) + 64) : Nat) : Int) rfl .no (.u rfl) (.u rfl) rfl (fun _ => by omega) (fun _ => wrap_i64 (by omega) (by omega)) ?_
    refine kS (((64 * j : Nat))) ((((64 * j : Nat)) + 64)) rfl .no Fx.se27 hsR9 (.u rfl) (.u rfl) (.u rfl) (fun _ => by omega) (fun _ => by omega) (fun _ => by omega) (fun _ => by omega) ?_
    intro h22 L22 eL22 lL22 hs22
    have lL22 := lL22 rfl
    refine kv rfl .no Fx.go77 (Eva.cons (.u rfl) (Eva.cons (.u rfl) Eva.nil)) (fun _ => rblock_ok (shaW (padL xs) j) L22 h22 _ hs22 hR (by omega)) ?_
    refine sw rfl (.u rfl) (.u rfl) rfl Fx.sz112 .here (by first | exact (ba_len _ _).trans (ba_len _ _).symm | exact (wa_len _ _).trans (wa_len _ _).symm | exact ba_len _ _ | exact wa_len _ _ | rfl | (simp only [wa_len, ba_len, List.length_append, List.length_cons, List.length_nil])) (by first | exact ba_one _ _ | exact wa_one _ _ | exact one_V _ | decide | exact one_app (wa_one _ _) (by simp [Value.oneCell'])) ?_
    refine .nil ?_
    refine .blk ?_
    refine .code ?_
    refine Wk.rg [0, 1, 2] rfl rfl ?_
    refine mv rfl .no (.u rfl) ?_
    refine arn (((((64 * j : Nat)) + 64) : Nat) : Int) rfl .no (.u rfl) (.u rfl) rfl (fun _ => by omega) (fun _ => wrap_i64 (by omega) (by omega)) ?_
    refine asg rfl .no (.u rfl) ?_
    refine .nil ?_
    refine We.lpo (j + 1) ?_ ?_ ?_ ?_ ?_
    · exact (ESub.cons rfl (by first | rfl | exact evi (by omega)) (ESub.cons rfl rfl (ESub.cons rfl rfl (ESub.cons rfl rfl ESub.nil))))
    · exact (MSub.cons .here (blk_step eL22) (MSub.cons .here rfl MSub.nil))
    · first | omega | (dsimp only; omega)
    · exact hGl0
    · (try dsimp only) <;> (first | omega | rfl | assumption | (simp; done))
  · have c1k := c1
    try simp only [decide_eq_true_eq, decide_eq_false_iff_not, Int.not_lt, Int.not_le, gt_iff_lt, ge_iff_le, Bool.or_eq_true, Bool.and_eq_true, Bool.or_eq_false_iff, Bool.not_eq_true', Bool.not_eq_false', Int.toNat_natCast, bne_iff_ne, beq_iff_eq, bne_eq_false_iff_eq, beq_eq_false_iff_ne, ne_eq] at c1
    refine .exit ?_
    refine .xcode ?_
    refine .xlp ?_
    refine .xblk ?_
    refine .code ?_
    refine .seq ?_
    refine Wk.rg [0] rfl rfl ?_
    refine al rfl Fx.zr42 ?_; intro b6
    refine .nil ?_
    refine .code ?_
    refine .seq ?_
    refine .seq ?_
    refine Wk.rg [0] rfl rfl ?_
    refine asg rfl .no (.u rfl) ?_
    refine .nil ?_
    refine .code ?_
    refine .block ?_
    obtain rfl : j = (padL xs).length / 64 := by omega
    refine Wk.lop (α := Nat × (Nat → Y)) (fun gh => [(7, true, .int .i64 (gh.1 : Int))]) (fun gh => [.blk b6 (cl (ba 32 gh.2) 42)])
      (fun gh Gl => (gh.1 ≤ 8) ∧ (gh.2 = outs (shaD xs) (4 * gh.1))) (fun gh => 8 - gh.1) (0, fun _ => 0#8) [(2, true, _), (4, true, _), (6, true, _)] [_, _]
      (ESub.cons rfl (by first | rfl | exact evi (by omega)) (ESub.cons rfl rfl (ESub.cons rfl rfl (ESub.cons rfl rfl ESub.nil))))
      (MSub.cons .here rfl (MSub.cons .here rfl (MSub.cons .here rfl MSub.nil))) ?_ ?_
    · refine ⟨?_, ?_⟩
      · (try dsimp only) <;> (first | omega | rfl | assumption | (simp; done))
      · (try dsimp only) <;> (first | omega | rfl | assumption | (simp; done))
    intro gh N1 Gl1 hN1 hGl1 hF1
    obtain ⟨i, f⟩ := gh; dsimp only at hF1 hN1 ⊢
    obtain ⟨hi, ef⟩ := hF1
    have hs := hs.mono hGl1
    have hR := hR.mono hGl1
    have hsR9 := hsR9.mono hGl1
    refine .seq ?_
    refine .seq ?_
    refine Wk.rg [0, 1] rfl rfl ?_
    refine mv rfl .no (.u rfl) ?_
    refine cp rfl .no (.u rfl) (.u rfl) rfl ?_
    refine .nil ?_
    refine .code ?_
    refine .cond rfl (fun c2 => ?_) (fun c2 => ?_)
    · have c2k := c2
      try simp only [decide_eq_true_eq, decide_eq_false_iff_not, Int.not_lt, Int.not_le, gt_iff_lt, ge_iff_le, Bool.or_eq_true, Bool.and_eq_true, Bool.or_eq_false_iff, Bool.not_eq_true', Bool.not_eq_false', Int.toNat_natCast, bne_iff_ne, beq_iff_eq, bne_eq_false_iff_eq, beq_eq_false_iff_ne, ne_eq] at c2
      refine .skip ?_
      refine .code ?_
      refine .seq ?_
      refine .block ?_
      refine .seq ?_
      refine Wk.rg [0, 1, 2, 3, 4, 5, 6, 7, 8] rfl rfl ?_
      refine mv rfl .no (.u rfl) ?_
      refine arn (((4 * i) : Nat) : Int) rfl .no (.u rfl) (.u rfl) rfl (fun _ => by omega) (fun _ => wrap_i64 (by omega) (by omega)) ?_
      refine mv rfl .no (.u rfl) ?_
      refine iA rfl .no Fx.ar112 (.u rfl) (.u rfl) (fun _ => by omega) (fun _ => by omega) ?_
      refine ld rfl .no Fx.ag69 (.u rfl) (fun _ => Rd.own (.there .here) (by first | exact wa_at1 (i) (by omega) (by omega) | exact ba_at1 (i) (by omega) (by omega) | exact wap_at1 (i) (by omega) (by omega) | rfl)) ?_
      refine rw' (k := .u32) rfl .no (.u rfl) (.u rfl) (fun _ => by decide) ?_
      refine cu (k := .u32) rfl .no rfl Fx.cv69_5 (.u rfl) ?_
      refine iA rfl .no Fx.ar42 (.u rfl) (.u rfl) (fun _ => by omega) (fun _ => by omega) ?_
      refine s1 rfl (.u rfl) (.u rfl) rfl Fx.sz5 .here (by first | decide | (simp only [wa_len, ba_len, List.length_append, List.length_cons, List.length_nil]; omega)) (by first | exact wa_set1 ((4 * i)) (by omega) | exact ba_set1 ((4 * i)) (by omega) | exact wap_set1 ((4 * i)) (by omega) (by omega) | rfl) ?_
      refine .nil ?_
      refine .code ?_
      refine .seq ?_
      refine Wk.rg [0, 1, 2, 3, 4, 5, 6, 7, 8, 9] rfl rfl ?_
      refine mv rfl .no (.u rfl) ?_
      refine arn (((4 * i) : Nat) : Int) rfl .no (.u rfl) (.u rfl) rfl (fun _ => by omega) (fun _ => wrap_i64 (by omega) (by omega)) ?_
      refine arn ((((4 * i) + 1) : Nat) : Int) rfl .no (.u rfl) (.u rfl) rfl (fun _ => by omega) (fun _ => wrap_i64 (by omega) (by omega)) ?_
      refine mv rfl .no (.u rfl) ?_
      refine iA rfl .no Fx.ar112 (.u rfl) (.u rfl) (fun _ => by omega) (fun _ => by omega) ?_
      refine ld rfl .no Fx.ag69 (.u rfl) (fun _ => Rd.own (.there .here) (by first | exact wa_at1 (i) (by omega) (by omega) | exact ba_at1 (i) (by omega) (by omega) | exact wap_at1 (i) (by omega) (by omega) | rfl)) ?_
      refine rw' (k := .u32) rfl .no (.u rfl) (.u rfl) (fun _ => by decide) ?_
      refine cu (k := .u32) rfl .no rfl Fx.cv69_5 (.u rfl) ?_
      refine iA rfl .no Fx.ar42 (.u rfl) (.u rfl) (fun _ => by omega) (fun _ => by omega) ?_
      refine s1 rfl (.u rfl) (.u rfl) rfl Fx.sz5 .here (by first | decide | (simp only [wa_len, ba_len, List.length_append, List.length_cons, List.length_nil]; omega)) (by first | exact wa_set1 (((4 * i) + 1)) (by omega) | exact ba_set1 (((4 * i) + 1)) (by omega) | exact wap_set1 (((4 * i) + 1)) (by omega) (by omega) | rfl) ?_
      refine .nil ?_
      refine .code ?_
      refine .seq ?_
      refine Wk.rg [0, 1, 2, 3, 4, 5, 6, 7, 8, 9] rfl rfl ?_
      refine mv rfl .no (.u rfl) ?_
      refine arn (((4 * i) : Nat) : Int) rfl .no (.u rfl) (.u rfl) rfl (fun _ => by omega) (fun _ => wrap_i64 (by omega) (by omega)) ?_
      refine arn ((((4 * i) + 2) : Nat) : Int) rfl .no (.u rfl) (.u rfl) rfl (fun _ => by omega) (fun _ => wrap_i64 (by omega) (by omega)) ?_
      refine mv rfl .no (.u rfl) ?_
      refine iA rfl .no Fx.ar112 (.u rfl) (.u rfl) (fun _ => by omega) (fun _ => by omega) ?_
      refine ld rfl .no Fx.ag69 (.u rfl) (fun _ => Rd.own (.there .here) (by first | exact wa_at1 (i) (by omega) (by omega) | exact ba_at1 (i) (by omega) (by omega) | exact wap_at1 (i) (by omega) (by omega) | rfl)) ?_
      refine rw' (k := .u32) rfl .no (.u rfl) (.u rfl) (fun _ => by decide) ?_
      refine cu (k := .u32) rfl .no rfl Fx.cv69_5 (.u rfl) ?_
      refine iA rfl .no Fx.ar42 (.u rfl) (.u rfl) (fun _ => by omega) (fun _ => by omega) ?_
      refine s1 rfl (.u rfl) (.u rfl) rfl Fx.sz5 .here (by first | decide | (simp only [wa_len, ba_len, List.length_append, List.length_cons, List.length_nil]; omega)) (by first | exact wa_set1 (((4 * i) + 2)) (by omega) | exact ba_set1 (((4 * i) + 2)) (by omega) | exact wap_set1 (((4 * i) + 2)) (by omega) (by omega) | rfl) ?_
      refine .nil ?_
      refine .code ?_
      refine Wk.rg [0, 1, 2, 3, 4, 5, 6, 7, 8] rfl rfl ?_
      refine mv rfl .no (.u rfl) ?_
      refine arn (((4 * i) : Nat) : Int) rfl .no (.u rfl) (.u rfl) rfl (fun _ => by omega) (fun _ => wrap_i64 (by omega) (by omega)) ?_
      refine arn ((((4 * i) + 3) : Nat) : Int) rfl .no (.u rfl) (.u rfl) rfl (fun _ => by omega) (fun _ => wrap_i64 (by omega) (by omega)) ?_
      refine mv rfl .no (.u rfl) ?_
      refine iA rfl .no Fx.ar112 (.u rfl) (.u rfl) (fun _ => by omega) (fun _ => by omega) ?_
      refine ld rfl .no Fx.ag69 (.u rfl) (fun _ => Rd.own (.there .here) (by first | exact wa_at1 (i) (by omega) (by omega) | exact ba_at1 (i) (by omega) (by omega) | exact wap_at1 (i) (by omega) (by omega) | rfl)) ?_
      refine cu (k := .u32) rfl .no rfl Fx.cv69_5 (.u rfl) ?_
      refine iA rfl .no Fx.ar42 (.u rfl) (.u rfl) (fun _ => by omega) (fun _ => by omega) ?_
      refine s1 rfl (.u rfl) (.u rfl) rfl Fx.sz5 .here (by first | decide | (simp only [wa_len, ba_len, List.length_append, List.length_cons, List.length_nil]; omega)) (by first | exact wa_set1 (((4 * i) + 3)) (by omega) | exact ba_set1 (((4 * i) + 3)) (by omega) | exact wap_set1 (((4 * i) + 3)) (by omega) (by omega) | rfl) ?_
      refine .nil ?_
      refine .blk ?_
      refine .code ?_
      refine Wk.rg [0, 1, 2] rfl rfl ?_
      refine mv rfl .no (.u rfl) ?_
      refine arn (((i + 1) : Nat) : Int) rfl .no (.u rfl) (.u rfl) rfl (fun _ => by omega) (fun _ => wrap_i64 (by omega) (by omega)) ?_
      refine asg rfl .no (.u rfl) ?_
      refine .nil ?_
      refine We.lpo (i + 1, upd (upd (upd (upd f (4 * i) (shaD xs (4 * i))) (4 * i + 1) (shaD xs (4 * i + 1))) (4 * i + 2) (shaD xs (4 * i + 2))) (4 * i + 3) (shaD xs (4 * i + 3))) ?_ ?_ ?_ ?_ ?_
      · exact (ESub.cons rfl (by first | rfl | exact evi (by omega)) (ESub.cons rfl rfl (ESub.cons rfl rfl (ESub.cons rfl rfl ESub.nil))))
      · exact (MSub.cons .here (by rw [shaD0, shaD4 xs i 1 (by decide), shaD4 xs i 2 (by decide), shaD4 xs i 3 (by decide)]; rfl) (MSub.cons .here rfl (MSub.cons .here rfl MSub.nil)))
      · first | omega | (dsimp only; omega)
      · exact hGl1
      · refine ⟨?_, ?_⟩
        · (try dsimp only) <;> (first | omega | rfl | assumption | (simp; done))
        · (try dsimp only) <;> (rw [ef]; rfl)
    · have c2k := c2
      try simp only [decide_eq_true_eq, decide_eq_false_iff_not, Int.not_lt, Int.not_le, gt_iff_lt, ge_iff_le, Bool.or_eq_true, Bool.and_eq_true, Bool.or_eq_false_iff, Bool.not_eq_true', Bool.not_eq_false', Int.toNat_natCast, bne_iff_ne, beq_iff_eq, bne_eq_false_iff_eq, beq_eq_false_iff_ne, ne_eq] at c2
      refine .exit ?_
      refine .xcode ?_
      refine .xlp ?_
      refine .xblk ?_
      refine .code ?_
      refine .seq ?_
      refine Wk.rg [0, 1] rfl rfl ?_
      refine lA rfl .no Fx.ag42 (.u rfl) (fun _ => RdN.own .here) (fun _ => (by first | exact (ba_len _ _).trans (ba_len _ _).symm | exact (wa_len _ _).trans (wa_len _ _).symm | exact ba_len _ _ | exact wa_len _ _ | rfl | (simp only [wa_len, ba_len, List.length_append, List.length_cons, List.length_nil]))) ?_
      refine sw rfl (.u rfl) (.u rfl) rfl Fx.sz42 (.there (.there .here)) (by first | exact (ba_len _ _).trans (ba_len _ _).symm | exact (wa_len _ _).trans (wa_len _ _).symm | exact ba_len _ _ | exact wa_len _ _ | rfl | (simp only [wa_len, ba_len, List.length_append, List.length_cons, List.length_nil])) (by first | exact ba_one _ _ | exact wa_one _ _ | exact one_V _ | decide | exact one_app (wa_one _ _) (by simp [Value.oneCell'])) ?_
      refine .nil ?_
      refine .code ?_
      refine .ret ?_
      refine We.fin0 Tryd.results59 (.cell rfl (fun w hw => run_loadVarN Fx.ag42 (RdN.own .here) ((by first | exact (ba_len _ _).trans (ba_len _ _).symm | exact (wa_len _ _).trans (wa_len _ _).symm | exact ba_len _ _ | exact wa_len _ _ | rfl | (simp only [wa_len, ba_len, List.length_append, List.length_cons, List.length_nil]))) hw) .nil) ?_
      obtain rfl : i = 8 := by omega
      exact ⟨rfl, by rw [ef, ba_congr (fun i hi => (outs_eq (shaD xs) hi).symm)]; rfl⟩

end Go.Proofs.YtoogjfldgeiapaaDoor
