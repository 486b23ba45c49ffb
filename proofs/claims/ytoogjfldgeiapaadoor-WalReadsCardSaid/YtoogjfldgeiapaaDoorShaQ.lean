/- Contracts of functions, walked. -/
import Derived.Test.YtoogjfldgeiapaaDoorShaP
namespace Go.Proofs.YtoogjfldgeiapaaDoor
set_option linter.unusedSimpArgs false
set_option linter.unusedVariables false
open Go.Tan Go.RowKit

namespace Fx
theorem fo114_2 : fOff Tryd.prog 114 2 = some 9 := by kernel_rfl
theorem ag3 : aggN Tryd.prog 3 = some none := by kernel_rfl
theorem sz3 : szT Tryd.prog 3 = some 1 := by kernel_rfl
theorem fo114_1 : fOff Tryd.prog 114 1 = some 8 := by kernel_rfl
theorem ag27 : aggN Tryd.prog 27 = some none := by kernel_rfl
theorem sz27 : szT Tryd.prog 27 = some 1 := by kernel_rfl
theorem go85 : goFn Tryd.prog 85 = true := by kernel_rfl
end Fx
theorem block_row (s : Nat → W) (xs : List Y) (v vp nn : Value) (bs : Nat) (G : PM) (hK : RdNP G 1 0 (wa 64 kW)) (hl : 64 ≤ xs.length) : Ct Tryd.prog 85 ([.pointer (some ⟨bs, 0, none⟩), v] : List Value).toArray G [rB v 5 xs, .blk bs (cl (wa 8 s ++ [vp, nn]) 114)] (fun _ μ' u => ∃ ν, μ' = rB v 5 xs :: ν ∧ ν = [.blk bs (cl (wa 8 (shaC s (fun i => xs.getD i 0)) ++ [vp, nn]) 114)] ∧ u = .tuple #[]) :=
  Ct.lendB (fun h G2 hle hv hs => by subst hv; exact block_ok s xs h vp nn bs G2 hs (hK.mono hle) hl)
theorem st_s8 {y : Nat → W} {a b v : Value} : (wa 8 y ++ [a, b]).set 8 v = wa 8 y ++ [v, b] := wap_s rfl
theorem st_s9 {y : Nat → W} {a b v : Value} : (wa 8 y ++ [a, b]).set 9 v = wa 8 y ++ [a, v] := wap_s rfl
theorem st_eq {zs : List Y} {j m b T : Nat} {vp : Value} (hj : zs.length / 64 = j) (hm : m = zs.length) : Res.blk b (cl (wa 8 (shaW zs j) ++ [vp, .int .i64 (m : Int)]) T) = .blk b (cl (stC zs vp) T) := by
  subst hj; subst hm; rfl
theorem put_step {zs L : List Y} {j b T : Nat} {vq nn : Value} (eL : L = zs.drop (64 * j)) (h : 64 ≤ L.length) : Res.blk b (cl (wa 8 (shaC (shaW zs j) (fun i => L.getD i 0)) ++ [vq, nn]) T) = .blk b (cl (wa 8 (shaW zs (j + 1)) ++ [vq, nn]) T) := by
  rw [shaW, shaC_congr (b' := blkF zs j)]
  intro i hi
  rw [eL, blkF]; simp [List.getD_eq_getElem?_getD, List.getElem?_drop]
theorem put_first {xs ys L : List Y} {b T k : Nat} {vq nn : Value} (eL : L = restL xs ++ ys.take k) (hk : k = min (64 - (restL xs).length) ys.length) (h : 64 ≤ L.length) : Res.blk b (cl (wa 8 (shaC (shaW xs (xs.length / 64)) (fun i => L.getD i 0)) ++ [vq, nn]) T) = .blk b (cl (wa 8 (shaW (xs ++ ys) (xs.length / 64 + 1)) ++ [vq, nn]) T) := by
  have hr := rest_len xs
  rw [eL, List.length_append, List.length_take] at h
  rw [shaW, shaW_app (by omega), shaC_congr (b' := blkF (xs ++ ys) (xs.length / 64))]
  intro i hi
  rw [eL, blkF]
  simp only [List.getD_eq_getElem?_getD, List.getElem?_append, List.getElem?_take, hr]
  by_cases h1 : i < xs.length % 64
  · simp [h1, restL, show 64 * (xs.length / 64) + i < xs.length by omega]
  · rw [if_neg h1, if_pos (by omega), if_neg (by omega)]
    congr 2; omega
theorem put_rest {xs ys L : List Y} (eL : L = restL xs ++ ys.take (min (64 - (restL xs).length) ys.length)) (h : L.length < 64) : L = restL (xs ++ ys) ∧ (xs ++ ys).length / 64 = xs.length / 64 ∧ shaW (xs ++ ys) (xs.length / 64) = shaW xs (xs.length / 64) := by
  have hr := rest_len xs
  rw [eL, List.length_append, List.length_take] at h
  have e : (xs ++ ys).length / 64 = xs.length / 64 := by rw [List.length_append]; omega
  refine ⟨?_, e, shaW_app (by omega)⟩
  have h5 : min (64 - (restL xs).length) ys.length = ys.length := by omega
  rw [eL, h5, List.take_length, restL, restL, e, List.drop_append_of_le_length (by omega)]
theorem put_drop {xs ys : List Y} (h : 64 ≤ (restL xs).length + ys.length) : ys.drop (min (64 - (restL xs).length) ys.length) = (xs ++ ys).drop (64 * (xs.length / 64 + 1)) := by
  have hr := rest_len xs
  rw [List.drop_append, List.drop_of_length_le (show xs.length ≤ 64 * (xs.length / 64 + 1) by omega), List.nil_append]
  congr 1; omega
theorem put_drop0 {xs ys : List Y} (h : (restL xs).length = 0) : ys = (xs ++ ys).drop (64 * (xs.length / 64)) := by
  have hr := rest_len xs
  rw [show 64 * (xs.length / 64) = xs.length by omega, List.drop_left]
theorem put_zero {xs ys : List Y} {b T : Nat} {vq nn : Value} (h : (restL xs).length = 0) : Res.blk b (cl (wa 8 (shaW xs (xs.length / 64)) ++ [vq, nn]) T) = .blk b (cl (wa 8 (shaW (xs ++ ys) (xs.length / 64)) ++ [vq, nn]) T) := by
  rw [shaW_app (by omega)]
theorem put_ok (xs ys : List Y) (h : Sh) (vp : Value) (bs : Nat) (G : PM) (hs : SlR G 1 encY h ys) (hK : RdNP G 1 0 (wa 64 kW)) (hl : xs.length + ys.length ≤ 4611686018427387904) : Ct Tryd.prog 73 ([.pointer (some ⟨bs, 0, none⟩), h.val ys.length] : List Value).toArray G [.blk bs (cl (stC xs vp) 114), rB vp 5 (restL xs)] (fun _ μ' u => ∃ vp', μ' = [.blk bs (cl (stC (xs ++ ys) vp') 114), rB vp' 5 (restL (xs ++ ys))] ∧ u = .tuple #[]) := by
  refine Ct.of Tryd.func73 rfl Tryd.ntmps73 rfl fun w0 hs0 => ?_
  have hr := rest_len xs
  refine .seq ?_
  refine Wk.rg [0, 1, 2, 3, 4, 5, 6, 7, 8, 9] rfl rfl ?_
  refine mv rfl .no (.u rfl) ?_
  refine nc rfl .no (.u rfl) ?_
  refine fz rfl .no Fx.fo114_2 (.u rfl) ?_
  refine ld rfl .no Fx.ag3 (.u rfl) (fun _ => Rd.own .here (by first | exact wap_f rfl | rfl)) ?_
  refine mv rfl .no (.u rfl) ?_
  refine ln rfl .no Fx.sn27 (.u rfl) ?_
  refine arn (((xs.length + ys.length) : Nat) : Int) rfl .no (.u rfl) (.u rfl) rfl (fun _ => by omega) (fun _ => wrap_i64 (by omega) (by omega)) ?_
  refine nc rfl .no (.u rfl) ?_
  refine fz rfl .no Fx.fo114_2 (.u rfl) ?_
  refine s1 rfl (.u rfl) (.u rfl) rfl Fx.sz3 .here (by first | decide | (simp only [stC, wa_len, ba_len, List.length_append, List.length_cons, List.length_nil]; omega)) (by first | exact st_s8 | exact st_s9) ?_
  refine .nil ?_
  refine .code ?_
  refine .seq ?_
  refine .seq ?_
  refine Wk.rg [0, 1, 2, 3, 4, 5] rfl rfl ?_
  refine mv rfl .no (.u rfl) ?_
  refine nc rfl .no (.u rfl) ?_
  refine fz rfl .no Fx.fo114_1 (.u rfl) ?_
  refine ld rfl .no Fx.ag27 (.u rfl) (fun _ => Rd.own .here (by first | exact wap_f rfl | rfl)) ?_
  refine lr rfl .no Fx.sn27 (.u rfl) (.there .here) ?_
  refine cp rfl .no (.u rfl) (.u rfl) rfl ?_
  refine .nil ?_
  refine .code ?_
  refine .cond rfl (fun c1 => ?_) (fun c1 => ?_)
  · have c1k := c1
    try simp only [decide_eq_true_eq, decide_eq_false_iff_not, Int.not_lt, Int.not_le, gt_iff_lt, ge_iff_le, Bool.or_eq_true, Bool.and_eq_true, Bool.or_eq_false_iff, Bool.not_eq_true', Bool.not_eq_false', Int.toNat_natCast, bne_iff_ne, beq_iff_eq, bne_eq_false_iff_eq, beq_eq_false_iff_ne, ne_eq] at c1
    refine .seq ?_
    refine Wk.rg [0, 1, 2, 3, 4, 5, 6, 7, 8, 9] rfl rfl ?_
    refine mv rfl .no (.u rfl) ?_
    refine nc rfl .no (.u rfl) ?_
    refine fz rfl .no Fx.fo114_1 (.u rfl) ?_
    refine ld rfl .no Fx.ag27 (.u rfl) (fun _ => Rd.own .here (by first | exact wap_f rfl | rfl)) ?_
    refine lr rfl .no Fx.sn27 (.u rfl) (.there .here) ?_
    refine arn (((64 - (restL xs).length) : Nat) : Int) rfl .no (.u rfl) (.u rfl) rfl (fun _ => by omega) (fun _ => wrap_i64 (by omega) (by omega)) ?_
    refine mv rfl .no (.u rfl) ?_
    refine ln rfl .no Fx.sn27 (.u rfl) ?_
    refine mIn ((64 - (restL xs).length)) (ys.length) rfl .no (.u rfl) (.u rfl) (fun _ => by omega) (fun _ => by omega) ?_
    refine asg rfl .no (.u rfl) ?_
    refine .nil ?_
    refine .code ?_
    refine .seq ?_
    refine Wk.draw (mc := ⟨false, false⟩) [0, 1, 2, 3, 4, 5, 6, 7, 8, 9, 10, 11] Fx.mix (by kernel_rfl) ?_
    refine mv rfl .no (.u rfl) ?_
    refine mv rfl .no (.u rfl) ?_
    refine nc rfl .no (.u rfl) ?_
    refine fz rfl .no Fx.fo114_1 (.u rfl) ?_
    refine ld rfl .no Fx.ag27 (.u rfl) (fun _ => Rd.own .here (by first | exact wap_f rfl | rfl)) ?_
    refine mv rfl .no (.u rfl) ?_
    refine mv rfl .no (.u rfl) ?_
    refine kE ((min (64 - (restL xs).length) ys.length)) rfl .no Fx.se27 hs (.u rfl) (.u rfl) (fun _ => by omega) (fun _ => by omega) ?_
    intro h36 L36 eL36 lL36 hs36
    have lL36 := lL36 rfl
    refine apY rfl Fx.se27 Fx.zv5 (.u rfl) (.u rfl) (.there .here) hs36.sc (by (try simp only [List.length_append, List.length_cons, List.length_nil, yl_len]); omega) ?_
    intro v37 L37 ov37 eL37
    have lL37 : L37.length = (restL xs).length + L36.length := by rw [eL37, List.length_append]
    refine nc rfl .no (.u rfl) ?_
    refine fz rfl .no Fx.fo114_1 (.u rfl) ?_
    refine s1v rfl (.u rfl) (.u rfl) .here Fx.sz27 (.there .here) (by first | decide | (simp only [stC, wa_len, ba_len, List.length_append, List.length_cons, List.length_nil]; omega)) (by first | exact st_s8 | exact st_s9) ?_
    refine .nil ?_
    refine .code ?_
    refine .seq ?_
    refine Wk.rg [0, 1, 2, 3] rfl rfl ?_
    refine mv rfl .no (.u rfl) ?_
    refine mv rfl .no (.u rfl) ?_
    refine kD ((min (64 - (restL xs).length) ys.length)) rfl .no Fx.se27 hs (.u rfl) (.u rfl) (fun _ => by omega) (fun _ => by omega) ?_
    intro h42 L42 eL42 lL42 hs42
    have lL42 := lL42 rfl
    refine asg rfl .no (.u rfl) ?_
    refine .nil ?_
    refine .code ?_
    refine .seq ?_
    refine .seq ?_
    refine Wk.rg [0, 1, 2, 3, 4, 5] rfl rfl ?_
    refine mv rfl .no (.u rfl) ?_
    refine nc rfl .no (.u rfl) ?_
    refine fz rfl .no Fx.fo114_1 (.u rfl) ?_
    refine ld rfl .no Fx.ag27 (.u rfl) (fun _ => Rd.own .here (by first | exact wap_f rfl | rfl)) ?_
    refine lr rfl .no Fx.sn27 (.u rfl) (.there .here) ?_
    refine cp rfl .no (.u rfl) (.u rfl) rfl ?_
    refine .nil ?_
    refine .code ?_
    refine .cond rfl (fun c2 => ?_) (fun c2 => ?_)
    · have c2k := c2
      try simp only [decide_eq_true_eq, decide_eq_false_iff_not, Int.not_lt, Int.not_le, gt_iff_lt, ge_iff_le, Bool.or_eq_true, Bool.and_eq_true, Bool.or_eq_false_iff, Bool.not_eq_true', Bool.not_eq_false', Int.toNat_natCast, bne_iff_ne, beq_iff_eq, bne_eq_false_iff_eq, beq_eq_false_iff_ne, ne_eq] at c2
      refine .ret ?_
      refine We.fin Tryd.results73 .nil (MSub.cons .here rfl (MSub.cons .here rfl MSub.nil)) ?_
      obtain ⟨e1, e2, e3⟩ := put_rest (eL37.trans (by rw [eL36])) (by omega)
      exact ⟨v37, by rw [← e1, ← e3, st_eq e2 (by simp)], rfl⟩
    · have c2k := c2
      try simp only [decide_eq_true_eq, decide_eq_false_iff_not, Int.not_lt, Int.not_le, gt_iff_lt, ge_iff_le, Bool.or_eq_true, Bool.and_eq_true, Bool.or_eq_false_iff, Bool.not_eq_true', Bool.not_eq_false', Int.toNat_natCast, bne_iff_ne, beq_iff_eq, bne_eq_false_iff_eq, beq_eq_false_iff_ne, ne_eq] at c2
      refine .skip ?_
      refine .code ?_
      refine .seq ?_
      refine Wk.rg [0, 1, 2, 3, 4, 5] rfl rfl ?_
      refine mv rfl .no (.u rfl) ?_
      refine mv rfl .no (.u rfl) ?_
      refine nc rfl .no (.u rfl) ?_
      refine fz rfl .no Fx.fo114_1 (.u rfl) ?_
      refine ld rfl .no Fx.ag27 (.u rfl) (fun _ => Rd.own .here (by first | exact wap_f rfl | rfl)) ?_
      refine ka rfl (.inr rfl) Fx.go85 (Eva.cons (.u rfl) (Eva.cons (.u rfl) Eva.nil)) (mtk2 (.there .here) .here) (block_row _ L37 _ _ _ _ _ hK (by omega)) ?_
      rintro _ G54 μ54 hG54 ⟨_, rfl, rfl, rfl⟩
      have hs := hs.mono hG54
      have hK := hK.mono hG54
      have hs36 := hs36.mono hG54
      have hs42 := hs42.mono hG54
      refine .nil ?_
      refine .code ?_
      refine Wk.rg [0, 1, 2, 3] rfl rfl ?_
      refine mv rfl .no (.u rfl) ?_
      refine nc rfl .no (.u rfl) ?_
      refine fz rfl .no Fx.fo114_1 (.u rfl) ?_
      refine s1 rfl (.u rfl) (.u rfl) rfl Fx.sz27 (.there .here) (by first | decide | (simp only [stC, wa_len, ba_len, List.length_append, List.length_cons, List.length_nil]; omega)) (by first | exact st_s8 | exact st_s9) ?_
      refine .nil ?_
      refine we_nilB 5 ?_
      refine .code ?_
      refine .seq ?_
      refine .block ?_
      refine Wk.lop (α := Nat × Sh × List Y × Value) (fun gh => [(1, true, gh.2.1.val gh.2.2.1.length)]) (fun gh => [.blk bs (cl (wa 8 (shaW (xs ++ ys) gh.1) ++ [gh.2.2.2, .int .i64 ((xs.length + ys.length : Nat) : Int)]) 114)])
        (fun gh Gl => (64 * gh.1 ≤ xs.length + ys.length) ∧ (gh.2.2.1 = (xs ++ ys).drop (64 * gh.1)) ∧ (SlR Gl 1 encY gh.2.1 gh.2.2.1)) (fun gh => gh.2.2.1.length) (xs.length / 64 + 1, _, _, _) [(0, true, _)] [_]
        (ESub.cons rfl rfl (ESub.cons rfl rfl ESub.nil))
        (MSub.cons (.there .here) (put_first (eL37.trans (by rw [eL36])) rfl (by omega)) (MSub.cons .here rfl MSub.nil)) ?_ ?_
      · refine ⟨?_, ?_, ?_⟩
        · (try dsimp only) <;> (omega)
        · (try dsimp only) <;> (rw [eL42]; exact put_drop (by omega))
        · (try dsimp only) <;> (exact hs42)
      intro gh N0 Gl0 hN0 hGl0 hF0
      obtain ⟨j, h', L, vq⟩ := gh; dsimp only at hF0 hN0 ⊢
      obtain ⟨hj, eL, hL⟩ := hF0
      have hs := hs.mono hGl0
      have hK := hK.mono hGl0
      have hs36 := hs36.mono hGl0
      have hs42 := hs42.mono hGl0
      have lL : L.length = xs.length + ys.length - 64 * j := by rw [eL]; simp
      refine .seq ?_
      refine .seq ?_
      refine Wk.rg [0, 1, 2] rfl rfl ?_
      refine mv rfl .no (.u rfl) ?_
      refine ln rfl .no Fx.sn27 (.u rfl) ?_
      refine cp rfl .no (.u rfl) (.u rfl) rfl ?_
      refine .nil ?_
      refine .code ?_
      refine .cond rfl (fun c3 => ?_) (fun c3 => ?_)
      · have c3k := c3
        try simp only [decide_eq_true_eq, decide_eq_false_iff_not, Int.not_lt, Int.not_le, gt_iff_lt, ge_iff_le, Bool.or_eq_true, Bool.and_eq_true, Bool.or_eq_false_iff, Bool.not_eq_true', Bool.not_eq_false', Int.toNat_natCast, bne_iff_ne, beq_iff_eq, bne_eq_false_iff_eq, beq_eq_false_iff_ne, ne_eq] at c3
        refine .skip ?_
        refine .code ?_
        refine .seq ?_
        refine .block ?_
        refine Wk.rg [0, 1, 2] rfl rfl ?_
        refine mv rfl .no (.u rfl) ?_
        refine mv rfl .no (.u rfl) ?_
        refine ka rfl (.inr rfl) Fx.go85 (Eva.cons (.u rfl) (Eva.cons (.u rfl) Eva.nil)) (mtk1 .here) (block_ok _ L h' _ _ _ _ hL hK (by omega)) ?_
        rintro _ G65 μ65 hG65 ⟨rfl, rfl⟩
        have hs := hs.mono hG65
        have hK := hK.mono hG65
        have hs36 := hs36.mono hG65
        have hs42 := hs42.mono hG65
        have hL := hL.mono hG65
        refine .nil ?_
        refine .blk ?_
        refine .code ?_
        refine Wk.rg [0, 1, 2] rfl rfl ?_
        refine mv rfl .no (.u rfl) ?_
        refine kD (64) rfl .no Fx.se27 hL (.u rfl) (.u rfl) (fun _ => by omega) (fun _ => by omega) ?_
        intro h62 L62 eL62 lL62 hs62
        have lL62 := lL62 rfl
        refine asg rfl .no (.u rfl) ?_
        refine .nil ?_
        refine We.lpo (j + 1, h62, L62, vq) ?_ ?_ ?_ ?_ ?_
        · exact (ESub.cons rfl rfl (ESub.cons rfl rfl ESub.nil))
        · exact (MSub.cons .here (put_step eL (by omega)) (MSub.cons .here rfl MSub.nil))
        · first | omega | (dsimp only; omega)
        · exact (hGl0).trans hG65
        · refine ⟨?_, ?_, ?_⟩
          · (try dsimp only) <;> (omega)
          · (try dsimp only) <;> (rw [eL62, eL, List.drop_drop]; congr 1)
          · (try dsimp only) <;> (exact hs62)
      · have c3k := c3
        try simp only [decide_eq_true_eq, decide_eq_false_iff_not, Int.not_lt, Int.not_le, gt_iff_lt, ge_iff_le, Bool.or_eq_true, Bool.and_eq_true, Bool.or_eq_false_iff, Bool.not_eq_true', Bool.not_eq_false', Int.toNat_natCast, bne_iff_ne, beq_iff_eq, bne_eq_false_iff_eq, beq_eq_false_iff_ne, ne_eq] at c3
        refine .exit ?_
        refine .xcode ?_
        refine .xlp ?_
        refine .xblk ?_
        refine .code ?_
        refine Wk.rg [0, 1, 2, 3, 4, 5, 6] rfl rfl ?_
        refine mv rfl .no (.u rfl) ?_
        refine b0B rfl Fx.se27 ?_; intro b67
        refine mv rfl .no (.u rfl) ?_
        refine apY0 rfl Fx.se27 Fx.zv5 (.u rfl) (.u rfl) .here hL.sc (by (try simp only [List.length_append, List.length_cons, List.length_nil, yl_len]); omega) ?_
        intro v69 L69 _ ov69 eL69
        have lL69 : L69.length = L.length := by rw [eL69]
        refine nc rfl .no (.u rfl) ?_
        refine fz rfl .no Fx.fo114_1 (.u rfl) ?_
        refine s1v rfl (.u rfl) (.u rfl) .here Fx.sz27 (.there .here) (by first | decide | (simp only [stC, wa_len, ba_len, List.length_append, List.length_cons, List.length_nil]; omega)) (by first | exact st_s8 | exact st_s9) ?_
        refine .nil ?_
        refine .nil ?_
        refine We.fin Tryd.results73 .nil (MSub.cons .here rfl (MSub.cons .here rfl MSub.nil)) ?_
        have ej : (xs ++ ys).length / 64 = j := by rw [List.length_append]; omega
        exact ⟨v69, by rw [st_eq ej (by simp), eL69, eL, restL, ej], rfl⟩
  · have c1k := c1
    try simp only [decide_eq_true_eq, decide_eq_false_iff_not, Int.not_lt, Int.not_le, gt_iff_lt, ge_iff_le, Bool.or_eq_true, Bool.and_eq_true, Bool.or_eq_false_iff, Bool.not_eq_true', Bool.not_eq_false', Int.toNat_natCast, bne_iff_ne, beq_iff_eq, bne_eq_false_iff_eq, beq_eq_false_iff_ne, ne_eq] at c1
    refine .skip ?_
    refine .code ?_
    refine .seq ?_
    refine .block ?_
    refine Wk.lop (α := Nat × Sh × List Y × Value) (fun gh => [(1, true, gh.2.1.val gh.2.2.1.length)]) (fun gh => [.blk bs (cl (wa 8 (shaW (xs ++ ys) gh.1) ++ [gh.2.2.2, .int .i64 ((xs.length + ys.length : Nat) : Int)]) 114)])
      (fun gh Gl => (64 * gh.1 ≤ xs.length + ys.length) ∧ (gh.2.2.1 = (xs ++ ys).drop (64 * gh.1)) ∧ (SlR Gl 1 encY gh.2.1 gh.2.2.1)) (fun gh => gh.2.2.1.length) (xs.length / 64, _, _, _) [(0, true, _)] [_]
      (ESub.cons rfl rfl (ESub.cons rfl rfl ESub.nil))
      (MSub.cons .here (put_zero (by omega)) (MSub.cons .here rfl MSub.nil)) ?_ ?_
    · refine ⟨?_, ?_, ?_⟩
      · (try dsimp only) <;> (omega)
      · (try dsimp only) <;> (exact put_drop0 (by omega))
      · (try dsimp only) <;> (exact hs)
    intro gh N1 Gl1 hN1 hGl1 hF1
    obtain ⟨j, h', L, vq⟩ := gh; dsimp only at hF1 hN1 ⊢
    obtain ⟨hj, eL, hL⟩ := hF1
    have hs := hs.mono hGl1
    have hK := hK.mono hGl1
    have lL : L.length = xs.length + ys.length - 64 * j := by rw [eL]; simp
    refine .seq ?_
    refine .seq ?_
    refine Wk.rg [0, 1, 2] rfl rfl ?_
    refine mv rfl .no (.u rfl) ?_
    refine ln rfl .no Fx.sn27 (.u rfl) ?_
    refine cp rfl .no (.u rfl) (.u rfl) rfl ?_
    refine .nil ?_
    refine .code ?_
    refine .cond rfl (fun c4 => ?_) (fun c4 => ?_)
    · have c4k := c4
      try simp only [decide_eq_true_eq, decide_eq_false_iff_not, Int.not_lt, Int.not_le, gt_iff_lt, ge_iff_le, Bool.or_eq_true, Bool.and_eq_true, Bool.or_eq_false_iff, Bool.not_eq_true', Bool.not_eq_false', Int.toNat_natCast, bne_iff_ne, beq_iff_eq, bne_eq_false_iff_eq, beq_eq_false_iff_ne, ne_eq] at c4
      refine .skip ?_
      refine .code ?_
      refine .seq ?_
      refine .block ?_
      refine Wk.rg [0, 1, 2] rfl rfl ?_
      refine mv rfl .no (.u rfl) ?_
      refine mv rfl .no (.u rfl) ?_
      refine ka rfl (.inr rfl) Fx.go85 (Eva.cons (.u rfl) (Eva.cons (.u rfl) Eva.nil)) (mtk1 .here) (block_ok _ L h' _ _ _ _ hL hK (by omega)) ?_
      rintro _ G65 μ65 hG65 ⟨rfl, rfl⟩
      have hs := hs.mono hG65
      have hK := hK.mono hG65
      have hL := hL.mono hG65
      refine .nil ?_
      refine .blk ?_
      refine .code ?_
      refine Wk.rg [0, 1, 2] rfl rfl ?_
      refine mv rfl .no (.u rfl) ?_
      refine kD (64) rfl .no Fx.se27 hL (.u rfl) (.u rfl) (fun _ => by omega) (fun _ => by omega) ?_
      intro h62 L62 eL62 lL62 hs62
      have lL62 := lL62 rfl
      refine asg rfl .no (.u rfl) ?_
      refine .nil ?_
      refine We.lpo (j + 1, h62, L62, vq) ?_ ?_ ?_ ?_ ?_
      · exact (ESub.cons rfl rfl (ESub.cons rfl rfl ESub.nil))
      · exact (MSub.cons .here (put_step eL (by omega)) (MSub.cons .here rfl MSub.nil))
      · first | omega | (dsimp only; omega)
      · exact (hGl1).trans hG65
      · refine ⟨?_, ?_, ?_⟩
        · (try dsimp only) <;> (omega)
        · (try dsimp only) <;> (rw [eL62, eL, List.drop_drop]; congr 1)
        · (try dsimp only) <;> (exact hs62)
    · have c4k := c4
      try simp only [decide_eq_true_eq, decide_eq_false_iff_not, Int.not_lt, Int.not_le, gt_iff_lt, ge_iff_le, Bool.or_eq_true, Bool.and_eq_true, Bool.or_eq_false_iff, Bool.not_eq_true', Bool.not_eq_false', Int.toNat_natCast, bne_iff_ne, beq_iff_eq, bne_eq_false_iff_eq, beq_eq_false_iff_ne, ne_eq] at c4
      refine .exit ?_
      refine .xcode ?_
      refine .xlp ?_
      refine .xblk ?_
      refine .code ?_
      refine Wk.rg [0, 1, 2, 3, 4, 5, 6] rfl rfl ?_
      refine mv rfl .no (.u rfl) ?_
      refine b0B rfl Fx.se27 ?_; intro b67
      refine mv rfl .no (.u rfl) ?_
      refine apY0 rfl Fx.se27 Fx.zv5 (.u rfl) (.u rfl) .here hL.sc (by (try simp only [List.length_append, List.length_cons, List.length_nil, yl_len]); omega) ?_
      intro v69 L69 _ ov69 eL69
      have lL69 : L69.length = L.length := by rw [eL69]
      refine nc rfl .no (.u rfl) ?_
      refine fz rfl .no Fx.fo114_1 (.u rfl) ?_
      refine s1v rfl (.u rfl) (.u rfl) .here Fx.sz27 (.there .here) (by first | decide | (simp only [stC, wa_len, ba_len, List.length_append, List.length_cons, List.length_nil]; omega)) (by first | exact st_s8 | exact st_s9) ?_
      refine .nil ?_
      refine .nil ?_
      refine We.fin Tryd.results73 .nil (MSub.cons .here rfl (MSub.cons .here rfl MSub.nil)) ?_
      have ej : (xs ++ ys).length / 64 = j := by rw [List.length_append]; omega
      exact ⟨v69, by rw [st_eq ej (by simp), eL69, eL, restL, ej], rfl⟩

end Go.Proofs.YtoogjfldgeiapaaDoor
