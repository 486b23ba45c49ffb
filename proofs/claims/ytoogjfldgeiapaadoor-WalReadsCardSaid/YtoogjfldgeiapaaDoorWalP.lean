/- Contracts of functions, walked. -/
import Derived.Test.YtoogjfldgeiapaaDoorRefR
import Derived.Test.YtoogjfldgeiapaaDoorWalA
namespace Go.Proofs.YtoogjfldgeiapaaDoor
set_option linter.unusedSimpArgs false
set_option linter.unusedVariables false
open Go.Tan Go.RowKit

namespace Fx
theorem go89 : goFn Tryd.prog 89 = true := by kernel_rfl
theorem go81 : goFn Tryd.prog 81 = true := by kernel_rfl
theorem go83 : goFn Tryd.prog 83 = true := by kernel_rfl
theorem go62 : goFn Tryd.prog 62 = true := by kernel_rfl
theorem go61 : goFn Tryd.prog 61 = true := by kernel_rfl
theorem cv69_43 : cvK Tryd.prog 69 43 = some .u64 := by kernel_rfl
end Fx
theorem nibble_ok (x : W) (G : PM) : Ct Tryd.prog 89 ([U x] : List Value).toArray G [] (fun _ μ' u => μ' = [] ∧ u = U (hIt 4 x)) := by
  refine Ct.of Tryd.func89 rfl Tryd.ntmps89 rfl fun w0 hs0 => ?_
  refine .seq ?_
  refine Wk.rg [0] rfl rfl ?_
  refine asg rfl .no (.u rfl) ?_
  refine .nil ?_
  refine .code ?_
  refine .seq ?_
  refine .seq ?_
  refine Wk.rg [0] rfl rfl ?_
  refine mv rfl .no (.u rfl) ?_
  refine .nil ?_
  refine .code ?_
  refine .block ?_
  refine Wk.lop (α := Nat × W) (fun gh => [(0, true, U gh.2), (3, true, .int .i64 (gh.1 : Int))]) (fun _ => [])
    (fun gh Gl => (gh.1 ≤ 4) ∧ (gh.2 = hIt gh.1 x)) (fun gh => 4 - gh.1) (0, x) [] []
    (ESub.cons rfl rfl (ESub.cons rfl (by first | rfl | exact evi (by omega)) ESub.nil))
    MSub.nil ?_ ?_
  · refine ⟨?_, ?_⟩
    · (try dsimp only) <;> (first | omega | rfl | assumption | (simp; done))
    · (try dsimp only) <;> (first | omega | rfl | assumption | (simp; done))
  intro gh N0 Gl0 hN0 hGl0 hF0
  obtain ⟨k, y⟩ := gh; dsimp only at hF0 hN0 ⊢
  obtain ⟨hk, ey⟩ := hF0
  refine .seq ?_
  refine Wk.rg [0] rfl rfl ?_
  refine cp rfl .no (.u rfl) (.u rfl) rfl ?_
  refine .nil ?_
  refine .code ?_
  refine .seq ?_
  refine .cond rfl (fun c1 => ?_) (fun c1 => ?_)
  · have c1k := c1
    try simp only [decide_eq_true_eq, decide_eq_false_iff_not, Int.not_lt, Int.not_le, gt_iff_lt, ge_iff_le, Bool.or_eq_true, Bool.and_eq_true, Bool.or_eq_false_iff, Bool.not_eq_true', Bool.not_eq_false', Int.toNat_natCast, bne_iff_ne, beq_iff_eq, bne_eq_false_iff_eq, beq_eq_false_iff_ne, ne_eq] at c1
    refine .skip ?_
    refine .code ?_
    refine .seq ?_
    refine .block ?_
    refine Wk.rg [0, 1, 2, 3, 4, 5, 6, 7] rfl rfl ?_
    refine mv rfl .no (.u rfl) ?_
    refine rw' (k := .u32) rfl .no (.u rfl) (.u rfl) (fun _ => by decide) ?_
    refine mv rfl .no (.u rfl) ?_
    refine bw (k := .u32) (b := 1#32) rfl .no rfl (.u rfl) (.u rfl) rfl ?_
    refine nw (k := .u32) rfl .no rfl (.u rfl) ?_
    refine bw (k := .u32) (a := 2197175160#32) rfl .no rfl (.u rfl) (.u rfl) rfl ?_
    refine bw (k := .u32) rfl .no rfl (.u rfl) (.u rfl) rfl ?_
    refine asg rfl .no (.u rfl) ?_
    refine .nil ?_
    refine .blk ?_
    refine .code ?_
    refine Wk.rg [0, 1] rfl rfl ?_
    refine arn (((k + 1) : Nat) : Int) rfl .no (.u rfl) (.u rfl) rfl (fun _ => by omega) (fun _ => wrap_i64 (by omega) (by omega)) ?_
    refine mv rfl .no (.u rfl) ?_
    refine .nil ?_
    refine We.lpo (k + 1, halfW y) ?_ ?_ ?_ ?_ ?_
    · exact (ESub.cons rfl rfl (ESub.cons rfl (by first | rfl | exact evi (by omega)) ESub.nil))
    · exact MSub.nil
    · first | omega | (dsimp only; omega)
    · exact hGl0
    · refine ⟨?_, ?_⟩
      · (try dsimp only) <;> (first | omega | rfl | assumption | (simp; done))
      · (try dsimp only) <;> (rw [ey]; rfl)
  · have c1k := c1
    try simp only [decide_eq_true_eq, decide_eq_false_iff_not, Int.not_lt, Int.not_le, gt_iff_lt, ge_iff_le, Bool.or_eq_true, Bool.and_eq_true, Bool.or_eq_false_iff, Bool.not_eq_true', Bool.not_eq_false', Int.toNat_natCast, bne_iff_ne, beq_iff_eq, bne_eq_false_iff_eq, beq_eq_false_iff_ne, ne_eq] at c1
    refine .exit ?_
    refine .xcode ?_
    refine .xlp ?_
    refine .xblk ?_
    refine .code ?_
    refine .seq ?_
    refine Wk.rg [0, 1] rfl rfl ?_
    refine mv rfl .no (.u rfl) ?_
    refine asg rfl .no (.u rfl) ?_
    refine .nil ?_
    refine .code ?_
    refine .ret ?_
    refine We.fin0 Tryd.results89 (.tmp rfl .nil) ?_
    obtain rfl : k = 4 := by omega
    exact ⟨rfl, by rw [ey]; rfl⟩

theorem crcMore_ok (sum : W) (xs : List Y) (h : Sh) (G : PM) (hs : SlR G 1 encY h xs) (hl : xs.length ≤ 9000000000000000000) : Ct Tryd.prog 81 ([U sum, h.val xs.length] : List Value).toArray G [] (fun _ μ' u => μ' = [] ∧ u = U (crcW sum xs)) := by
  refine Ct.of Tryd.func81 rfl Tryd.ntmps81 rfl fun w0 hs0 => ?_
  refine .seq ?_
  refine Wk.rg [0] rfl rfl ?_
  refine asg rfl .no (.u rfl) ?_
  refine .nil ?_
  refine .code ?_
  refine .seq ?_
  refine Wk.rg [0, 1, 2] rfl rfl ?_
  refine mv rfl .no (.u rfl) ?_
  refine xw (k := .u32) rfl .no rfl (.u rfl) ?_
  refine asg rfl .no (.u rfl) ?_
  refine .nil ?_
  refine .code ?_
  refine .seq ?_
  refine .seq ?_
  refine Wk.rg [0, 1, 2] rfl rfl ?_
  refine mv rfl .no (.u rfl) ?_
  refine ln rfl .no Fx.sn27 (.u rfl) ?_
  refine mv rfl .no (.u rfl) ?_
  refine .nil ?_
  refine .code ?_
  refine .block ?_
  refine Wk.lop (α := Nat × W) (fun gh => [(5, true, U gh.2), (12, true, .int .i64 (gh.1 : Int))]) (fun _ => [])
    (fun gh Gl => (gh.1 ≤ xs.length) ∧ (gh.2 = (xs.take gh.1).foldl crcB (~~~sum))) (fun gh => xs.length - gh.1) (0, ~~~sum) [(10, true, _), (11, true, _)] []
    (ESub.cons rfl rfl (ESub.cons rfl (by first | rfl | exact evi (by omega)) (ESub.cons rfl rfl (ESub.cons rfl rfl ESub.nil))))
    MSub.nil ?_ ?_
  · refine ⟨?_, ?_⟩
    · (try dsimp only) <;> (first | omega | rfl | assumption | (simp; done))
    · (try dsimp only) <;> (first | omega | rfl | assumption | (simp; done))
  intro gh N0 Gl0 hN0 hGl0 hF0
  obtain ⟨k, x⟩ := gh; dsimp only at hF0 hN0 ⊢
  obtain ⟨hk, ex⟩ := hF0
  have hs := hs.mono hGl0
  refine .seq ?_
  refine Wk.rg [0] rfl rfl ?_
  refine cp rfl .no (.u rfl) (.u rfl) rfl ?_
  refine .nil ?_
  refine .code ?_
  refine .seq ?_
  refine .cond rfl (fun c1 => ?_) (fun c1 => ?_)
  · have c1k := c1
    try simp only [decide_eq_true_eq, decide_eq_false_iff_not, Int.not_lt, Int.not_le, gt_iff_lt, ge_iff_le, Bool.or_eq_true, Bool.and_eq_true, Bool.or_eq_false_iff, Bool.not_eq_true', Bool.not_eq_false', Int.toNat_natCast, bne_iff_ne, beq_iff_eq, bne_eq_false_iff_eq, beq_eq_false_iff_ne, ne_eq] at c1
    refine .skip ?_
    refine .code ?_
    refine .seq ?_
    refine .block ?_
    refine .seq ?_
    refine Wk.rg [0, 1, 2] rfl rfl ?_
    refine ih rfl .no Fx.se27 (.u rfl) (.u rfl) (fun _ => by omega) (fun _ => by omega) (fun _ => hs.nn (k := k) (by omega)) ?_
    refine ld rfl .no Fx.ag5 (.u rfl) (fun _ => (hs.yat (k) (by omega) (by omega)).rd) ?_
    refine asg rfl .no (.u rfl) ?_
    refine .nil ?_
    refine .code ?_
    refine Wk.rg [0, 1, 2, 3, 4, 5, 6] rfl rfl ?_
    refine mv rfl .no (.u rfl) ?_
    refine mv rfl .no (.u rfl) ?_
    refine cu (k := .u8) rfl .no rfl Fx.cv5_69 (.u rfl) ?_
    refine bw (k := .u32) rfl .no rfl (.u rfl) (.u rfl) rfl ?_
    refine kv rfl .no Fx.go89 (Eva.cons (.u rfl) Eva.nil) (fun _ => nibble_ok _ _) ?_
    refine kv rfl .no Fx.go89 (Eva.cons (.u rfl) Eva.nil) (fun _ => nibble_ok _ _) ?_
    refine asg rfl .no (.u rfl) ?_
    refine .nil ?_
    refine .blk ?_
    refine .code ?_
    refine Wk.rg [0, 1] rfl rfl ?_
    refine arn (((k + 1) : Nat) : Int) rfl .no (.u rfl) (.u rfl) rfl (fun _ => by omega) (fun _ => wrap_i64 (by omega) (by omega)) ?_
    refine mv rfl .no (.u rfl) ?_
    refine .nil ?_
    refine We.lpo (k + 1, hIt 4 (hIt 4 (x ^^^ (xs.getD k 0).setWidth 32))) ?_ ?_ ?_ ?_ ?_
    · exact (ESub.cons rfl rfl (ESub.cons rfl (by first | rfl | exact evi (by omega)) (ESub.cons rfl rfl (ESub.cons rfl rfl ESub.nil))))
    · exact MSub.nil
    · first | omega | (dsimp only; omega)
    · exact hGl0
    · refine ⟨?_, ?_⟩
      · (try dsimp only) <;> (first | omega | rfl | assumption | (simp; done))
      · (try dsimp only) <;> (rw [fold_take (by omega), ← ex, hIt_add]; rfl)
  · have c1k := c1
    try simp only [decide_eq_true_eq, decide_eq_false_iff_not, Int.not_lt, Int.not_le, gt_iff_lt, ge_iff_le, Bool.or_eq_true, Bool.and_eq_true, Bool.or_eq_false_iff, Bool.not_eq_true', Bool.not_eq_false', Int.toNat_natCast, bne_iff_ne, beq_iff_eq, bne_eq_false_iff_eq, beq_eq_false_iff_ne, ne_eq] at c1
    refine .exit ?_
    refine .xcode ?_
    refine .xlp ?_
    refine .xblk ?_
    refine .code ?_
    refine .seq ?_
    refine Wk.rg [0, 1, 2] rfl rfl ?_
    refine mv rfl .no (.u rfl) ?_
    refine xw (k := .u32) rfl .no rfl (.u rfl) ?_
    refine asg rfl .no (.u rfl) ?_
    refine .nil ?_
    refine .code ?_
    refine .ret ?_
    refine We.fin0 Tryd.results81 (.tmp rfl .nil) ?_
    obtain rfl : k = xs.length := by omega
    exact ⟨rfl, by rw [ex, List.take_length]; rfl⟩

theorem crcSum_ok (ps : List (Sh × List Y)) (h : Sh) (G : PM) (hs : SlP G h ps) (hl : (catL ps).length ≤ 9000000000000000000) (hn : ps.length ≤ 1000) : Ct Tryd.prog 62 ([h.val ps.length] : List Value).toArray G [] (fun _ μ' u => μ' = [] ∧ u = U (crcW 0#32 (catL ps))) := by
  refine Ct.of Tryd.func62 rfl Tryd.ntmps62 rfl fun w0 hs0 => ?_
  refine .seq ?_
  refine Wk.rg [0] rfl rfl ?_
  refine asg rfl .no (.u rfl) ?_
  refine .nil ?_
  refine .code ?_
  refine .seq ?_
  refine Wk.rg [0] rfl rfl ?_
  refine asg rfl .no (.u rfl) ?_
  refine .nil ?_
  refine .code ?_
  refine .seq ?_
  refine .seq ?_
  refine Wk.rg [0, 1, 2] rfl rfl ?_
  refine mv rfl .no (.u rfl) ?_
  refine ln rfl .no Fx.sn50 (.u rfl) ?_
  refine mv rfl .no (.u rfl) ?_
  refine .nil ?_
  refine .code ?_
  refine .block ?_
  refine Wk.lop (α := Nat × W) (fun gh => [(3, true, U gh.2), (8, true, .int .i64 (gh.1 : Int))]) (fun _ => [])
    (fun gh Gl => (gh.1 ≤ ps.length) ∧ (gh.2 = crcW 0#32 (catL (ps.take gh.1)))) (fun gh => ps.length - gh.1) (0, 0#32) [(6, true, _), (7, true, _)] []
    (ESub.cons rfl rfl (ESub.cons rfl (by first | rfl | exact evi (by omega)) (ESub.cons rfl rfl (ESub.cons rfl rfl ESub.nil))))
    MSub.nil ?_ ?_
  · refine ⟨?_, ?_⟩
    · (try dsimp only) <;> (first | omega | rfl | assumption | (simp; done))
    · (try dsimp only) <;> (simp [catL, crc_nil])
  intro gh N0 Gl0 hN0 hGl0 hF0
  obtain ⟨k, x⟩ := gh; dsimp only at hF0 hN0 ⊢
  obtain ⟨hk, ex⟩ := hF0
  have hs := hs.mono hGl0
  refine .seq ?_
  refine Wk.rg [0] rfl rfl ?_
  refine cp rfl .no (.u rfl) (.u rfl) rfl ?_
  refine .nil ?_
  refine .code ?_
  refine .seq ?_
  refine .cond rfl (fun c1 => ?_) (fun c1 => ?_)
  · have c1k := c1
    try simp only [decide_eq_true_eq, decide_eq_false_iff_not, Int.not_lt, Int.not_le, gt_iff_lt, ge_iff_le, Bool.or_eq_true, Bool.and_eq_true, Bool.or_eq_false_iff, Bool.not_eq_true', Bool.not_eq_false', Int.toNat_natCast, bne_iff_ne, beq_iff_eq, bne_eq_false_iff_eq, beq_eq_false_iff_ne, ne_eq] at c1
    refine .skip ?_
    refine .code ?_
    refine .seq ?_
    refine .block ?_
    refine .seq ?_
    refine Wk.rg [0, 1, 2] rfl rfl ?_
    refine ih rfl .no Fx.se50 (.u rfl) (.u rfl) (fun _ => by omega) (fun _ => by omega) (fun _ => hs.sl.nn (k := k) (by omega)) ?_
    obtain ⟨p11, ep11⟩ := getx (k := k) (xs := ps) (by omega)
    have hq11 := hs.get ep11
    refine ld rfl .no Fx.ag27 (.u rfl) (fun _ => (hs.at (k) (by omega) ep11).rd) ?_
    refine asg rfl .no (.u rfl) ?_
    refine .nil ?_
    refine .code ?_
    refine Wk.rg [0, 1, 2, 3] rfl rfl ?_
    refine mv rfl .no (.u rfl) ?_
    refine mv rfl .no (.u rfl) ?_
    refine kv rfl .no Fx.go81 (Eva.cons (.u rfl) (Eva.cons (.u rfl) Eva.nil)) (fun _ => crcMore_ok _ p11.2 _ _ hq11 (by have := cat_len ep11; omega)) ?_
    refine asg rfl .no (.u rfl) ?_
    refine .nil ?_
    refine .blk ?_
    refine .code ?_
    refine Wk.rg [0, 1] rfl rfl ?_
    refine arn (((k + 1) : Nat) : Int) rfl .no (.u rfl) (.u rfl) rfl (fun _ => by omega) (fun _ => wrap_i64 (by omega) (by omega)) ?_
    refine mv rfl .no (.u rfl) ?_
    refine .nil ?_
    refine We.lpo (k + 1, crcW x p11.2) ?_ ?_ ?_ ?_ ?_
    · exact (ESub.cons rfl rfl (ESub.cons rfl (by first | rfl | exact evi (by omega)) (ESub.cons rfl rfl (ESub.cons rfl rfl ESub.nil))))
    · exact MSub.nil
    · first | omega | (dsimp only; omega)
    · exact hGl0
    · refine ⟨?_, ?_⟩
      · (try dsimp only) <;> (first | omega | rfl | assumption | (simp; done))
      · (try dsimp only) <;> (rw [ex, crc_app, cat_take ep11])
  · have c1k := c1
    try simp only [decide_eq_true_eq, decide_eq_false_iff_not, Int.not_lt, Int.not_le, gt_iff_lt, ge_iff_le, Bool.or_eq_true, Bool.and_eq_true, Bool.or_eq_false_iff, Bool.not_eq_true', Bool.not_eq_false', Int.toNat_natCast, bne_iff_ne, beq_iff_eq, bne_eq_false_iff_eq, beq_eq_false_iff_ne, ne_eq] at c1
    refine .exit ?_
    refine .xcode ?_
    refine .xlp ?_
    refine .xblk ?_
    refine .code ?_
    refine .seq ?_
    refine Wk.rg [0, 1] rfl rfl ?_
    refine mv rfl .no (.u rfl) ?_
    refine asg rfl .no (.u rfl) ?_
    refine .nil ?_
    refine .code ?_
    refine .ret ?_
    refine We.fin0 Tryd.results62 (.tmp rfl .nil) ?_
    obtain rfl : k = ps.length := by omega
    exact ⟨rfl, by rw [ex, List.take_length]; rfl⟩

theorem Mask_ok (x : W) (G : PM) : Ct Tryd.prog 61 ([U x] : List Value).toArray G [] (fun _ μ' u => μ' = [] ∧ u = U (maskW x)) := by
  refine Ct.of Tryd.func61 rfl Tryd.ntmps61 rfl fun w0 hs0 => ?_
  refine .seq ?_
  refine Wk.rg [0] rfl rfl ?_
  refine asg rfl .no (.u rfl) ?_
  refine .nil ?_
  refine .code ?_
  refine .seq ?_
  refine Wk.rg [0, 1, 2, 3] rfl rfl ?_
  refine mv rfl .no (.u rfl) ?_
  refine kv rfl .no Fx.go80 (Eva.cons (.u rfl) (Eva.cons (.u rfl) Eva.nil)) (fun _ => rot_ok _ 17 _) ?_
  refine bw (k := .u32) (b := 2726488792#32) rfl .no rfl (.u rfl) (.u rfl) rfl ?_
  refine asg rfl .no (.u rfl) ?_
  refine .nil ?_
  refine .code ?_
  refine .ret ?_
  refine We.fin0 Tryd.results61 (.tmp rfl .nil) ?_
  exact ⟨rfl, rfl⟩

theorem rMask_ok (x : W) (G : PM) : Ct Tryd.prog 64 ([U x] : List Value).toArray G [] (fun _ μ' u => μ' = [] ∧ u = U (maskW x)) := by
  refine Ct.of Tryd.func64 rfl Tryd.ntmps64 rfl fun w0 hs0 => ?_
  refine .seq ?_
  refine Wk.rg [0] rfl rfl ?_
  refine asg rfl .no (.u rfl) ?_
  refine .nil ?_
  refine .code ?_
  refine .seq ?_
  refine Wk.rg [0, 1, 2, 3, 4, 5, 6, 7] rfl rfl ?_
  refine mv rfl .no (.u rfl) ?_
  refine mw (k := .u32) (b := 32768#32) rfl .no (.u rfl) (.u rfl) (fun _ => show (32768#32 : BitVec 32) ≠ 0#32 by decide) ?_
  refine bw (k := .u32) (b := 131072#32) rfl .no rfl (.u rfl) (.u rfl) rfl ?_
  refine mv rfl .no (.u rfl) ?_
  refine dw (k := .u32) (b := 32768#32) rfl .no rfl (.u rfl) (.u rfl) (fun _ => show (32768#32 : BitVec 32) ≠ 0#32 by decide) ?_
  refine bw (k := .u32) rfl .no rfl (.u rfl) (.u rfl) rfl ?_
  refine bw (k := .u32) (b := 2726488792#32) rfl .no rfl (.u rfl) (.u rfl) rfl ?_
  refine asg rfl .no (.u rfl) ?_
  refine .nil ?_
  refine .code ?_
  refine .ret ?_
  refine We.fin0 Tryd.results64 (.tmp rfl .nil) ?_
  exact ⟨rfl, congrArg (fun z => tup [uv .u32 z]) (mask_eq x)⟩

theorem rhalf_ok (x : W) (G : PM) : Ct Tryd.prog 83 ([U x] : List Value).toArray G [] (fun _ μ' u => μ' = [] ∧ u = U (halfW x)) := by
  refine Ct.of Tryd.func83 rfl Tryd.ntmps83 rfl fun w0 hs0 => ?_
  refine .seq ?_
  refine Wk.rg [0] rfl rfl ?_
  refine asg rfl .no (.u rfl) ?_
  refine .nil ?_
  refine .code ?_
  refine .seq ?_
  refine .seq ?_
  refine Wk.rg [0, 1, 2] rfl rfl ?_
  refine mv rfl .no (.u rfl) ?_
  refine mw (k := .u32) (b := 2#32) rfl .no (.u rfl) (.u rfl) (fun _ => show (2#32 : BitVec 32) ≠ 0#32 by decide) ?_
  refine cp rfl .no (.u rfl) (.u rfl) rfl ?_
  refine .nil ?_
  refine .code ?_
  refine .cond rfl (fun c1 => ?_) (fun c1 => ?_)
  · have c1k := c1
    try simp only [decide_eq_true_eq, decide_eq_false_iff_not, Int.not_lt, Int.not_le, gt_iff_lt, ge_iff_le, Bool.or_eq_true, Bool.and_eq_true, Bool.or_eq_false_iff, Bool.not_eq_true', Bool.not_eq_false', Int.toNat_natCast, bne_iff_ne, beq_iff_eq, bne_eq_false_iff_eq, beq_eq_false_iff_ne, ne_eq] at c1
    refine .seq ?_
    refine Wk.rg [0, 1, 2, 3] rfl rfl ?_
    refine mv rfl .no (.u rfl) ?_
    refine dw (k := .u32) (b := 2#32) rfl .no rfl (.u rfl) (.u rfl) (fun _ => show (2#32 : BitVec 32) ≠ 0#32 by decide) ?_
    refine bw (k := .u32) (b := 2197175160#32) rfl .no rfl (.u rfl) (.u rfl) rfl ?_
    refine asg rfl .no (.u rfl) ?_
    refine .nil ?_
    refine .code ?_
    refine .ret ?_
    refine We.fin0 Tryd.results83 (.tmp rfl .nil) ?_
    exact ⟨rfl, congrArg (fun z => tup [uv .u32 z]) (half_odd (odd_of c1))⟩
  · have c1k := c1
    try simp only [decide_eq_true_eq, decide_eq_false_iff_not, Int.not_lt, Int.not_le, gt_iff_lt, ge_iff_le, Bool.or_eq_true, Bool.and_eq_true, Bool.or_eq_false_iff, Bool.not_eq_true', Bool.not_eq_false', Int.toNat_natCast, bne_iff_ne, beq_iff_eq, bne_eq_false_iff_eq, beq_eq_false_iff_ne, ne_eq] at c1
    refine .skip ?_
    refine .code ?_
    refine .seq ?_
    refine Wk.rg [0, 1, 2] rfl rfl ?_
    refine mv rfl .no (.u rfl) ?_
    refine dw (k := .u32) (b := 2#32) rfl .no rfl (.u rfl) (.u rfl) (fun _ => show (2#32 : BitVec 32) ≠ 0#32 by decide) ?_
    refine asg rfl .no (.u rfl) ?_
    refine .nil ?_
    refine .code ?_
    refine .ret ?_
    refine We.fin0 Tryd.results83 (.tmp rfl .nil) ?_
    exact ⟨rfl, congrArg (fun z => tup [uv .u32 z]) (half_even (fun e => c1 (odd_to e)))⟩

theorem rcrcMore_ok (sum : W) (xs : List Y) (h : Sh) (G : PM) (hs : SlR G 1 encY h xs) (hl : xs.length ≤ 9000000000000000000) : Ct Tryd.prog 65 ([U sum, h.val xs.length] : List Value).toArray G [] (fun _ μ' u => μ' = [] ∧ u = U (crcW sum xs)) := by
  refine Ct.of Tryd.func65 rfl Tryd.ntmps65 rfl fun w0 hs0 => ?_
  refine .seq ?_
  refine Wk.rg [0] rfl rfl ?_
  refine asg rfl .no (.u rfl) ?_
  refine .nil ?_
  refine .code ?_
  refine .seq ?_
  refine Wk.rg [0, 1, 2] rfl rfl ?_
  refine mv rfl .no (.u rfl) ?_
  refine bw (k := .u32) (a := 4294967295#32) rfl .no rfl (.u rfl) (.u rfl) rfl ?_
  refine asg rfl .no (.u rfl) ?_
  refine .nil ?_
  refine .code ?_
  refine .seq ?_
  refine .seq ?_
  refine Wk.rg [0] rfl rfl ?_
  refine asg rfl .no (.u rfl) ?_
  refine .nil ?_
  refine .code ?_
  refine .block ?_
  refine Wk.lop (α := Nat × W) (fun gh => [(5, true, U gh.2), (6, true, .int .i64 (gh.1 : Int))]) (fun _ => [])
    (fun gh Gl => (gh.1 ≤ xs.length) ∧ (gh.2 = (xs.take gh.1).foldl crcB (~~~sum))) (fun gh => xs.length - gh.1) (0, 4294967295#32 - sum) [(1, true, _)] []
    (ESub.cons rfl rfl (ESub.cons rfl (by first | rfl | exact evi (by omega)) (ESub.cons rfl rfl ESub.nil)))
    MSub.nil ?_ ?_
  · refine ⟨?_, ?_⟩
    · (try dsimp only) <;> (first | omega | rfl | assumption | (simp; done))
    · (try dsimp only) <;> (exact not_sub sum)
  intro gh N0 Gl0 hN0 hGl0 hF0
  obtain ⟨k, x⟩ := gh; dsimp only at hF0 hN0 ⊢
  obtain ⟨hk, ex⟩ := hF0
  have hs := hs.mono hGl0
  refine .seq ?_
  refine .seq ?_
  refine Wk.rg [0, 1, 2, 3] rfl rfl ?_
  refine mv rfl .no (.u rfl) ?_
  refine mv rfl .no (.u rfl) ?_
  refine ln rfl .no Fx.sn27 (.u rfl) ?_
  refine cp rfl .no (.u rfl) (.u rfl) rfl ?_
  refine .nil ?_
  refine .code ?_
  refine .cond rfl (fun c1 => ?_) (fun c1 => ?_)
  · have c1k := c1
    try simp only [decide_eq_true_eq, decide_eq_false_iff_not, Int.not_lt, Int.not_le, gt_iff_lt, ge_iff_le, Bool.or_eq_true, Bool.and_eq_true, Bool.or_eq_false_iff, Bool.not_eq_true', Bool.not_eq_false', Int.toNat_natCast, bne_iff_ne, beq_iff_eq, bne_eq_false_iff_eq, beq_eq_false_iff_ne, ne_eq] at c1
    refine .skip ?_
    refine .code ?_
    refine .seq ?_
    refine .block ?_
    refine .seq ?_
    refine Wk.rg [0, 1, 2, 3, 4, 5, 6, 7] rfl rfl ?_
    refine mv rfl .no (.u rfl) ?_
    refine mv rfl .no (.u rfl) ?_
    refine mv rfl .no (.u rfl) ?_
    refine ih rfl .no Fx.se27 (.u rfl) (.u rfl) (fun _ => by omega) (fun _ => by omega) (fun _ => hs.nn (k := k) (by omega)) ?_
    refine ld rfl .no Fx.ag5 (.u rfl) (fun _ => (hs.yat (k) (by omega) (by omega)).rd) ?_
    refine cu (k := .u8) rfl .no rfl Fx.cv5_69 (.u rfl) ?_
    refine bw (k := .u32) rfl .no rfl (.u rfl) (.u rfl) rfl ?_
    refine asg rfl .no (.u rfl) ?_
    refine .nil ?_
    refine .code ?_
    refine .seq ?_
    refine Wk.rg [0] rfl rfl ?_
    refine asg rfl .no (.u rfl) ?_
    refine .nil ?_
    refine .code ?_
    refine .block ?_
    refine Wk.lop (α := Nat × W) (fun gh => [(5, true, U gh.2), (7, true, .int .i64 (gh.1 : Int))]) (fun _ => [])
      (fun gh Gl => (gh.1 ≤ 8) ∧ (gh.2 = hIt gh.1 (x ^^^ (xs.getD k 0).setWidth 32))) (fun gh => 8 - gh.1) (0, x ^^^ (xs.getD k 0).setWidth 32) [(1, true, _), (6, true, _)] []
      (ESub.cons rfl rfl (ESub.cons rfl (by first | rfl | exact evi (by omega)) (ESub.cons rfl rfl (ESub.cons rfl rfl ESub.nil))))
      MSub.nil ?_ ?_
    · refine ⟨?_, ?_⟩
      · (try dsimp only) <;> (first | omega | rfl | assumption | (simp; done))
      · (try dsimp only) <;> (first | omega | rfl | assumption | (simp; done))
    intro gh N1 Gl1 hN1 hGl1 hF1
    obtain ⟨q, z⟩ := gh; dsimp only at hF1 hN1 ⊢
    obtain ⟨hq, ez⟩ := hF1
    have hs := hs.mono hGl1
    refine .seq ?_
    refine .seq ?_
    refine Wk.rg [0, 1] rfl rfl ?_
    refine mv rfl .no (.u rfl) ?_
    refine cp rfl .no (.u rfl) (.u rfl) rfl ?_
    refine .nil ?_
    refine .code ?_
    refine .cond rfl (fun c2 => ?_) (fun c2 => ?_)
    · have c2k := c2
      try simp only [decide_eq_true_eq, decide_eq_false_iff_not, Int.not_lt, Int.not_le, gt_iff_lt, ge_iff_le, Bool.or_eq_true, Bool.and_eq_true, Bool.or_eq_false_iff, Bool.not_eq_true', Bool.not_eq_false', Int.toNat_natCast, bne_iff_ne, beq_iff_eq, bne_eq_false_iff_eq, beq_eq_false_iff_ne, ne_eq] at c2
      refine .skip ?_
      refine .code ?_
      refine .seq ?_
      refine .block ?_
      refine Wk.rg [0, 1, 2] rfl rfl ?_
      refine mv rfl .no (.u rfl) ?_
      refine kv rfl .no Fx.go83 (Eva.cons (.u rfl) Eva.nil) (fun _ => rhalf_ok _ _) ?_
      refine asg rfl .no (.u rfl) ?_
      refine .nil ?_
      refine .blk ?_
      refine .code ?_
      refine Wk.rg [0, 1, 2] rfl rfl ?_
      refine mv rfl .no (.u rfl) ?_
      refine arn (((q + 1) : Nat) : Int) rfl .no (.u rfl) (.u rfl) rfl (fun _ => by omega) (fun _ => wrap_i64 (by omega) (by omega)) ?_
      refine asg rfl .no (.u rfl) ?_
      refine .nil ?_
      refine We.lpo (q + 1, halfW z) ?_ ?_ ?_ ?_ ?_
      · exact (ESub.cons rfl rfl (ESub.cons rfl (by first | rfl | exact evi (by omega)) (ESub.cons rfl rfl (ESub.cons rfl rfl ESub.nil))))
      · exact MSub.nil
      · first | omega | (dsimp only; omega)
      · exact hGl1
      · refine ⟨?_, ?_⟩
        · (try dsimp only) <;> (first | omega | rfl | assumption | (simp; done))
        · (try dsimp only) <;> (rw [ez]; rfl)
    · have c2k := c2
      try simp only [decide_eq_true_eq, decide_eq_false_iff_not, Int.not_lt, Int.not_le, gt_iff_lt, ge_iff_le, Bool.or_eq_true, Bool.and_eq_true, Bool.or_eq_false_iff, Bool.not_eq_true', Bool.not_eq_false', Int.toNat_natCast, bne_iff_ne, beq_iff_eq, bne_eq_false_iff_eq, beq_eq_false_iff_ne, ne_eq] at c2
      refine .exit ?_
      refine .xcode ?_
      refine .xlp ?_
      refine .xblk ?_
      refine .blk ?_
      refine .code ?_
      refine Wk.rg [0, 1, 2] rfl rfl ?_
      refine mv rfl .no (.u rfl) ?_
      refine arn (((k + 1) : Nat) : Int) rfl .no (.u rfl) (.u rfl) rfl (fun _ => by omega) (fun _ => wrap_i64 (by omega) (by omega)) ?_
      refine asg rfl .no (.u rfl) ?_
      refine .nil ?_
      refine We.lpo (k + 1, z) ?_ ?_ ?_ ?_ ?_
      · exact (ESub.cons rfl rfl (ESub.cons rfl (by first | rfl | exact evi (by omega)) (ESub.cons rfl rfl ESub.nil)))
      · exact MSub.nil
      · first | omega | (dsimp only; omega)
      · exact (hGl0).trans hGl1
      · refine ⟨?_, ?_⟩
        · (try dsimp only) <;> (first | omega | rfl | assumption | (simp; done))
        · (try dsimp only) <;> (rw [fold_take (by omega), ← ex, ez, show q = 8 by omega]; rfl)
  · have c1k := c1
    try simp only [decide_eq_true_eq, decide_eq_false_iff_not, Int.not_lt, Int.not_le, gt_iff_lt, ge_iff_le, Bool.or_eq_true, Bool.and_eq_true, Bool.or_eq_false_iff, Bool.not_eq_true', Bool.not_eq_false', Int.toNat_natCast, bne_iff_ne, beq_iff_eq, bne_eq_false_iff_eq, beq_eq_false_iff_ne, ne_eq] at c1
    refine .exit ?_
    refine .xcode ?_
    refine .xlp ?_
    refine .xblk ?_
    refine .code ?_
    refine .seq ?_
    refine Wk.rg [0, 1, 2] rfl rfl ?_
    refine mv rfl .no (.u rfl) ?_
    refine bw (k := .u32) (a := 4294967295#32) rfl .no rfl (.u rfl) (.u rfl) rfl ?_
    refine asg rfl .no (.u rfl) ?_
    refine .nil ?_
    refine .code ?_
    refine .ret ?_
    refine We.fin0 Tryd.results65 (.tmp rfl .nil) ?_
    obtain rfl : k = xs.length := by omega
    exact ⟨rfl, by rw [ex, List.take_length]; exact congrArg (fun z => tup [uv .u32 z]) (not_sub _)⟩

theorem crc2_ok {G : PM} {b7 b9 T7 T9 : Nat} {kind : Y} {h : Sh} {p : List Y} (hle : PM.le G ((G.add b7 (cl [V kind] T7)).add b9 (cl [.slice (some ⟨b7, 0, none⟩) 1 1, h.val p.length] T9))) (hq : PM.le (G.add b7 (cl [V kind] T7)) ((G.add b7 (cl [V kind] T7)).add b9 (cl [.slice (some ⟨b7, 0, none⟩) 1 1, h.val p.length] T9))) (hs : SlR G 1 encY h p) (hl : p.length ≤ 1000000000000000) :
    Ct Tryd.prog 62 ([.slice (some ⟨b9, 0, none⟩) 2 2] : List Value).toArray ((G.add b7 (cl [V kind] T7)).add b9 (cl [.slice (some ⟨b7, 0, none⟩) 1 1, h.val p.length] T9)) [] (fun _ μ' u => μ' = [] ∧ u = U (crcW 0#32 ([kind] ++ p))) := by
  have h1 : SlR (G.add b7 (cl [V kind] T7)) 1 encY ⟨some ⟨b7, 0, none⟩, 1⟩ [kind] := SlR.ofBlk (T := T7) (PM.add_same _ _ _) (fun _ _ => rfl) (by simp)
  have hP : SlP ((G.add b7 (cl [V kind] T7)).add b9 (cl [.slice (some ⟨b7, 0, none⟩) 1 1, h.val p.length] T9)) ⟨some ⟨b9, 0, none⟩, 2⟩ [(⟨some ⟨b7, 0, none⟩, 1⟩, [kind]), (h, p)] :=
    ⟨SlR.ofBlk (T := T9) (PM.add_same _ _ _) (fun _ _ => rfl) (by simp), fun q hq' => by
      rcases List.mem_cons.1 hq' with rfl | hq'
      · exact h1.mono hq
      · rw [List.mem_singleton.1 hq']; exact hs.mono hle⟩
  have hh := crcSum_ok _ ⟨some ⟨b9, 0, none⟩, 2⟩ _ hP (by simp [catL]; omega) (by simp)
  rw [show catL [((⟨some ⟨b7, 0, none⟩, 1⟩ : Sh), [kind]), (h, p)] = [kind] ++ p by simp [catL]] at hh
  exact hh
theorem whead_ok (kind : Y) (p : List Y) (h : Sh) (G : PM) (hs : SlR G 1 encY h p) (hl : p.length ≤ 1000000000000000) : Ct Tryd.prog 41 ([V kind, h.val p.length] : List Value).toArray G [] (PR 5 (fun L => L = fixL ((maskW (crcW 0#32 ([kind] ++ p))).setWidth 64) 4 ++ fixL (BitVec.ofInt 64 (p.length : Int)) 2 ++ [kind])) := by
  refine Ct.of Tryd.func41 rfl Tryd.ntmps41 rfl fun w0 hs0 => ?_
  refine .seq ?_
  refine Wk.rg [0] rfl rfl ?_
  refine asg rfl .no (.u rfl) ?_
  refine .nil ?_
  refine .code ?_
  refine .seq ?_
  refine Wk.rg [0, 1, 2, 3, 4, 5, 6] rfl rfl ?_
  refine mv rfl .no (.u rfl) ?_
  refine Go.Tan.b1 rfl Fx.se27 Fx.zv5 (.u rfl) rfl rfl (by decide) ?_; intro b7
  refine mv rfl .no (.u rfl) ?_
  refine Go.Tan.bN rfl Fx.se50 Fx.zv27 (Evp.cons (.u rfl) (Evp.cons (.u rfl) Evp.nil)) rfl (by decide) (by simp [Value.oneCell', Sh.val]) ?_; intro b9
  refine kp rfl .no Fx.go62 (Eva.cons (.u rfl) Eva.nil) (Gp.add .here (Gp.add .here Gp.nil)) (fun _ hle hq => crc2_ok hle hq.1 hs hl) ?_
  refine kv rfl .no Fx.go61 (Eva.cons (.u rfl) Eva.nil) (fun _ => Mask_ok _ _) ?_
  refine asg rfl .no (.u rfl) ?_
  refine .nil ?_
  refine .code ?_
  refine .seq ?_
  refine Wk.rg [0, 1, 2, 3, 4, 5, 6, 7, 8, 9, 10] rfl rfl ?_
  refine mv rfl .no (.u rfl) ?_
  refine cu (k := .u32) rfl .no rfl Fx.cv69_43 (.u rfl) ?_
  refine kc rfl Fx.go34 (Eva.cons (.u rfl) (Eva.cons (.u rfl) (Eva.cons (.u rfl) Eva.nil))) (Ct.frzB (Fix_ok [] ⟨none, 0⟩ _ 4 _ SlR.nul (by simp) (by decide))) ?_
  rintro _ G14 μ14 hG14 ⟨h14, L14, eL14, rfl, rfl, hs14⟩
  have hs := hs.mono hG14
  refine mv rfl .no (.u rfl) ?_
  refine ln rfl .no Fx.sn27 (.u rfl) ?_
  refine ci rfl .no rfl Fx.cv3_43 (.u rfl) ?_
  refine kc rfl Fx.go34 (Eva.cons (.u rfl) (Eva.cons (.u rfl) (Eva.cons (.u rfl) Eva.nil))) (Ct.rowc (Fix_ok L14 h14 _ 2 _ hs14 (by have := fx0 eL14; omega) (by decide))) ?_
  rintro v18 G18 μ18 hG18 ⟨L18, ov18, eL18, rfl⟩
  have hs := hs.mono hG18
  have hs14 := hs14.mono hG18
  refine mv rfl .no (.u rfl) ?_
  refine Go.Tan.b1 rfl Fx.se27 Fx.zv5 (.u rfl) rfl rfl (by decide) ?_; intro b20
  have lL18 : L18.length = 6 := by have := fx0 eL14; have := fx2 eL18; omega
  refine apY rfl Fx.se27 Fx.zv5 (.u rfl) (.u rfl) (.there .here) (Sc.one .here) (by show _ + 1 ≤ _; omega) ?_
  intro v21 L21 ov21 eL21
  have lL21 : L21.length = L18.length + 1 := by rw [eL21, List.length_append]; first | rfl | simp [yl_len]
  refine asg rfl .no (.u rfl) ?_
  refine .nil ?_
  refine .code ?_
  refine .ret ?_
  refine We.fin Tryd.results41 (.tmp rfl .nil) (MSub.cons .here rfl MSub.nil) ?_
  exact ⟨L21, by rw [eL21, eL18, eL14]; rfl, rfl⟩

end Go.Proofs.YtoogjfldgeiapaaDoor
