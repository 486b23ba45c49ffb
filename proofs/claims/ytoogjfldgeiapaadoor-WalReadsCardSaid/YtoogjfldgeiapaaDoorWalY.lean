/- Contracts of functions, walked. -/
import Derived.Test.YtoogjfldgeiapaaDoorWalW
import Derived.Test.YtoogjfldgeiapaaDoorWalE
namespace Go.Proofs.YtoogjfldgeiapaaDoor
set_option linter.unusedSimpArgs false
set_option linter.unusedVariables false
open Go.Tan Go.RowKit

namespace Fx
theorem fo81_3 : fOff Tryd.prog 81 3 = some 73 := by kernel_rfl
theorem fo81_0 : fOff Tryd.prog 81 0 = some 0 := by kernel_rfl
theorem fo81_2 : fOff Tryd.prog 81 2 = some 65 := by kernel_rfl
theorem fo52_1 : fOff Tryd.prog 52 1 = some 5 := by kernel_rfl
theorem ag50 : aggN Tryd.prog 50 = some none := by kernel_rfl
theorem fo81_1 : fOff Tryd.prog 81 1 = some 64 := by kernel_rfl
theorem sz50 : szT Tryd.prog 50 = some 1 := by kernel_rfl
end Fx
theorem take_eq_step {A B : List Y} {k : Nat} (he : A.take k = B.take k) (h1 : k < A.length) (h2 : k < B.length) (h : A.getD k 0 = B.getD k 0) : A.take (k + 1) = B.take (k + 1) := by
  rw [List.take_succ_eq_append_getElem h1, List.take_succ_eq_append_getElem h2, he]
  have e1 : A.getD k 0 = A[k] := by simp [h1]
  have e2 : B.getD k 0 = B[k] := by simp [h2]
  rw [← e1, ← e2, h]
theorem byte_ne {a b : Y} {A B : List Y} {k : Nat} (ha : A.getD k 0 = a) (hb : B.getD k 0 = b) (h : ¬ (a.toNat : Int) = b.toNat) : ¬ A = B := fun e => h (by rw [← ha, ← hb, e])
theorem byte_same {a b : Y} (h : (a.toNat : Int) = b.toNat) : a = b := BitVec.eq_of_toNat_eq (by omega)
theorem sEqual_ok (A B : List Y) (ha hb : Sh) (G : PM) (hsa : SlR G 1 encY ha A) (hsb : SlR G 1 encY hb B) (hl : A.length ≤ 100000000000000) : Ct Tryd.prog 47 ([ha.val A.length, hb.val B.length] : List Value).toArray G [] (fun _ μ' u => μ' = [] ∧ u = .bool (decide (A = B))) := by
  refine Ct.of Tryd.func47 rfl Tryd.ntmps47 rfl fun w0 hs0 => ?_
  refine .seq ?_
  refine Wk.rg [0] rfl rfl ?_
  refine asg rfl .no (.u rfl) ?_
  refine .nil ?_
  refine .code ?_
  refine .seq ?_
  refine .seq ?_
  refine Wk.rg [0, 1, 2, 3, 4] rfl rfl ?_
  refine mv rfl .no (.u rfl) ?_
  refine ln rfl .no Fx.sn27 (.u rfl) ?_
  refine mv rfl .no (.u rfl) ?_
  refine ln rfl .no Fx.sn27 (.u rfl) ?_
  refine cp rfl .no (.u rfl) (.u rfl) rfl ?_
  refine .nil ?_
  refine .code ?_
  refine .cond rfl (fun c1 => ?_) (fun c1 => ?_)
  · have c1k := c1
    try simp only [decide_eq_true_eq, decide_eq_false_iff_not, Int.not_lt, Int.not_le, gt_iff_lt, ge_iff_le, Bool.or_eq_true, Bool.and_eq_true, Bool.or_eq_false_iff, Bool.not_eq_true', Bool.not_eq_false', Int.toNat_natCast, bne_iff_ne, beq_iff_eq, bne_eq_false_iff_eq, beq_eq_false_iff_ne, ne_eq] at c1
    refine .seq ?_
    refine Wk.rg [0] rfl rfl ?_
    refine asg rfl .no (.u rfl) ?_
    refine .nil ?_
    refine .code ?_
    refine .ret ?_
    refine We.fin0 Tryd.results47 (.tmp rfl .nil) ?_
    exact ⟨rfl, congrArg Value.bool (decide_eq_false (fun e => c1 (by rw [e]))).symm⟩
  · have c1k := c1
    try simp only [decide_eq_true_eq, decide_eq_false_iff_not, Int.not_lt, Int.not_le, gt_iff_lt, ge_iff_le, Bool.or_eq_true, Bool.and_eq_true, Bool.or_eq_false_iff, Bool.not_eq_true', Bool.not_eq_false', Int.toNat_natCast, bne_iff_ne, beq_iff_eq, bne_eq_false_iff_eq, beq_eq_false_iff_ne, ne_eq] at c1
    refine .skip ?_
    refine .code ?_
    refine .seq ?_
    refine .seq ?_
    refine Wk.rg [0, 1, 2] rfl rfl ?_
    refine mv rfl .no (.u rfl) ?_
    refine ln rfl .no Fx.sn27 (.u rfl) ?_
    refine mv rfl .no (.u rfl) ?_
    refine .nil ?_
    refine .code ?_
    refine .block ?_
    refine Wk.lop (α := Nat) (fun k => [(13, true, .int .i64 (k : Int))]) (fun _ => [])
      (fun k Gl => (k ≤ A.length) ∧ (A.take k = B.take k)) (fun k => A.length - k) 0 [(0, true, _), (1, true, _), (12, true, _)] []
      (ESub.cons rfl (by first | rfl | exact evi (by omega)) (ESub.cons rfl rfl (ESub.cons rfl rfl (ESub.cons rfl rfl ESub.nil))))
      MSub.nil ?_ ?_
    · refine ⟨?_, ?_⟩
      · (try dsimp only) <;> (first | omega | rfl | assumption | (simp; done))
      · (try dsimp only) <;> (rfl)
    intro k N0 Gl0 hN0 hGl0 hF0
    try dsimp only at hF0 hN0 ⊢
    obtain ⟨hk, he⟩ := hF0
    have hsa := hsa.mono hGl0
    have hsb := hsb.mono hGl0
    refine .seq ?_
    refine Wk.rg [0] rfl rfl ?_
    refine cp rfl .no (.u rfl) (.u rfl) rfl ?_
    refine .nil ?_
    refine .code ?_
    refine .seq ?_
    refine .cond rfl (fun c2 => ?_) (fun c2 => ?_)
    · have c2k := c2
      try simp only [decide_eq_true_eq, decide_eq_false_iff_not, Int.not_lt, Int.not_le, gt_iff_lt, ge_iff_le, Bool.or_eq_true, Bool.and_eq_true, Bool.or_eq_false_iff, Bool.not_eq_true', Bool.not_eq_false', Int.toNat_natCast, bne_iff_ne, beq_iff_eq, bne_eq_false_iff_eq, beq_eq_false_iff_ne, ne_eq] at c2
      refine .skip ?_
      refine .code ?_
      refine .seq ?_
      refine .block ?_
      refine .seq ?_
      refine Wk.rg [0, 1] rfl rfl ?_
      refine mv rfl .no (.u rfl) ?_
      refine asg rfl .no (.u rfl) ?_
      refine .nil ?_
      refine .code ?_
      refine .seq ?_
      refine Wk.draw (mc := ⟨false, false⟩) [0, 1, 2, 3, 4, 5, 6, 7, 8] Fx.mix (by kernel_rfl) ?_
      refine mv rfl .no (.u rfl) ?_
      refine mv rfl .no (.u rfl) ?_
      refine ih rfl .no Fx.se27 (.u rfl) (.u rfl) (fun _ => by omega) (fun _ => by omega) (fun _ => hsa.nn (k := k) (by omega)) ?_
      refine ld rfl .no Fx.ag5 (.u rfl) (fun _ => (hsa.yat (k) (by omega) (by omega)).rd) ?_
      refine mv rfl .no (.u rfl) ?_
      refine mv rfl .no (.u rfl) ?_
      refine ih rfl .no Fx.se27 (.u rfl) (.u rfl) (fun _ => by omega) (fun _ => by omega) (fun _ => hsb.nn (k := k) (by omega)) ?_
      refine ld rfl .no Fx.ag5 (.u rfl) (fun _ => (hsb.yat (k) (by omega) (by omega)).rd) ?_
      refine cp rfl .no (.u rfl) (.u rfl) rfl ?_
      refine .nil ?_
      refine .code ?_
      refine .cond rfl (fun c3 => ?_) (fun c3 => ?_)
      · have c3k := c3
        try simp only [decide_eq_true_eq, decide_eq_false_iff_not, Int.not_lt, Int.not_le, gt_iff_lt, ge_iff_le, Bool.or_eq_true, Bool.and_eq_true, Bool.or_eq_false_iff, Bool.not_eq_true', Bool.not_eq_false', Int.toNat_natCast, bne_iff_ne, beq_iff_eq, bne_eq_false_iff_eq, beq_eq_false_iff_ne, ne_eq] at c3
        refine .seq ?_
        refine Wk.rg [0] rfl rfl ?_
        refine asg rfl .no (.u rfl) ?_
        refine .nil ?_
        refine .code ?_
        refine .ret ?_
        refine We.fin0 Tryd.results47 (.tmp rfl .nil) ?_
        exact ⟨rfl, congrArg Value.bool (decide_eq_false (byte_ne rfl rfl c3)).symm⟩
      · have c3k := c3
        try simp only [decide_eq_true_eq, decide_eq_false_iff_not, Int.not_lt, Int.not_le, gt_iff_lt, ge_iff_le, Bool.or_eq_true, Bool.and_eq_true, Bool.or_eq_false_iff, Bool.not_eq_true', Bool.not_eq_false', Int.toNat_natCast, bne_iff_ne, beq_iff_eq, bne_eq_false_iff_eq, beq_eq_false_iff_ne, ne_eq] at c3
        refine .skip ?_
        refine .blk ?_
        refine .code ?_
        refine Wk.rg [0, 1] rfl rfl ?_
        refine arn (((k + 1) : Nat) : Int) rfl .no (.u rfl) (.u rfl) rfl (fun _ => by omega) (fun _ => wrap_i64 (by omega) (by omega)) ?_
        refine mv rfl .no (.u rfl) ?_
        refine .nil ?_
        refine We.lpo (k + 1) ?_ ?_ ?_ ?_ ?_
        · exact (ESub.cons rfl (by first | rfl | exact evi (by omega)) (ESub.cons rfl rfl (ESub.cons rfl rfl (ESub.cons rfl rfl ESub.nil))))
        · exact MSub.nil
        · first | omega | (dsimp only; omega)
        · exact hGl0
        · refine ⟨?_, ?_⟩
          · (try dsimp only) <;> (first | omega | rfl | assumption | (simp; done))
          · (try dsimp only) <;> (exact take_eq_step he (by omega) (by omega) (byte_same c3))
    · have c2k := c2
      try simp only [decide_eq_true_eq, decide_eq_false_iff_not, Int.not_lt, Int.not_le, gt_iff_lt, ge_iff_le, Bool.or_eq_true, Bool.and_eq_true, Bool.or_eq_false_iff, Bool.not_eq_true', Bool.not_eq_false', Int.toNat_natCast, bne_iff_ne, beq_iff_eq, bne_eq_false_iff_eq, beq_eq_false_iff_ne, ne_eq] at c2
      refine .exit ?_
      refine .xcode ?_
      refine .xlp ?_
      refine .xblk ?_
      refine .code ?_
      refine .seq ?_
      refine Wk.rg [0] rfl rfl ?_
      refine asg rfl .no (.u rfl) ?_
      refine .nil ?_
      refine .code ?_
      refine .ret ?_
      refine We.fin0 Tryd.results47 (.tmp rfl .nil) ?_
      exact ⟨rfl, congrArg Value.bool (decide_eq_true (by have h1 := he; rw [show k = A.length by omega, List.take_length, List.take_of_length_le (by omega)] at h1; exact h1)).symm⟩

theorem copy_two {X A B L M : List Y} (h1 : L = X.take 0 ++ A ++ X.drop (0 + A.length)) (h2 : M = L.take (A.length * 1) ++ B ++ L.drop (A.length * 1 + B.length)) (hX : X.length = A.length + B.length) : M = A ++ B := by
  rw [List.take_zero, List.nil_append, Nat.zero_add] at h1
  subst h1
  rw [h2, Nat.mul_one, List.take_left, List.drop_of_length_le (by rw [List.length_append, List.length_drop]; omega), List.append_nil]
theorem ne_emp {A B : List Y} (h : 0 < B.length) {P : Prop} : A ++ B = [] → P := fun e => by have := congrArg List.length e; rw [List.length_append, List.length_nil] at this; omega
theorem take_ok (root : Nat → Y) (h : Hd) (kind : Y) (p : List Y) (hp : Sh) (parts : List Y) (sp : Sh) (ps : List (Sh × List Y)) (vr : Value) (ha : Sh) (b : Nat) (used : Int) (G : PM) (hs : SlR G 1 encY hp p) (hsq : SlR G 1 encY sp parts) (h0 : parts = [] → sp = ⟨none, 0⟩) (hA : AllS G ps) (hsa : SlR G 1 encY ha (headL h)) (hK : RdNP G 1 0 (wa 64 kW)) (hp0 : 0 < p.length) (hl : parts.length + p.length ≤ 10000000000000) (hn : ps.length ≤ 100000000) : Ct Tryd.prog 48 ([.pointer (some ⟨b, 0, none⟩), V kind, hp.val p.length] : List Value).toArray G [.blk b (cl (rdC (keyEnc root (headL h)) (keyMac root (headL h)) (ha.val (headL h).length) h vr used false (sp.val parts.length)) 81), rS 1 encP vr 27 ps] (fun G' μ' u => (takeS (openAt root h) parts (ps.map (·.2)) kind p = none ∧ u = .bool false ∧ μ' = []) ∨ ∃ Q ps' sQ vr', takeS (openAt root h) parts (ps.map (·.2)) kind p = some (Q, ps'.map (·.2)) ∧ u = .bool true ∧ μ' = [.blk b (cl (rdC (keyEnc root (headL h)) (keyMac root (headL h)) (ha.val (headL h).length) h vr' used false (sQ.val Q.length)) 81), rS 1 encP vr' 27 ps'] ∧ SlR G' 1 encY sQ Q ∧ (Q = [] → sQ = ⟨none, 0⟩) ∧ AllS G' ps' ∧ ps'.length ≤ ps.length + 1 ∧ Q.length ≤ parts.length + p.length) := by
  refine Ct.of Tryd.func48 rfl Tryd.ntmps48 rfl fun w0 hs0 => ?_
  have eo := emp_oa hsq h0
  have lh := head_len h
  refine .seq ?_
  refine Wk.rg [0] rfl rfl ?_
  refine asg rfl .no (.u rfl) ?_
  refine .nil ?_
  refine .code ?_
  refine .seq ?_
  refine Wk.rg [0] rfl rfl ?_
  refine asg rfl .no (.u rfl) ?_
  refine .nil ?_
  refine .code ?_
  refine .seq ?_
  refine .seq ?_
  refine Wk.rg [0] rfl rfl ?_
  refine mv rfl .no (.u rfl) ?_
  refine .nil ?_
  refine .code ?_
  refine .block ?_
  refine .seq ?_
  refine .block ?_
  refine .seq ?_
  refine .block ?_
  refine .seq ?_
  refine .block ?_
  refine .seq ?_
  refine .block ?_
  refine .seq ?_
  refine .block ?_
  refine .seq ?_
  refine .seq ?_
  refine .seq ?_
  refine Wk.rg [0, 1] rfl rfl ?_
  refine cp rfl .no (.u rfl) (.u rfl) rfl ?_
  refine asg rfl .no (.u rfl) ?_
  refine .nil ?_
  refine .code ?_
  refine .cond rfl (fun c1 => ?_) (fun c1 => ?_)
  · have c1k := c1
    try simp only [decide_eq_true_eq, decide_eq_false_iff_not, Int.not_lt, Int.not_le, gt_iff_lt, ge_iff_le, Bool.or_eq_true, Bool.and_eq_true, Bool.or_eq_false_iff, Bool.and_eq_false_iff, Bool.not_eq_true', Bool.not_eq_false', Int.toNat_natCast, bne_iff_ne, beq_iff_eq, bne_eq_false_iff_eq, beq_eq_false_iff_ne, ne_eq] at c1
    refine .exit ?_
    refine .xcode ?_
    refine .xcode ?_
    refine .xblk ?_
    refine .code ?_
    refine Wk.rg [0] rfl rfl ?_
    refine asg rfl .no (.u rfl) ?_
    refine .nil ?_
    refine .blk ?_
    refine .code ?_
    refine .seq ?_
    refine .seq ?_
    refine Wk.rg [0, 1, 2, 3, 4] rfl rfl ?_
    refine mv rfl .no (.u rfl) ?_
    refine nc rfl .no (.u rfl) ?_
    refine fz rfl .no Fx.fo81_3 (.u rfl) ?_
    refine ld rfl .no Fx.ag27 (.u rfl) (fun _ => Rd.own .here rdc_parts) ?_
    refine sn1 rfl .no Fx.sn27 (.u rfl) (.u rfl) ?_
    refine .nil ?_
    refine .code ?_
    refine .cond rfl (fun c2 => ?_) (fun c2 => ?_)
    · have c2k := c2
      try simp only [decide_eq_true_eq, decide_eq_false_iff_not, Int.not_lt, Int.not_le, gt_iff_lt, ge_iff_le, Bool.or_eq_true, Bool.and_eq_true, Bool.or_eq_false_iff, Bool.and_eq_false_iff, Bool.not_eq_true', Bool.not_eq_false', Int.toNat_natCast, bne_iff_ne, beq_iff_eq, bne_eq_false_iff_eq, beq_eq_false_iff_ne, ne_eq] at c2
      refine .seq ?_
      refine Wk.rg [0] rfl rfl ?_
      refine asg rfl .no (.u rfl) ?_
      refine .nil ?_
      refine .code ?_
      refine .ret ?_
      refine We.fin0 Tryd.results48 (.tmp rfl .nil) ?_
      exact .inl ⟨take_full ((byte_eq (n := 1) (by decide)).1 c1) (eo.symm.trans c2), rfl, rfl⟩
    · have c2k := c2
      try simp only [decide_eq_true_eq, decide_eq_false_iff_not, Int.not_lt, Int.not_le, gt_iff_lt, ge_iff_le, Bool.or_eq_true, Bool.and_eq_true, Bool.or_eq_false_iff, Bool.and_eq_false_iff, Bool.not_eq_true', Bool.not_eq_false', Int.toNat_natCast, bne_iff_ne, beq_iff_eq, bne_eq_false_iff_eq, beq_eq_false_iff_ne, ne_eq] at c2
      refine .skip ?_
      refine .code ?_
      refine .exit ?_
      refine .xnot rfl ?_
      refine .xcode ?_
      refine .xnot rfl ?_
      refine .xcode ?_
      refine .xnot rfl ?_
      refine .xcode ?_
      refine .xblk ?_
      refine .code ?_
      refine .seq ?_
      refine .seq ?_
      refine Wk.rg [0, 1, 2, 3, 4, 5, 6] rfl rfl ?_
      refine mv rfl .no (.u rfl) ?_
      refine nt rfl .no (.u rfl) ?_
      refine mv rfl .no (.u rfl) ?_
      refine mv rfl (.t rfl rfl) (.u rfl) ?_
      refine ln rfl (.t rfl rfl) Fx.sn27 (.s rfl) ?_
      refine cp rfl (.t rfl rfl) (.s rfl) (.u rfl) rfl ?_
      refine pkA rfl .no (.u rfl) (.s rfl) ?_
      refine .nil ?_
      refine .code ?_
      refine Wk.condF rfl rfl ?_
      refine .skip ?_
      refine .code ?_
      refine .seq ?_
      refine Wk.rg [0, 1, 2, 3, 4, 5, 6, 7, 8, 9] rfl rfl ?_
      refine mv rfl .no (.u rfl) ?_
      refine nc rfl .no (.u rfl) ?_
      refine fz rfl .no Fx.fo81_3 (.u rfl) ?_
      refine ld rfl .no Fx.ag27 (.u rfl) (fun _ => Rd.own .here rdc_parts) ?_
      refine ln rfl .no Fx.sn27 (.u rfl) ?_
      refine mv rfl .no (.u rfl) ?_
      refine ln rfl .no Fx.sn27 (.u rfl) ?_
      refine arn (((parts.length + p.length) : Nat) : Int) rfl .no (.u rfl) (.u rfl) rfl (fun _ => by omega) (fun _ => wrap_i64 (by omega) (by omega)) ?_
      refine mkY ((parts.length + p.length)) ((parts.length + p.length)) rfl Fx.se27 Fx.zv5 (.u rfl) (.u rfl) (by first | rfl | omega) (by first | rfl | omega) (by omega) (by omega) ?_; intro b45
      have lR45 : (List.replicate ((parts.length + p.length)) (0#8 : Y)).length = (parts.length + p.length) := List.length_replicate
      refine asg rfl .no (.u rfl) ?_
      refine .nil ?_
      refine .code ?_
      refine .seq ?_
      refine Wk.rg [0, 1, 2, 3, 4, 5, 6, 7, 8, 9] rfl rfl ?_
      refine mv rfl .no (.u rfl) ?_
      refine mv rfl .no (.u rfl) ?_
      refine mv rfl .no (.u rfl) ?_
      refine nc rfl .no (.u rfl) ?_
      refine fz rfl .no Fx.fo81_3 (.u rfl) ?_
      refine ld rfl .no Fx.ag27 (.u rfl) (fun _ => Rd.own (.there .here) rdc_parts) ?_
      refine cpY rfl Fx.se27 (.u rfl) (.u rfl) .here hsq.sc (by omega) (by omega) ?_; intro L52 eL52 lL52
      refine slr (parts.length) rfl Fx.se27 (.u rfl) (.u rfl) (by omega) (by omega) (by omega) (by omega) ?_
      refine mv rfl .no (.u rfl) ?_
      refine cpY rfl Fx.se27 (.u rfl) (.u rfl) .here hs.sc (by omega) (by omega) ?_; intro L55 eL55 lL55
      refine .nil ?_
      have eL55' : L55 = parts ++ p := copy_two eL52 eL55 (by omega)
      refine .code ?_
      refine .seq ?_
      refine wk_fb .here (keys_k .here rfl (keys_k .here rfl (keys_0))) ?_; intro GfR45 hR45 hleR45 evR45 hsR45; try rw [ evR45]
      have hs := hs.mono hleR45
      have hsq := hsq.mono hleR45
      have hA := hA.mono hleR45
      have hsa := hsa.mono hleR45
      have hK := hK.mono hleR45
      refine Wk.rg [0, 1, 2, 3, 4] rfl rfl ?_
      refine mv rfl .no (.u rfl) ?_
      refine mv rfl .no (.u rfl) ?_
      refine nc rfl .no (.u rfl) ?_
      refine fz rfl .no Fx.fo81_3 (.u rfl) ?_
      refine s1 rfl (.u rfl) (.u rfl) rfl Fx.sz27 .here (by (try rw [rdc_len]); decide) (rds_parts) ?_
      refine .nil ?_
      refine .code ?_
      refine .seq ?_
      refine .seq ?_
      refine Wk.rg [0, 1] rfl rfl ?_
      refine mv rfl .no (.u rfl) ?_
      refine nt rfl .no (.u rfl) ?_
      refine .nil ?_
      refine .code ?_
      refine Wk.condF rfl rfl ?_
      refine .skip ?_
      refine .code ?_
      refine .seq ?_
      refine Wk.draw (mc := ⟨false, false⟩) [0, 1, 2, 3, 4, 5, 6, 7, 8, 9, 10, 12, 13, 14, 15, 16, 17, 18, 19, 11, 20, 21, 22, 23, 24, 25] Fx.mix (by kernel_rfl) ?_
      refine mv rfl .no (.u rfl) ?_
      refine nc rfl .no (.u rfl) ?_
      refine fz rfl .no Fx.fo81_0 (.u rfl) ?_
      refine lA rfl .no Fx.ag24 (.u rfl) (fun _ => RdN.part (n := 64) (cs' := ba 32 (keyEnc root (headL h)) ++ ba 32 (keyMac root (headL h))) .here (rdc_key)) (fun _ => (by first | exact (key_len _ _).trans (key_len _ _).symm | exact key_len _ _ | exact ba_len _ _ | rfl)) ?_
      refine mv rfl .no (.u rfl) ?_
      refine nc rfl .no (.u rfl) ?_
      refine fz rfl .no Fx.fo81_2 (.u rfl) ?_
      refine fa rfl .no Fx.fo52_1 (.u rfl) ?_
      refine ld rfl .no Fx.ag50 (.u rfl) (fun _ => Rd.own .here rdc_rec) ?_
      refine lr rfl .no Fx.sn50 (.u rfl) (.there .here) ?_
      refine ci rfl .no rfl Fx.cv3_43 (.u rfl) ?_
      refine mv rfl .no (.u rfl) ?_
      refine nc rfl .no (.u rfl) ?_
      refine fz rfl .no Fx.fo81_1 (.u rfl) ?_
      refine ld rfl .no Fx.ag27 (.u rfl) (fun _ => Rd.own .here rdc_ad) ?_
      refine mv rfl .no (.u rfl) ?_
      refine nc rfl .no (.u rfl) ?_
      refine fz rfl .no Fx.fo81_3 (.u rfl) ?_
      refine ld rfl .no Fx.ag27 (.u rfl) (fun _ => Rd.own .here rdc_parts) ?_
      refine kv rfl .no Fx.go39 (Eva.cons (.u rfl) Eva.nil) (fun _ => Nonce_ok _ _) ?_
      refine kc rfl Fx.go20 (Eva.cons (.u rfl) (Eva.cons (.u rfl) (Eva.cons (.u rfl) (Eva.cons (.u rfl) Eva.nil)))) (Open_ok (keyEnc root (headL h)) (keyMac root (headL h)) _ (headL h) ha L55 hR45 _ hsa hsR45 hK (by omega) (by omega)) ?_
      rintro _ G83 μ83 hG83 ⟨v83, L83, e83, hO83, rfl, rfl⟩
      have hs := hs.mono hG83
      have hsq := hsq.mono hG83
      have hA := hA.mono hG83
      have hsa := hsa.mono hG83
      have hK := hK.mono hG83
      have hsR45 := hsR45.mono hG83
      refine mv rfl .no (.u rfl) ?_
      refine ex rfl .no (.u rfl) rfl ?_
      refine ex rfl .no (.u rfl) rfl ?_
      refine asg rfl .no (.u rfl) ?_
      refine asg rfl .no (.u rfl) ?_
      refine .nil ?_
      refine .code ?_
      refine .seq ?_
      refine wk_fb .here (keys_k .here rfl (keys_k .here rfl (keys_0))) ?_; intro GfR83 hR83 hleR83 evR83 hsR83; subst evR83
      have hs := hs.mono hleR83
      have hsq := hsq.mono hleR83
      have hA := hA.mono hleR83
      have hsa := hsa.mono hleR83
      have hK := hK.mono hleR83
      have hsR45 := hsR45.mono hleR83
      refine Wk.rg [0, 1, 2, 3] rfl rfl ?_
      refine mv rfl .no (.u rfl) ?_
      refine nc rfl .no (.u rfl) ?_
      refine fz rfl .no Fx.fo81_3 (.u rfl) ?_
      refine s1 rfl (.u rfl) (.u rfl) rfl Fx.sz27 .here (by (try rw [rdc_len]); decide) (rds_parts) ?_
      refine .nil ?_
      refine .code ?_
      refine .seq ?_
      refine Wk.rg [0, 1, 2, 3, 4, 5, 6, 7, 8, 9, 10, 11, 12] rfl rfl ?_
      refine mv rfl .no (.u rfl) ?_
      refine mv rfl .no (.u rfl) ?_
      refine nc rfl .no (.u rfl) ?_
      refine fz rfl .no Fx.fo81_2 (.u rfl) ?_
      refine fa rfl .no Fx.fo52_1 (.u rfl) ?_
      refine ld rfl .no Fx.ag50 (.u rfl) (fun _ => Rd.own .here rdc_rec) ?_
      refine mv rfl .no (.u rfl) ?_
      refine Go.Tan.b1 rfl Fx.se50 Fx.zv27 (.u rfl) rfl rfl (by decide) ?_; intro b96
      refine apS ((hR83, L83)) rfl Fx.se50 Fx.zv27 rfl (.u rfl) (.u rfl) (.there (.there .here)) .here (rfl) (one1 rfl) (by omega) (by unfold maxLen; omega) ?_; intro v97 ov97
      refine nc rfl .no (.u rfl) ?_
      refine fz rfl .no Fx.fo81_2 (.u rfl) ?_
      refine fa rfl .no Fx.fo52_1 (.u rfl) ?_
      refine s1v rfl (.u rfl) (.u rfl) .here Fx.sz50 (.there (.there .here)) (by (try rw [rdc_len]); decide) (rds_rec) ?_
      refine .nil ?_
      refine .code ?_
      refine .seq ?_
      refine Wk.rg [0, 1, 2] rfl rfl ?_
      refine mv rfl .no (.u rfl) ?_
      refine cp rfl .no (.u rfl) (.u rfl) rfl ?_
      refine asg rfl .no (.u rfl) ?_
      refine .nil ?_
      refine .code ?_
      refine .ret ?_
      rcases hO83 with ⟨ho, rfl⟩ | ⟨ho, rfl, rfl⟩
      · refine We.fin Tryd.results48 (.tmp rfl .nil) (MSub.cons .here rfl (MSub.cons .here rfl MSub.nil)) ?_
        refine .inr ⟨[], ps ++ [(hR83, L83)], ⟨none, 0⟩, v97, ?_, rfl, rfl, SlR.nul, fun _ => rfl, AllS.snoc hA hsR83, by simp, by simp⟩
        rw [eL55'] at ho
        have ho' : openAt root h (ps.map (·.2)).length (parts ++ p) = some L83 := by rw [List.length_map]; exact ho
        rw [take_end (.inl ⟨(byte_eq (n := 1) (by decide)).1 c1, eo.symm.trans c2⟩), ho', List.map_append]; rfl
      · refine We.fin0 Tryd.results48 (.tmp rfl .nil) ?_
        refine .inl ⟨?_, rfl, rfl⟩
        rw [eL55'] at ho
        have ho' : openAt root h (ps.map (·.2)).length (parts ++ p) = none := by rw [List.length_map]; exact ho
        rw [take_end (.inl ⟨(byte_eq (n := 1) (by decide)).1 c1, eo.symm.trans c2⟩), ho']; rfl
  · have c1k := c1
    try simp only [decide_eq_true_eq, decide_eq_false_iff_not, Int.not_lt, Int.not_le, gt_iff_lt, ge_iff_le, Bool.or_eq_true, Bool.and_eq_true, Bool.or_eq_false_iff, Bool.and_eq_false_iff, Bool.not_eq_true', Bool.not_eq_false', Int.toNat_natCast, bne_iff_ne, beq_iff_eq, bne_eq_false_iff_eq, beq_eq_false_iff_ne, ne_eq] at c1
    refine .skip ?_
    refine .code ?_
    refine .seq ?_
    refine .seq ?_
    refine Wk.rg [0, 1] rfl rfl ?_
    refine cp rfl .no (.u rfl) (.u rfl) rfl ?_
    refine asg rfl .no (.u rfl) ?_
    refine .nil ?_
    refine .code ?_
    refine .cond rfl (fun c3 => ?_) (fun c3 => ?_)
    · have c3k := c3
      try simp only [decide_eq_true_eq, decide_eq_false_iff_not, Int.not_lt, Int.not_le, gt_iff_lt, ge_iff_le, Bool.or_eq_true, Bool.and_eq_true, Bool.or_eq_false_iff, Bool.and_eq_false_iff, Bool.not_eq_true', Bool.not_eq_false', Int.toNat_natCast, bne_iff_ne, beq_iff_eq, bne_eq_false_iff_eq, beq_eq_false_iff_ne, ne_eq] at c3
      refine .exit ?_
      refine .xcode ?_
      refine .xcode ?_
      refine .xnot rfl ?_
      refine .xcode ?_
      refine .xblk ?_
      refine .code ?_
      refine .seq ?_
      refine .seq ?_
      refine Wk.rg [0, 1, 2, 3, 4] rfl rfl ?_
      refine mv rfl .no (.u rfl) ?_
      refine nc rfl .no (.u rfl) ?_
      refine fz rfl .no Fx.fo81_3 (.u rfl) ?_
      refine ld rfl .no Fx.ag27 (.u rfl) (fun _ => Rd.own .here rdc_parts) ?_
      refine sn1 rfl .no Fx.sn27 (.u rfl) (.u rfl) ?_
      refine .nil ?_
      refine .code ?_
      refine .cond rfl (fun c4 => ?_) (fun c4 => ?_)
      · have c4k := c4
        try simp only [decide_eq_true_eq, decide_eq_false_iff_not, Int.not_lt, Int.not_le, gt_iff_lt, ge_iff_le, Bool.or_eq_true, Bool.and_eq_true, Bool.or_eq_false_iff, Bool.and_eq_false_iff, Bool.not_eq_true', Bool.not_eq_false', Int.toNat_natCast, bne_iff_ne, beq_iff_eq, bne_eq_false_iff_eq, beq_eq_false_iff_ne, ne_eq] at c4
        refine .seq ?_
        refine Wk.rg [0] rfl rfl ?_
        refine asg rfl .no (.u rfl) ?_
        refine .nil ?_
        refine .code ?_
        refine .ret ?_
        refine We.fin0 Tryd.results48 (.tmp rfl .nil) ?_
        exact .inl ⟨take_first ((byte_eq (n := 2) (by decide)).1 c3) (.inl (eo.symm.trans c4)), rfl, rfl⟩
      · have c4k := c4
        try simp only [decide_eq_true_eq, decide_eq_false_iff_not, Int.not_lt, Int.not_le, gt_iff_lt, ge_iff_le, Bool.or_eq_true, Bool.and_eq_true, Bool.or_eq_false_iff, Bool.and_eq_false_iff, Bool.not_eq_true', Bool.not_eq_false', Int.toNat_natCast, bne_iff_ne, beq_iff_eq, bne_eq_false_iff_eq, beq_eq_false_iff_ne, ne_eq] at c4
        refine .skip ?_
        refine .code ?_
        refine .exit ?_
        refine .xnot rfl ?_
        refine .xcode ?_
        refine .xnot rfl ?_
        refine .xcode ?_
        refine .xnot rfl ?_
        refine .xcode ?_
        refine .xblk ?_
        refine .code ?_
        refine .seq ?_
        refine .seq ?_
        refine Wk.rg [0, 1, 2, 3, 4, 5, 6] rfl rfl ?_
        refine mv rfl .no (.u rfl) ?_
        refine nt rfl .no (.u rfl) ?_
        refine mv rfl .no (.u rfl) ?_
        refine mv rfl (.t rfl rfl) (.u rfl) ?_
        refine ln rfl (.t rfl rfl) Fx.sn27 (.s rfl) ?_
        refine cp rfl (.t rfl rfl) (.s rfl) (.u rfl) rfl ?_
        refine pkA rfl .no (.u rfl) (.s rfl) ?_
        refine .nil ?_
        refine .code ?_
        refine .cond rfl (fun c5 => ?_) (fun c5 => ?_)
        · have c5k := c5
          try simp only [decide_eq_true_eq, decide_eq_false_iff_not, Int.not_lt, Int.not_le, gt_iff_lt, ge_iff_le, Bool.or_eq_true, Bool.and_eq_true, Bool.or_eq_false_iff, Bool.and_eq_false_iff, Bool.not_eq_true', Bool.not_eq_false', Int.toNat_natCast, bne_iff_ne, beq_iff_eq, bne_eq_false_iff_eq, beq_eq_false_iff_ne, ne_eq] at c5
          refine .seq ?_
          refine Wk.rg [0] rfl rfl ?_
          refine asg rfl .no (.u rfl) ?_
          refine .nil ?_
          refine .code ?_
          refine .ret ?_
          refine We.fin0 Tryd.results48 (.tmp rfl .nil) ?_
          exact .inl ⟨take_first ((byte_eq (n := 2) (by decide)).1 c3) (.inr (by omega)), rfl, rfl⟩
        · have c5k := c5
          try simp only [decide_eq_true_eq, decide_eq_false_iff_not, Int.not_lt, Int.not_le, gt_iff_lt, ge_iff_le, Bool.or_eq_true, Bool.and_eq_true, Bool.or_eq_false_iff, Bool.and_eq_false_iff, Bool.not_eq_true', Bool.not_eq_false', Int.toNat_natCast, bne_iff_ne, beq_iff_eq, bne_eq_false_iff_eq, beq_eq_false_iff_ne, ne_eq] at c5
          refine .skip ?_
          refine .code ?_
          refine .seq ?_
          refine Wk.rg [0, 1, 2, 3, 4, 5, 6, 7, 8, 9] rfl rfl ?_
          refine mv rfl .no (.u rfl) ?_
          refine nc rfl .no (.u rfl) ?_
          refine fz rfl .no Fx.fo81_3 (.u rfl) ?_
          refine ld rfl .no Fx.ag27 (.u rfl) (fun _ => Rd.own .here rdc_parts) ?_
          refine ln rfl .no Fx.sn27 (.u rfl) ?_
          refine mv rfl .no (.u rfl) ?_
          refine ln rfl .no Fx.sn27 (.u rfl) ?_
          refine arn (((parts.length + p.length) : Nat) : Int) rfl .no (.u rfl) (.u rfl) rfl (fun _ => by omega) (fun _ => wrap_i64 (by omega) (by omega)) ?_
          refine mkY ((parts.length + p.length)) ((parts.length + p.length)) rfl Fx.se27 Fx.zv5 (.u rfl) (.u rfl) (by first | rfl | omega) (by first | rfl | omega) (by omega) (by omega) ?_; intro b45
          have lR45 : (List.replicate ((parts.length + p.length)) (0#8 : Y)).length = (parts.length + p.length) := List.length_replicate
          refine asg rfl .no (.u rfl) ?_
          refine .nil ?_
          refine .code ?_
          refine .seq ?_
          refine Wk.rg [0, 1, 2, 3, 4, 5, 6, 7, 8, 9] rfl rfl ?_
          refine mv rfl .no (.u rfl) ?_
          refine mv rfl .no (.u rfl) ?_
          refine mv rfl .no (.u rfl) ?_
          refine nc rfl .no (.u rfl) ?_
          refine fz rfl .no Fx.fo81_3 (.u rfl) ?_
          refine ld rfl .no Fx.ag27 (.u rfl) (fun _ => Rd.own (.there .here) rdc_parts) ?_
          refine cpY rfl Fx.se27 (.u rfl) (.u rfl) .here hsq.sc (by omega) (by omega) ?_; intro L52 eL52 lL52
          refine slr (parts.length) rfl Fx.se27 (.u rfl) (.u rfl) (by omega) (by omega) (by omega) (by omega) ?_
          refine mv rfl .no (.u rfl) ?_
          refine cpY rfl Fx.se27 (.u rfl) (.u rfl) .here hs.sc (by omega) (by omega) ?_; intro L55 eL55 lL55
          refine .nil ?_
          have eL55' : L55 = parts ++ p := copy_two eL52 eL55 (by omega)
          refine .code ?_
          refine .seq ?_
          refine wk_fb .here (keys_k .here rfl (keys_k .here rfl (keys_0))) ?_; intro GfR45 hR45 hleR45 evR45 hsR45; try rw [ evR45]
          have hs := hs.mono hleR45
          have hsq := hsq.mono hleR45
          have hA := hA.mono hleR45
          have hsa := hsa.mono hleR45
          have hK := hK.mono hleR45
          refine Wk.rg [0, 1, 2, 3, 4] rfl rfl ?_
          refine mv rfl .no (.u rfl) ?_
          refine mv rfl .no (.u rfl) ?_
          refine nc rfl .no (.u rfl) ?_
          refine fz rfl .no Fx.fo81_3 (.u rfl) ?_
          refine s1 rfl (.u rfl) (.u rfl) rfl Fx.sz27 .here (by (try rw [rdc_len]); decide) (rds_parts) ?_
          refine .nil ?_
          refine .code ?_
          refine .seq ?_
          refine .seq ?_
          refine Wk.rg [0, 1] rfl rfl ?_
          refine mv rfl .no (.u rfl) ?_
          refine nt rfl .no (.u rfl) ?_
          refine .nil ?_
          refine .code ?_
          refine Wk.condT rfl rfl ?_
          refine .seq ?_
          refine Wk.rg [0] rfl rfl ?_
          refine asg rfl .no (.u rfl) ?_
          refine .nil ?_
          refine .code ?_
          refine .ret ?_
          refine We.fin Tryd.results48 (.tmp rfl .nil) (MSub.cons .here rfl (MSub.cons .here rfl MSub.nil)) ?_
          have q5 : ¬ ((p.length : Int) < 128) := by simpa using c5k
          exact .inr ⟨L55, ps, hR45, vr, by rw [take_go (.inl ⟨(byte_eq (n := 2) (by decide)).1 c3, eo.symm.trans c4⟩) (by omega), eL55'], rfl, rfl, hsR45, fun e => ne_emp hp0 (eL55'.symm.trans e), hA, by omega, by omega⟩
    · have c3k := c3
      try simp only [decide_eq_true_eq, decide_eq_false_iff_not, Int.not_lt, Int.not_le, gt_iff_lt, ge_iff_le, Bool.or_eq_true, Bool.and_eq_true, Bool.or_eq_false_iff, Bool.and_eq_false_iff, Bool.not_eq_true', Bool.not_eq_false', Int.toNat_natCast, bne_iff_ne, beq_iff_eq, bne_eq_false_iff_eq, beq_eq_false_iff_ne, ne_eq] at c3
      refine .skip ?_
      refine .code ?_
      refine .seq ?_
      refine .seq ?_
      refine Wk.rg [0, 1] rfl rfl ?_
      refine cp rfl .no (.u rfl) (.u rfl) rfl ?_
      refine asg rfl .no (.u rfl) ?_
      refine .nil ?_
      refine .code ?_
      refine .cond rfl (fun c6 => ?_) (fun c6 => ?_)
      · have c6k := c6
        try simp only [decide_eq_true_eq, decide_eq_false_iff_not, Int.not_lt, Int.not_le, gt_iff_lt, ge_iff_le, Bool.or_eq_true, Bool.and_eq_true, Bool.or_eq_false_iff, Bool.and_eq_false_iff, Bool.not_eq_true', Bool.not_eq_false', Int.toNat_natCast, bne_iff_ne, beq_iff_eq, bne_eq_false_iff_eq, beq_eq_false_iff_ne, ne_eq] at c6
        refine .exit ?_
        refine .xcode ?_
        refine .xcode ?_
        refine .xnot rfl ?_
        refine .xcode ?_
        refine .xnot rfl ?_
        refine .xcode ?_
        refine .xblk ?_
        refine .code ?_
        refine Wk.rg [0] rfl rfl ?_
        refine asg rfl .no (.u rfl) ?_
        refine .nil ?_
        refine .blk ?_
        refine .code ?_
        refine .seq ?_
        refine .seq ?_
        refine Wk.rg [0, 1, 2, 3, 4] rfl rfl ?_
        refine mv rfl .no (.u rfl) ?_
        refine nc rfl .no (.u rfl) ?_
        refine fz rfl .no Fx.fo81_3 (.u rfl) ?_
        refine ld rfl .no Fx.ag27 (.u rfl) (fun _ => Rd.own .here rdc_parts) ?_
        refine sn0 rfl .no Fx.sn27 (.u rfl) (.u rfl) ?_
        refine .nil ?_
        refine .code ?_
        refine .cond rfl (fun c7 => ?_) (fun c7 => ?_)
        · have c7k := c7
          try simp only [decide_eq_true_eq, decide_eq_false_iff_not, Int.not_lt, Int.not_le, gt_iff_lt, ge_iff_le, Bool.or_eq_true, Bool.and_eq_true, Bool.or_eq_false_iff, Bool.and_eq_false_iff, Bool.not_eq_true', Bool.not_eq_false', Int.toNat_natCast, bne_iff_ne, beq_iff_eq, bne_eq_false_iff_eq, beq_eq_false_iff_ne, ne_eq] at c7
          refine .seq ?_
          refine Wk.rg [0] rfl rfl ?_
          refine asg rfl .no (.u rfl) ?_
          refine .nil ?_
          refine .code ?_
          refine .ret ?_
          refine We.fin0 Tryd.results48 (.tmp rfl .nil) ?_
          exact .inl ⟨take_last ((byte_eq (n := 4) (by decide)).1 c6) (eo.symm.trans c7), rfl, rfl⟩
        · have c7k := c7
          try simp only [decide_eq_true_eq, decide_eq_false_iff_not, Int.not_lt, Int.not_le, gt_iff_lt, ge_iff_le, Bool.or_eq_true, Bool.and_eq_true, Bool.or_eq_false_iff, Bool.and_eq_false_iff, Bool.not_eq_true', Bool.not_eq_false', Int.toNat_natCast, bne_iff_ne, beq_iff_eq, bne_eq_false_iff_eq, beq_eq_false_iff_ne, ne_eq] at c7
          refine .skip ?_
          refine .code ?_
          refine .exit ?_
          refine .xnot rfl ?_
          refine .xcode ?_
          refine .xblk ?_
          refine .code ?_
          refine .seq ?_
          refine .seq ?_
          refine Wk.rg [0, 1, 2, 3, 4, 5, 6] rfl rfl ?_
          refine mv rfl .no (.u rfl) ?_
          refine nt rfl .no (.u rfl) ?_
          refine mv rfl .no (.u rfl) ?_
          refine mv rfl (.t rfl rfl) (.u rfl) ?_
          refine ln rfl (.t rfl rfl) Fx.sn27 (.s rfl) ?_
          refine cp rfl (.t rfl rfl) (.s rfl) (.u rfl) rfl ?_
          refine pkA rfl .no (.u rfl) (.s rfl) ?_
          refine .nil ?_
          refine .code ?_
          refine Wk.condF rfl rfl ?_
          refine .skip ?_
          refine .code ?_
          refine .seq ?_
          refine Wk.rg [0, 1, 2, 3, 4, 5, 6, 7, 8, 9] rfl rfl ?_
          refine mv rfl .no (.u rfl) ?_
          refine nc rfl .no (.u rfl) ?_
          refine fz rfl .no Fx.fo81_3 (.u rfl) ?_
          refine ld rfl .no Fx.ag27 (.u rfl) (fun _ => Rd.own .here rdc_parts) ?_
          refine ln rfl .no Fx.sn27 (.u rfl) ?_
          refine mv rfl .no (.u rfl) ?_
          refine ln rfl .no Fx.sn27 (.u rfl) ?_
          refine arn (((parts.length + p.length) : Nat) : Int) rfl .no (.u rfl) (.u rfl) rfl (fun _ => by omega) (fun _ => wrap_i64 (by omega) (by omega)) ?_
          refine mkY ((parts.length + p.length)) ((parts.length + p.length)) rfl Fx.se27 Fx.zv5 (.u rfl) (.u rfl) (by first | rfl | omega) (by first | rfl | omega) (by omega) (by omega) ?_; intro b45
          have lR45 : (List.replicate ((parts.length + p.length)) (0#8 : Y)).length = (parts.length + p.length) := List.length_replicate
          refine asg rfl .no (.u rfl) ?_
          refine .nil ?_
          refine .code ?_
          refine .seq ?_
          refine Wk.rg [0, 1, 2, 3, 4, 5, 6, 7, 8, 9] rfl rfl ?_
          refine mv rfl .no (.u rfl) ?_
          refine mv rfl .no (.u rfl) ?_
          refine mv rfl .no (.u rfl) ?_
          refine nc rfl .no (.u rfl) ?_
          refine fz rfl .no Fx.fo81_3 (.u rfl) ?_
          refine ld rfl .no Fx.ag27 (.u rfl) (fun _ => Rd.own (.there .here) rdc_parts) ?_
          refine cpY rfl Fx.se27 (.u rfl) (.u rfl) .here hsq.sc (by omega) (by omega) ?_; intro L52 eL52 lL52
          refine slr (parts.length) rfl Fx.se27 (.u rfl) (.u rfl) (by omega) (by omega) (by omega) (by omega) ?_
          refine mv rfl .no (.u rfl) ?_
          refine cpY rfl Fx.se27 (.u rfl) (.u rfl) .here hs.sc (by omega) (by omega) ?_; intro L55 eL55 lL55
          refine .nil ?_
          have eL55' : L55 = parts ++ p := copy_two eL52 eL55 (by omega)
          refine .code ?_
          refine .seq ?_
          refine wk_fb .here (keys_k .here rfl (keys_k .here rfl (keys_0))) ?_; intro GfR45 hR45 hleR45 evR45 hsR45; try rw [ evR45]
          have hs := hs.mono hleR45
          have hsq := hsq.mono hleR45
          have hA := hA.mono hleR45
          have hsa := hsa.mono hleR45
          have hK := hK.mono hleR45
          refine Wk.rg [0, 1, 2, 3, 4] rfl rfl ?_
          refine mv rfl .no (.u rfl) ?_
          refine mv rfl .no (.u rfl) ?_
          refine nc rfl .no (.u rfl) ?_
          refine fz rfl .no Fx.fo81_3 (.u rfl) ?_
          refine s1 rfl (.u rfl) (.u rfl) rfl Fx.sz27 .here (by (try rw [rdc_len]); decide) (rds_parts) ?_
          refine .nil ?_
          refine .code ?_
          refine .seq ?_
          refine .seq ?_
          refine Wk.rg [0, 1] rfl rfl ?_
          refine mv rfl .no (.u rfl) ?_
          refine nt rfl .no (.u rfl) ?_
          refine .nil ?_
          refine .code ?_
          refine Wk.condF rfl rfl ?_
          refine .skip ?_
          refine .code ?_
          refine .seq ?_
          refine Wk.draw (mc := ⟨false, false⟩) [0, 1, 2, 3, 4, 5, 6, 7, 8, 9, 10, 12, 13, 14, 15, 16, 17, 18, 19, 11, 20, 21, 22, 23, 24, 25] Fx.mix (by kernel_rfl) ?_
          refine mv rfl .no (.u rfl) ?_
          refine nc rfl .no (.u rfl) ?_
          refine fz rfl .no Fx.fo81_0 (.u rfl) ?_
          refine lA rfl .no Fx.ag24 (.u rfl) (fun _ => RdN.part (n := 64) (cs' := ba 32 (keyEnc root (headL h)) ++ ba 32 (keyMac root (headL h))) .here (rdc_key)) (fun _ => (by first | exact (key_len _ _).trans (key_len _ _).symm | exact key_len _ _ | exact ba_len _ _ | rfl)) ?_
          refine mv rfl .no (.u rfl) ?_
          refine nc rfl .no (.u rfl) ?_
          refine fz rfl .no Fx.fo81_2 (.u rfl) ?_
          refine fa rfl .no Fx.fo52_1 (.u rfl) ?_
          refine ld rfl .no Fx.ag50 (.u rfl) (fun _ => Rd.own .here rdc_rec) ?_
          refine lr rfl .no Fx.sn50 (.u rfl) (.there .here) ?_
          refine ci rfl .no rfl Fx.cv3_43 (.u rfl) ?_
          refine mv rfl .no (.u rfl) ?_
          refine nc rfl .no (.u rfl) ?_
          refine fz rfl .no Fx.fo81_1 (.u rfl) ?_
          refine ld rfl .no Fx.ag27 (.u rfl) (fun _ => Rd.own .here rdc_ad) ?_
          refine mv rfl .no (.u rfl) ?_
          refine nc rfl .no (.u rfl) ?_
          refine fz rfl .no Fx.fo81_3 (.u rfl) ?_
          refine ld rfl .no Fx.ag27 (.u rfl) (fun _ => Rd.own .here rdc_parts) ?_
          refine kv rfl .no Fx.go39 (Eva.cons (.u rfl) Eva.nil) (fun _ => Nonce_ok _ _) ?_
          refine kc rfl Fx.go20 (Eva.cons (.u rfl) (Eva.cons (.u rfl) (Eva.cons (.u rfl) (Eva.cons (.u rfl) Eva.nil)))) (Open_ok (keyEnc root (headL h)) (keyMac root (headL h)) _ (headL h) ha L55 hR45 _ hsa hsR45 hK (by omega) (by omega)) ?_
          rintro _ G83 μ83 hG83 ⟨v83, L83, e83, hO83, rfl, rfl⟩
          have hs := hs.mono hG83
          have hsq := hsq.mono hG83
          have hA := hA.mono hG83
          have hsa := hsa.mono hG83
          have hK := hK.mono hG83
          have hsR45 := hsR45.mono hG83
          refine mv rfl .no (.u rfl) ?_
          refine ex rfl .no (.u rfl) rfl ?_
          refine ex rfl .no (.u rfl) rfl ?_
          refine asg rfl .no (.u rfl) ?_
          refine asg rfl .no (.u rfl) ?_
          refine .nil ?_
          refine .code ?_
          refine .seq ?_
          refine wk_fb .here (keys_k .here rfl (keys_k .here rfl (keys_0))) ?_; intro GfR83 hR83 hleR83 evR83 hsR83; subst evR83
          have hs := hs.mono hleR83
          have hsq := hsq.mono hleR83
          have hA := hA.mono hleR83
          have hsa := hsa.mono hleR83
          have hK := hK.mono hleR83
          have hsR45 := hsR45.mono hleR83
          refine Wk.rg [0, 1, 2, 3] rfl rfl ?_
          refine mv rfl .no (.u rfl) ?_
          refine nc rfl .no (.u rfl) ?_
          refine fz rfl .no Fx.fo81_3 (.u rfl) ?_
          refine s1 rfl (.u rfl) (.u rfl) rfl Fx.sz27 .here (by (try rw [rdc_len]); decide) (rds_parts) ?_
          refine .nil ?_
          refine .code ?_
          refine .seq ?_
          refine Wk.rg [0, 1, 2, 3, 4, 5, 6, 7, 8, 9, 10, 11, 12] rfl rfl ?_
          refine mv rfl .no (.u rfl) ?_
          refine mv rfl .no (.u rfl) ?_
          refine nc rfl .no (.u rfl) ?_
          refine fz rfl .no Fx.fo81_2 (.u rfl) ?_
          refine fa rfl .no Fx.fo52_1 (.u rfl) ?_
          refine ld rfl .no Fx.ag50 (.u rfl) (fun _ => Rd.own .here rdc_rec) ?_
          refine mv rfl .no (.u rfl) ?_
          refine Go.Tan.b1 rfl Fx.se50 Fx.zv27 (.u rfl) rfl rfl (by decide) ?_; intro b96
          refine apS ((hR83, L83)) rfl Fx.se50 Fx.zv27 rfl (.u rfl) (.u rfl) (.there (.there .here)) .here (rfl) (one1 rfl) (by omega) (by unfold maxLen; omega) ?_; intro v97 ov97
          refine nc rfl .no (.u rfl) ?_
          refine fz rfl .no Fx.fo81_2 (.u rfl) ?_
          refine fa rfl .no Fx.fo52_1 (.u rfl) ?_
          refine s1v rfl (.u rfl) (.u rfl) .here Fx.sz50 (.there (.there .here)) (by (try rw [rdc_len]); decide) (rds_rec) ?_
          refine .nil ?_
          refine .code ?_
          refine .seq ?_
          refine Wk.rg [0, 1, 2] rfl rfl ?_
          refine mv rfl .no (.u rfl) ?_
          refine cp rfl .no (.u rfl) (.u rfl) rfl ?_
          refine asg rfl .no (.u rfl) ?_
          refine .nil ?_
          refine .code ?_
          refine .ret ?_
          rcases hO83 with ⟨ho, rfl⟩ | ⟨ho, rfl, rfl⟩
          · refine We.fin Tryd.results48 (.tmp rfl .nil) (MSub.cons .here rfl (MSub.cons .here rfl MSub.nil)) ?_
            refine .inr ⟨[], ps ++ [(hR83, L83)], ⟨none, 0⟩, v97, ?_, rfl, rfl, SlR.nul, fun _ => rfl, AllS.snoc hA hsR83, by simp, by simp⟩
            rw [eL55'] at ho
            have ho' : openAt root h (ps.map (·.2)).length (parts ++ p) = some L83 := by rw [List.length_map]; exact ho
            rw [take_end (.inr ⟨(byte_eq (n := 4) (by decide)).1 c6, eo.symm.trans c7⟩), ho', List.map_append]; rfl
          · refine We.fin0 Tryd.results48 (.tmp rfl .nil) ?_
            refine .inl ⟨?_, rfl, rfl⟩
            rw [eL55'] at ho
            have ho' : openAt root h (ps.map (·.2)).length (parts ++ p) = none := by rw [List.length_map]; exact ho
            rw [take_end (.inr ⟨(byte_eq (n := 4) (by decide)).1 c6, eo.symm.trans c7⟩), ho']; rfl
      · have c6k := c6
        try simp only [decide_eq_true_eq, decide_eq_false_iff_not, Int.not_lt, Int.not_le, gt_iff_lt, ge_iff_le, Bool.or_eq_true, Bool.and_eq_true, Bool.or_eq_false_iff, Bool.and_eq_false_iff, Bool.not_eq_true', Bool.not_eq_false', Int.toNat_natCast, bne_iff_ne, beq_iff_eq, bne_eq_false_iff_eq, beq_eq_false_iff_ne, ne_eq] at c6
        refine .skip ?_
        refine .code ?_
        refine .seq ?_
        refine Wk.rg [0, 1] rfl rfl ?_
        refine cp rfl .no (.u rfl) (.u rfl) rfl ?_
        refine asg rfl .no (.u rfl) ?_
        refine .nil ?_
        refine .code ?_
        refine .cond rfl (fun c8 => ?_) (fun c8 => ?_)
        · have c8k := c8
          try simp only [decide_eq_true_eq, decide_eq_false_iff_not, Int.not_lt, Int.not_le, gt_iff_lt, ge_iff_le, Bool.or_eq_true, Bool.and_eq_true, Bool.or_eq_false_iff, Bool.and_eq_false_iff, Bool.not_eq_true', Bool.not_eq_false', Int.toNat_natCast, bne_iff_ne, beq_iff_eq, bne_eq_false_iff_eq, beq_eq_false_iff_ne, ne_eq] at c8
          refine .exit ?_
          refine .xcode ?_
          refine .xnot rfl ?_
          refine .xcode ?_
          refine .xnot rfl ?_
          refine .xcode ?_
          refine .xnot rfl ?_
          refine .xcode ?_
          refine .xblk ?_
          refine .code ?_
          refine .seq ?_
          refine .seq ?_
          refine Wk.rg [0, 1, 2, 3, 4] rfl rfl ?_
          refine mv rfl .no (.u rfl) ?_
          refine nc rfl .no (.u rfl) ?_
          refine fz rfl .no Fx.fo81_3 (.u rfl) ?_
          refine ld rfl .no Fx.ag27 (.u rfl) (fun _ => Rd.own .here rdc_parts) ?_
          refine sn0 rfl .no Fx.sn27 (.u rfl) (.u rfl) ?_
          refine .nil ?_
          refine .code ?_
          refine .cond rfl (fun c9 => ?_) (fun c9 => ?_)
          · have c9k := c9
            try simp only [decide_eq_true_eq, decide_eq_false_iff_not, Int.not_lt, Int.not_le, gt_iff_lt, ge_iff_le, Bool.or_eq_true, Bool.and_eq_true, Bool.or_eq_false_iff, Bool.and_eq_false_iff, Bool.not_eq_true', Bool.not_eq_false', Int.toNat_natCast, bne_iff_ne, beq_iff_eq, bne_eq_false_iff_eq, beq_eq_false_iff_ne, ne_eq] at c9
            refine .seq ?_
            refine Wk.rg [0] rfl rfl ?_
            refine asg rfl .no (.u rfl) ?_
            refine .nil ?_
            refine .code ?_
            refine .ret ?_
            refine We.fin0 Tryd.results48 (.tmp rfl .nil) ?_
            exact .inl ⟨take_mid ((byte_eq (n := 3) (by decide)).1 c8) (.inl (eo.symm.trans c9)), rfl, rfl⟩
          · have c9k := c9
            try simp only [decide_eq_true_eq, decide_eq_false_iff_not, Int.not_lt, Int.not_le, gt_iff_lt, ge_iff_le, Bool.or_eq_true, Bool.and_eq_true, Bool.or_eq_false_iff, Bool.and_eq_false_iff, Bool.not_eq_true', Bool.not_eq_false', Int.toNat_natCast, bne_iff_ne, beq_iff_eq, bne_eq_false_iff_eq, beq_eq_false_iff_ne, ne_eq] at c9
            refine .skip ?_
            refine .code ?_
            refine .exit ?_
            refine .xnot rfl ?_
            refine .xcode ?_
            refine .xblk ?_
            refine .code ?_
            refine .seq ?_
            refine .seq ?_
            refine Wk.rg [0, 1, 2, 3, 4, 5, 6] rfl rfl ?_
            refine mv rfl .no (.u rfl) ?_
            refine nt rfl .no (.u rfl) ?_
            refine mv rfl .no (.u rfl) ?_
            refine mv rfl (.t rfl rfl) (.u rfl) ?_
            refine ln rfl (.t rfl rfl) Fx.sn27 (.s rfl) ?_
            refine cp rfl (.t rfl rfl) (.s rfl) (.u rfl) rfl ?_
            refine pkA rfl .no (.u rfl) (.s rfl) ?_
            refine .nil ?_
            refine .code ?_
            refine .cond rfl (fun c10 => ?_) (fun c10 => ?_)
            · have c10k := c10
              try simp only [decide_eq_true_eq, decide_eq_false_iff_not, Int.not_lt, Int.not_le, gt_iff_lt, ge_iff_le, Bool.or_eq_true, Bool.and_eq_true, Bool.or_eq_false_iff, Bool.and_eq_false_iff, Bool.not_eq_true', Bool.not_eq_false', Int.toNat_natCast, bne_iff_ne, beq_iff_eq, bne_eq_false_iff_eq, beq_eq_false_iff_ne, ne_eq] at c10
              refine .seq ?_
              refine Wk.rg [0] rfl rfl ?_
              refine asg rfl .no (.u rfl) ?_
              refine .nil ?_
              refine .code ?_
              refine .ret ?_
              refine We.fin0 Tryd.results48 (.tmp rfl .nil) ?_
              exact .inl ⟨take_mid ((byte_eq (n := 3) (by decide)).1 c8) (.inr (by omega)), rfl, rfl⟩
            · have c10k := c10
              try simp only [decide_eq_true_eq, decide_eq_false_iff_not, Int.not_lt, Int.not_le, gt_iff_lt, ge_iff_le, Bool.or_eq_true, Bool.and_eq_true, Bool.or_eq_false_iff, Bool.and_eq_false_iff, Bool.not_eq_true', Bool.not_eq_false', Int.toNat_natCast, bne_iff_ne, beq_iff_eq, bne_eq_false_iff_eq, beq_eq_false_iff_ne, ne_eq] at c10
              refine .skip ?_
              refine .code ?_
              refine .seq ?_
              refine Wk.rg [0, 1, 2, 3, 4, 5, 6, 7, 8, 9] rfl rfl ?_
              refine mv rfl .no (.u rfl) ?_
              refine nc rfl .no (.u rfl) ?_
              refine fz rfl .no Fx.fo81_3 (.u rfl) ?_
              refine ld rfl .no Fx.ag27 (.u rfl) (fun _ => Rd.own .here rdc_parts) ?_
              refine ln rfl .no Fx.sn27 (.u rfl) ?_
              refine mv rfl .no (.u rfl) ?_
              refine ln rfl .no Fx.sn27 (.u rfl) ?_
              refine arn (((parts.length + p.length) : Nat) : Int) rfl .no (.u rfl) (.u rfl) rfl (fun _ => by omega) (fun _ => wrap_i64 (by omega) (by omega)) ?_
              refine mkY ((parts.length + p.length)) ((parts.length + p.length)) rfl Fx.se27 Fx.zv5 (.u rfl) (.u rfl) (by first | rfl | omega) (by first | rfl | omega) (by omega) (by omega) ?_; intro b45
              have lR45 : (List.replicate ((parts.length + p.length)) (0#8 : Y)).length = (parts.length + p.length) := List.length_replicate
              refine asg rfl .no (.u rfl) ?_
              refine .nil ?_
              refine .code ?_
              refine .seq ?_
              refine Wk.rg [0, 1, 2, 3, 4, 5, 6, 7, 8, 9] rfl rfl ?_
              refine mv rfl .no (.u rfl) ?_
              refine mv rfl .no (.u rfl) ?_
              refine mv rfl .no (.u rfl) ?_
              refine nc rfl .no (.u rfl) ?_
              refine fz rfl .no Fx.fo81_3 (.u rfl) ?_
              refine ld rfl .no Fx.ag27 (.u rfl) (fun _ => Rd.own (.there .here) rdc_parts) ?_
              refine cpY rfl Fx.se27 (.u rfl) (.u rfl) .here hsq.sc (by omega) (by omega) ?_; intro L52 eL52 lL52
              refine slr (parts.length) rfl Fx.se27 (.u rfl) (.u rfl) (by omega) (by omega) (by omega) (by omega) ?_
              refine mv rfl .no (.u rfl) ?_
              refine cpY rfl Fx.se27 (.u rfl) (.u rfl) .here hs.sc (by omega) (by omega) ?_; intro L55 eL55 lL55
              refine .nil ?_
              have eL55' : L55 = parts ++ p := copy_two eL52 eL55 (by omega)
              refine .code ?_
              refine .seq ?_
              refine wk_fb .here (keys_k .here rfl (keys_k .here rfl (keys_0))) ?_; intro GfR45 hR45 hleR45 evR45 hsR45; try rw [ evR45]
              have hs := hs.mono hleR45
              have hsq := hsq.mono hleR45
              have hA := hA.mono hleR45
              have hsa := hsa.mono hleR45
              have hK := hK.mono hleR45
              refine Wk.rg [0, 1, 2, 3, 4] rfl rfl ?_
              refine mv rfl .no (.u rfl) ?_
              refine mv rfl .no (.u rfl) ?_
              refine nc rfl .no (.u rfl) ?_
              refine fz rfl .no Fx.fo81_3 (.u rfl) ?_
              refine s1 rfl (.u rfl) (.u rfl) rfl Fx.sz27 .here (by (try rw [rdc_len]); decide) (rds_parts) ?_
              refine .nil ?_
              refine .code ?_
              refine .seq ?_
              refine .seq ?_
              refine Wk.rg [0, 1] rfl rfl ?_
              refine mv rfl .no (.u rfl) ?_
              refine nt rfl .no (.u rfl) ?_
              refine .nil ?_
              refine .code ?_
              refine Wk.condT rfl rfl ?_
              refine .seq ?_
              refine Wk.rg [0] rfl rfl ?_
              refine asg rfl .no (.u rfl) ?_
              refine .nil ?_
              refine .code ?_
              refine .ret ?_
              refine We.fin Tryd.results48 (.tmp rfl .nil) (MSub.cons .here rfl (MSub.cons .here rfl MSub.nil)) ?_
              have q5 : ¬ ((p.length : Int) < 128) := by simpa using c10k
              exact .inr ⟨L55, ps, hR45, vr, by rw [take_go (.inr ⟨(byte_eq (n := 3) (by decide)).1 c8, eo.symm.trans c9⟩) (by omega), eL55'], rfl, rfl, hsR45, fun e => ne_emp hp0 (eL55'.symm.trans e), hA, by omega, by omega⟩
        · have c8k := c8
          try simp only [decide_eq_true_eq, decide_eq_false_iff_not, Int.not_lt, Int.not_le, gt_iff_lt, ge_iff_le, Bool.or_eq_true, Bool.and_eq_true, Bool.or_eq_false_iff, Bool.and_eq_false_iff, Bool.not_eq_true', Bool.not_eq_false', Int.toNat_natCast, bne_iff_ne, beq_iff_eq, bne_eq_false_iff_eq, beq_eq_false_iff_ne, ne_eq] at c8
          refine .skip ?_
          refine .code ?_
          refine .exit ?_
          refine .xnot rfl ?_
          refine .xcode ?_
          refine .xnot rfl ?_
          refine .xcode ?_
          refine .xnot rfl ?_
          refine .xcode ?_
          refine .xnot rfl ?_
          refine .xcode ?_
          refine .xblk ?_
          refine .code ?_
          refine .seq ?_
          refine .seq ?_
          refine Wk.rg [0] rfl rfl ?_
          refine asg rfl .no (.u rfl) ?_
          refine .nil ?_
          refine .code ?_
          refine .ret ?_
          refine We.fin0 Tryd.results48 (.tmp rfl .nil) ?_
          exact .inl ⟨take_other (fun e => c1 ((byte_eq (n := 1) (by decide)).2 e)) (fun e => c3 ((byte_eq (n := 2) (by decide)).2 e)) (fun e => c8 ((byte_eq (n := 3) (by decide)).2 e)) (fun e => c6 ((byte_eq (n := 4) (by decide)).2 e)), rfl, rfl⟩

theorem take_no (root : Nat → Y) (h : Hd) (kind : Y) (p : List Y) (hp : Sh) (parts : List Y) (sp : Sh) (ps : List (Sh × List Y)) (vr : Value) (ha : Sh) (b : Nat) (used : Int) (G : PM) (hs : SlR G 1 encY hp p) (hsq : SlR G 1 encY sp parts) (h0 : parts = [] → sp = ⟨none, 0⟩) (hA : AllS G ps) (hsa : SlR G 1 encY ha (headL h)) (hK : RdNP G 1 0 (wa 64 kW)) (hp0 : 0 < p.length) (hl : parts.length + p.length ≤ 10000000000000) (hn : ps.length ≤ 100000000) (hq : takeS (openAt root h) parts (ps.map (·.2)) kind p = none) : Ct Tryd.prog 48 ([.pointer (some ⟨b, 0, none⟩), V kind, hp.val p.length] : List Value).toArray G [.blk b (cl (rdC (keyEnc root (headL h)) (keyMac root (headL h)) (ha.val (headL h).length) h vr used false (sp.val parts.length)) 81), rS 1 encP vr 27 ps] (fun _ μ' u => u = .bool false ∧ μ' = []) :=
  (take_ok root h kind p hp parts sp ps vr ha b used G hs hsq h0 hA hsa hK hp0 hl hn).mono fun G' μ' u hh => by
    rcases hh with ⟨_, h1, h2⟩ | ⟨Q, ps', sQ, vr', h1, _⟩
    · exact ⟨h1, h2⟩
    · rw [hq] at h1; cases h1
theorem take_yes (root : Nat → Y) (h : Hd) (kind : Y) (p : List Y) (hp : Sh) (parts : List Y) (sp : Sh) (ps : List (Sh × List Y)) (vr : Value) (ha : Sh) (b : Nat) (used : Int) (G : PM) (hs : SlR G 1 encY hp p) (hsq : SlR G 1 encY sp parts) (h0 : parts = [] → sp = ⟨none, 0⟩) (hA : AllS G ps) (hsa : SlR G 1 encY ha (headL h)) (hK : RdNP G 1 0 (wa 64 kW)) (hp0 : 0 < p.length) (hl : parts.length + p.length ≤ 10000000000000) (hn : ps.length ≤ 100000000) {Q : List Y} {R : List (List Y)} (hq : takeS (openAt root h) parts (ps.map (·.2)) kind p = some (Q, R)) : Ct Tryd.prog 48 ([.pointer (some ⟨b, 0, none⟩), V kind, hp.val p.length] : List Value).toArray G [.blk b (cl (rdC (keyEnc root (headL h)) (keyMac root (headL h)) (ha.val (headL h).length) h vr used false (sp.val parts.length)) 81), rS 1 encP vr 27 ps]
    (fun G' μ' u => ∃ ps' sQ vr', R = ps'.map (·.2) ∧ u = .bool true ∧ μ' = [.blk b (cl (rdC (keyEnc root (headL h)) (keyMac root (headL h)) (ha.val (headL h).length) h vr' used false (sQ.val Q.length)) 81), rS 1 encP vr' 27 ps'] ∧ SlR G' 1 encY sQ Q ∧ (Q = [] → sQ = ⟨none, 0⟩) ∧ AllS G' ps' ∧ ps'.length ≤ ps.length + 1 ∧ Q.length ≤ parts.length + p.length) :=
  (take_ok root h kind p hp parts sp ps vr ha b used G hs hsq h0 hA hsa hK hp0 hl hn).mono fun G' μ' u hh => by
    rcases hh with ⟨h1, _⟩ | ⟨Q', ps', sQ, vr', h1, h2, h3, h4, h5, h6, h7, h8⟩
    · rw [hq] at h1; cases h1
    · rw [hq] at h1
      simp only [Option.some.injEq, Prod.mk.injEq] at h1
      obtain ⟨rfl, rfl⟩ := h1
      exact ⟨ps', sQ, vr', rfl, h2, h3, h4, h5, h6, h7, h8⟩
end Go.Proofs.YtoogjfldgeiapaaDoor
