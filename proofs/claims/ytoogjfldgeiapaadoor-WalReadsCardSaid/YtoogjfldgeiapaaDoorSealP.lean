/- Contracts of functions, walked. -/
import Derived.Test.YtoogjfldgeiapaaDoorSealA
import Derived.Test.YtoogjfldgeiapaaDoorRows
import Derived.KernelRfl
namespace Go.Proofs.YtoogjfldgeiapaaDoor
set_option linter.unusedSimpArgs false
set_option linter.unusedVariables false
open Go.Tan Go.RowKit

namespace Fx
theorem cv3_64 : cvK Tryd.prog 3 64 = some .u64 := by kernel_rfl
theorem go80 : goFn Tryd.prog 80 = true := by kernel_rfl
theorem mix : Tryd.prog.follows .mixedOrders = true := by kernel_rfl
theorem zr107 : zrL Tryd.prog 107 = some ([.int .u32 0, .int .u32 0, .int .u32 0, .int .u32 0, .int .u32 0, .int .u32 0, .int .u32 0, .int .u32 0, .int .u32 0, .int .u32 0, .int .u32 0, .int .u32 0, .int .u32 0, .int .u32 0, .int .u32 0, .int .u32 0]) := by kernel_rfl
theorem ar107 : arE Tryd.prog 107 = some (16, 69, 1) := by kernel_rfl
theorem ag69 : aggN Tryd.prog 69 = some none := by kernel_rfl
theorem sz69 : szT Tryd.prog 69 = some 1 := by kernel_rfl
theorem go86 : goFn Tryd.prog 86 = true := by kernel_rfl
theorem ag107 : aggN Tryd.prog 107 = some (some 16) := by kernel_rfl
theorem sz107 : szT Tryd.prog 107 = some 16 := by kernel_rfl
theorem se27 : slE Tryd.prog 27 = some (5, 1, 1) := by kernel_rfl
theorem ag5 : aggN Tryd.prog 5 = some none := by kernel_rfl
theorem cv5_69 : cvK Tryd.prog 5 69 = some .u32 := by kernel_rfl
end Fx
theorem rot_ok (x : W) (k : Int) (G : PM) : Ct Tryd.prog 80 ([U x, .int .i64 k] : List Value).toArray G [] (fun _ μ' u => μ' = [] ∧ u = U (rotI x k)) := by
  refine Ct.of Tryd.func80 rfl Tryd.ntmps80 rfl fun w0 hs0 => ?_
  refine .seq ?_
  refine Wk.rg [0] rfl rfl ?_
  refine asg rfl .no (.u rfl) ?_
  refine .nil ?_
  refine .code ?_
  refine .seq ?_
  refine Wk.rg [0, 1, 2, 3] rfl rfl ?_
  refine mv rfl .no (.u rfl) ?_
  refine ci rfl .no rfl Fx.cv3_64 (.u rfl) ?_
  refine bw (k := .u64) (b := 31#64) rfl .no rfl (.u rfl) (.u rfl) rfl ?_
  refine asg rfl .no (.u rfl) ?_
  refine .nil ?_
  refine .code ?_
  refine .seq ?_
  refine Wk.rg [0, 1, 2, 3, 4, 5, 6, 7, 8] rfl rfl ?_
  refine mv rfl .no (.u rfl) ?_
  refine mv rfl .no (.u rfl) ?_
  refine lw (k := .u32) rfl .no rfl (.u rfl) (.u rfl) (fun _ => Int.natCast_nonneg _) ?_
  refine mv rfl .no (.u rfl) ?_
  refine mv rfl .no (.u rfl) ?_
  refine bw (k := .u64) (a := 32#64) rfl .no rfl (.u rfl) (.u rfl) rfl ?_
  refine rw' (k := .u32) rfl .no (.u rfl) (.u rfl) (fun _ => Int.natCast_nonneg _) ?_
  refine bw (k := .u32) rfl .no rfl (.u rfl) (.u rfl) rfl ?_
  refine asg rfl .no (.u rfl) ?_
  refine .nil ?_
  refine .code ?_
  refine .ret ?_
  refine We.fin0 Tryd.results80 (.tmp rfl .nil) ?_
  exact ⟨rfl, rfl⟩

theorem mix_ok (a b c d : W) (G : PM) : Ct Tryd.prog 71 ([U a, U b, U c, U d] : List Value).toArray G [] (fun _ μ' u => μ' = [] ∧ u = mixV (mixW a b c d)) := by
  refine Ct.of Tryd.func71 rfl Tryd.ntmps71 rfl fun w0 hs0 => ?_
  refine .seq ?_
  refine Wk.rg [0, 1, 2, 3] rfl rfl ?_
  refine asg rfl .no (.u rfl) ?_
  refine asg rfl .no (.u rfl) ?_
  refine asg rfl .no (.u rfl) ?_
  refine asg rfl .no (.u rfl) ?_
  refine .nil ?_
  refine .code ?_
  refine .seq ?_
  refine Wk.rg [0, 1, 2, 3] rfl rfl ?_
  refine mv rfl .no (.u rfl) ?_
  refine mv rfl .no (.u rfl) ?_
  refine bw (k := .u32) rfl .no rfl (.u rfl) (.u rfl) rfl ?_
  refine asg rfl .no (.u rfl) ?_
  refine .nil ?_
  refine .code ?_
  refine .seq ?_
  refine Wk.rg [0, 1, 2, 3, 4] rfl rfl ?_
  refine mv rfl .no (.u rfl) ?_
  refine mv rfl .no (.u rfl) ?_
  refine bw (k := .u32) rfl .no rfl (.u rfl) (.u rfl) rfl ?_
  refine kv rfl .no Fx.go80 (Eva.cons (.u rfl) (Eva.cons (.u rfl) Eva.nil)) (fun _ => rot_ok _ _ _) ?_
  refine asg rfl .no (.u rfl) ?_
  refine .nil ?_
  refine .code ?_
  refine .seq ?_
  refine Wk.rg [0, 1, 2, 3] rfl rfl ?_
  refine mv rfl .no (.u rfl) ?_
  refine mv rfl .no (.u rfl) ?_
  refine bw (k := .u32) rfl .no rfl (.u rfl) (.u rfl) rfl ?_
  refine asg rfl .no (.u rfl) ?_
  refine .nil ?_
  refine .code ?_
  refine .seq ?_
  refine Wk.rg [0, 1, 2, 3, 4] rfl rfl ?_
  refine mv rfl .no (.u rfl) ?_
  refine mv rfl .no (.u rfl) ?_
  refine bw (k := .u32) rfl .no rfl (.u rfl) (.u rfl) rfl ?_
  refine kv rfl .no Fx.go80 (Eva.cons (.u rfl) (Eva.cons (.u rfl) Eva.nil)) (fun _ => rot_ok _ _ _) ?_
  refine asg rfl .no (.u rfl) ?_
  refine .nil ?_
  refine .code ?_
  refine .seq ?_
  refine Wk.rg [0, 1, 2, 3] rfl rfl ?_
  refine mv rfl .no (.u rfl) ?_
  refine mv rfl .no (.u rfl) ?_
  refine bw (k := .u32) rfl .no rfl (.u rfl) (.u rfl) rfl ?_
  refine asg rfl .no (.u rfl) ?_
  refine .nil ?_
  refine .code ?_
  refine .seq ?_
  refine Wk.rg [0, 1, 2, 3, 4] rfl rfl ?_
  refine mv rfl .no (.u rfl) ?_
  refine mv rfl .no (.u rfl) ?_
  refine bw (k := .u32) rfl .no rfl (.u rfl) (.u rfl) rfl ?_
  refine kv rfl .no Fx.go80 (Eva.cons (.u rfl) (Eva.cons (.u rfl) Eva.nil)) (fun _ => rot_ok _ _ _) ?_
  refine asg rfl .no (.u rfl) ?_
  refine .nil ?_
  refine .code ?_
  refine .seq ?_
  refine Wk.rg [0, 1, 2, 3] rfl rfl ?_
  refine mv rfl .no (.u rfl) ?_
  refine mv rfl .no (.u rfl) ?_
  refine bw (k := .u32) rfl .no rfl (.u rfl) (.u rfl) rfl ?_
  refine asg rfl .no (.u rfl) ?_
  refine .nil ?_
  refine .code ?_
  refine .seq ?_
  refine Wk.rg [0, 1, 2, 3, 4] rfl rfl ?_
  refine mv rfl .no (.u rfl) ?_
  refine mv rfl .no (.u rfl) ?_
  refine bw (k := .u32) rfl .no rfl (.u rfl) (.u rfl) rfl ?_
  refine kv rfl .no Fx.go80 (Eva.cons (.u rfl) (Eva.cons (.u rfl) Eva.nil)) (fun _ => rot_ok _ _ _) ?_
  refine asg rfl .no (.u rfl) ?_
  refine .nil ?_
  refine .code ?_
  refine .seq ?_
  refine Wk.rg [0, 1, 2, 3, 4, 5, 6, 7] rfl rfl ?_
  refine mv rfl .no (.u rfl) ?_
  refine mv rfl .no (.u rfl) ?_
  refine mv rfl .no (.u rfl) ?_
  refine mv rfl .no (.u rfl) ?_
  refine asg rfl .no (.u rfl) ?_
  refine asg rfl .no (.u rfl) ?_
  refine asg rfl .no (.u rfl) ?_
  refine asg rfl .no (.u rfl) ?_
  refine .nil ?_
  refine .code ?_
  refine .ret ?_
  refine We.fin0 Tryd.results71 (.tmp rfl (.tmp rfl (.tmp rfl (.tmp rfl .nil)))) ?_
  exact ⟨rfl, rfl⟩

theorem turn_ok (x : W) (k : Nat) (G : PM) (hk : k ≤ 32) : Ct Tryd.prog 86 ([U x, .int .i64 (k : Int)] : List Value).toArray G [] (fun _ μ' u => μ' = [] ∧ u = U (rotl x k)) := by
  refine Ct.of Tryd.func86 rfl Tryd.ntmps86 rfl fun w0 hs0 => ?_
  refine .seq ?_
  refine Wk.rg [0] rfl rfl ?_
  refine asg rfl .no (.u rfl) ?_
  refine .nil ?_
  refine .code ?_
  refine .seq ?_
  refine Wk.draw (mc := ⟨false, false⟩) [0, 1, 2, 3, 4, 5, 6, 7, 8] Fx.mix (by kernel_rfl) ?_
  refine mv rfl .no (.u rfl) ?_
  refine mv rfl .no (.u rfl) ?_
  refine lw (k := .u32) rfl .no rfl (.u rfl) (.u rfl) (fun _ => by omega) ?_
  refine mv rfl .no (.u rfl) ?_
  refine mv rfl .no (.u rfl) ?_
  refine ar rfl .no (.u rfl) (.u rfl) rfl (fun _ => wrap_i64 (by omega) (by omega)) ?_
  refine rw' (k := .u32) rfl .no (.u rfl) (.u rfl) (fun _ => by omega) ?_
  refine bw (k := .u32) rfl .no rfl (.u rfl) (.u rfl) rfl ?_
  refine asg rfl .no (.u rfl) ?_
  refine .nil ?_
  refine .code ?_
  refine .ret ?_
  refine We.fin0 Tryd.results86 (.tmp rfl .nil) ?_
  exact ⟨rfl, turn_fin x hk⟩

theorem quarter_ok (y : Nat → W) (a b c d : Nat) (ia ib ic id : Int) (G : PM) (ea : ia = (a : Int)) (eb0 : ib = (b : Int)) (ec : ic = (c : Int)) (ed : id = (d : Int)) (ha : a < 16) (hb : b < 16) (hc0 : c < 16) (hd : d < 16) : Ct Tryd.prog 75 ([.agg (wa 16 y).toArray, .int .i64 ia, .int .i64 ib, .int .i64 ic, .int .i64 id] : List Value).toArray G [] (fun _ μ' u => μ' = [] ∧ u = .agg (wa 16 (quarterW y a b c d)).toArray) := by
  refine Ct.of Tryd.func75 rfl Tryd.ntmps75 rfl fun w0 hs0 => ?_
  refine .seq ?_
  refine Wk.rg [0, 1] rfl rfl ?_
  refine bx rfl (.u rfl) rfl ?_; intro b5
  refine al rfl Fx.zr107 ?_; intro b10
  refine .nil ?_
  refine .code ?_
  refine .seq ?_
  refine Wk.draw (mc := ⟨false, false⟩) [0, 1, 2, 3, 4, 5, 6, 7, 8, 9] Fx.mix (by kernel_rfl) ?_
  refine mv rfl .no (.u rfl) ?_
  refine mv rfl .no (.u rfl) ?_
  refine iA rfl .no Fx.ar107 (.u rfl) (.u rfl) (fun _ => by omega) (fun _ => by omega) ?_
  refine ld rfl .no Fx.ag69 (.u rfl) (fun _ => Rd.own (.there .here) (wa_at1 a (by omega) (by omega))) ?_
  refine mv rfl .no (.u rfl) ?_
  refine iA rfl .no Fx.ar107 (.u rfl) (.u rfl) (fun _ => by omega) (fun _ => by omega) ?_
  refine ld rfl .no Fx.ag69 (.u rfl) (fun _ => Rd.own (.there .here) (wa_at1 b (by omega) (by omega))) ?_
  refine bw (k := .u32) rfl .no rfl (.u rfl) (.u rfl) rfl ?_
  refine iA rfl .no Fx.ar107 (.u rfl) (.u rfl) (fun _ => by omega) (fun _ => by omega) ?_
  refine s1 rfl (.u rfl) (.u rfl) rfl Fx.sz69 (.there .here) (by rw [wa_len]; omega) (wa_set1 a (by omega)) ?_
  refine .nil ?_
  refine .code ?_
  refine .seq ?_
  refine Wk.draw (mc := ⟨false, false⟩) [0, 1, 2, 3, 4, 5, 6, 7, 8, 9, 10] Fx.mix (by kernel_rfl) ?_
  refine mv rfl .no (.u rfl) ?_
  refine mv rfl .no (.u rfl) ?_
  refine iA rfl .no Fx.ar107 (.u rfl) (.u rfl) (fun _ => by omega) (fun _ => by omega) ?_
  refine ld rfl .no Fx.ag69 (.u rfl) (fun _ => Rd.own .here (wa_at1 d (by omega) (by omega))) ?_
  refine mv rfl .no (.u rfl) ?_
  refine iA rfl .no Fx.ar107 (.u rfl) (.u rfl) (fun _ => by omega) (fun _ => by omega) ?_
  refine ld rfl .no Fx.ag69 (.u rfl) (fun _ => Rd.own .here (wa_at1 a (by omega) (by omega))) ?_
  refine bw (k := .u32) rfl .no rfl (.u rfl) (.u rfl) rfl ?_
  refine kv rfl .no Fx.go86 (Eva.cons (.u rfl) (Eva.cons (.u rfl) Eva.nil)) (fun _ => turn_ok _ 16 _ (by decide)) ?_
  refine iA rfl .no Fx.ar107 (.u rfl) (.u rfl) (fun _ => by omega) (fun _ => by omega) ?_
  refine s1 rfl (.u rfl) (.u rfl) rfl Fx.sz69 .here (by rw [wa_len]; omega) (wa_set1 d (by omega)) ?_
  refine .nil ?_
  refine .code ?_
  refine .seq ?_
  refine Wk.draw (mc := ⟨false, false⟩) [0, 1, 2, 3, 4, 5, 6, 7, 8, 9] Fx.mix (by kernel_rfl) ?_
  refine mv rfl .no (.u rfl) ?_
  refine mv rfl .no (.u rfl) ?_
  refine iA rfl .no Fx.ar107 (.u rfl) (.u rfl) (fun _ => by omega) (fun _ => by omega) ?_
  refine ld rfl .no Fx.ag69 (.u rfl) (fun _ => Rd.own .here (wa_at1 c (by omega) (by omega))) ?_
  refine mv rfl .no (.u rfl) ?_
  refine iA rfl .no Fx.ar107 (.u rfl) (.u rfl) (fun _ => by omega) (fun _ => by omega) ?_
  refine ld rfl .no Fx.ag69 (.u rfl) (fun _ => Rd.own .here (wa_at1 d (by omega) (by omega))) ?_
  refine bw (k := .u32) rfl .no rfl (.u rfl) (.u rfl) rfl ?_
  refine iA rfl .no Fx.ar107 (.u rfl) (.u rfl) (fun _ => by omega) (fun _ => by omega) ?_
  refine s1 rfl (.u rfl) (.u rfl) rfl Fx.sz69 .here (by rw [wa_len]; omega) (wa_set1 c (by omega)) ?_
  refine .nil ?_
  refine .code ?_
  refine .seq ?_
  refine Wk.draw (mc := ⟨false, false⟩) [0, 1, 2, 3, 4, 5, 6, 7, 8, 9, 10] Fx.mix (by kernel_rfl) ?_
  refine mv rfl .no (.u rfl) ?_
  refine mv rfl .no (.u rfl) ?_
  refine iA rfl .no Fx.ar107 (.u rfl) (.u rfl) (fun _ => by omega) (fun _ => by omega) ?_
  refine ld rfl .no Fx.ag69 (.u rfl) (fun _ => Rd.own .here (wa_at1 b (by omega) (by omega))) ?_
  refine mv rfl .no (.u rfl) ?_
  refine iA rfl .no Fx.ar107 (.u rfl) (.u rfl) (fun _ => by omega) (fun _ => by omega) ?_
  refine ld rfl .no Fx.ag69 (.u rfl) (fun _ => Rd.own .here (wa_at1 c (by omega) (by omega))) ?_
  refine bw (k := .u32) rfl .no rfl (.u rfl) (.u rfl) rfl ?_
  refine kv rfl .no Fx.go86 (Eva.cons (.u rfl) (Eva.cons (.u rfl) Eva.nil)) (fun _ => turn_ok _ 12 _ (by decide)) ?_
  refine iA rfl .no Fx.ar107 (.u rfl) (.u rfl) (fun _ => by omega) (fun _ => by omega) ?_
  refine s1 rfl (.u rfl) (.u rfl) rfl Fx.sz69 .here (by rw [wa_len]; omega) (wa_set1 b (by omega)) ?_
  refine .nil ?_
  refine .code ?_
  refine .seq ?_
  refine Wk.draw (mc := ⟨false, false⟩) [0, 1, 2, 3, 4, 5, 6, 7, 8, 9] Fx.mix (by kernel_rfl) ?_
  refine mv rfl .no (.u rfl) ?_
  refine mv rfl .no (.u rfl) ?_
  refine iA rfl .no Fx.ar107 (.u rfl) (.u rfl) (fun _ => by omega) (fun _ => by omega) ?_
  refine ld rfl .no Fx.ag69 (.u rfl) (fun _ => Rd.own .here (wa_at1 a (by omega) (by omega))) ?_
  refine mv rfl .no (.u rfl) ?_
  refine iA rfl .no Fx.ar107 (.u rfl) (.u rfl) (fun _ => by omega) (fun _ => by omega) ?_
  refine ld rfl .no Fx.ag69 (.u rfl) (fun _ => Rd.own .here (wa_at1 b (by omega) (by omega))) ?_
  refine bw (k := .u32) rfl .no rfl (.u rfl) (.u rfl) rfl ?_
  refine iA rfl .no Fx.ar107 (.u rfl) (.u rfl) (fun _ => by omega) (fun _ => by omega) ?_
  refine s1 rfl (.u rfl) (.u rfl) rfl Fx.sz69 .here (by rw [wa_len]; omega) (wa_set1 a (by omega)) ?_
  refine .nil ?_
  refine .code ?_
  refine .seq ?_
  refine Wk.draw (mc := ⟨false, false⟩) [0, 1, 2, 3, 4, 5, 6, 7, 8, 9, 10] Fx.mix (by kernel_rfl) ?_
  refine mv rfl .no (.u rfl) ?_
  refine mv rfl .no (.u rfl) ?_
  refine iA rfl .no Fx.ar107 (.u rfl) (.u rfl) (fun _ => by omega) (fun _ => by omega) ?_
  refine ld rfl .no Fx.ag69 (.u rfl) (fun _ => Rd.own .here (wa_at1 d (by omega) (by omega))) ?_
  refine mv rfl .no (.u rfl) ?_
  refine iA rfl .no Fx.ar107 (.u rfl) (.u rfl) (fun _ => by omega) (fun _ => by omega) ?_
  refine ld rfl .no Fx.ag69 (.u rfl) (fun _ => Rd.own .here (wa_at1 a (by omega) (by omega))) ?_
  refine bw (k := .u32) rfl .no rfl (.u rfl) (.u rfl) rfl ?_
  refine kv rfl .no Fx.go86 (Eva.cons (.u rfl) (Eva.cons (.u rfl) Eva.nil)) (fun _ => turn_ok _ 8 _ (by decide)) ?_
  refine iA rfl .no Fx.ar107 (.u rfl) (.u rfl) (fun _ => by omega) (fun _ => by omega) ?_
  refine s1 rfl (.u rfl) (.u rfl) rfl Fx.sz69 .here (by rw [wa_len]; omega) (wa_set1 d (by omega)) ?_
  refine .nil ?_
  refine .code ?_
  refine .seq ?_
  refine Wk.draw (mc := ⟨false, false⟩) [0, 1, 2, 3, 4, 5, 6, 7, 8, 9] Fx.mix (by kernel_rfl) ?_
  refine mv rfl .no (.u rfl) ?_
  refine mv rfl .no (.u rfl) ?_
  refine iA rfl .no Fx.ar107 (.u rfl) (.u rfl) (fun _ => by omega) (fun _ => by omega) ?_
  refine ld rfl .no Fx.ag69 (.u rfl) (fun _ => Rd.own .here (wa_at1 c (by omega) (by omega))) ?_
  refine mv rfl .no (.u rfl) ?_
  refine iA rfl .no Fx.ar107 (.u rfl) (.u rfl) (fun _ => by omega) (fun _ => by omega) ?_
  refine ld rfl .no Fx.ag69 (.u rfl) (fun _ => Rd.own .here (wa_at1 d (by omega) (by omega))) ?_
  refine bw (k := .u32) rfl .no rfl (.u rfl) (.u rfl) rfl ?_
  refine iA rfl .no Fx.ar107 (.u rfl) (.u rfl) (fun _ => by omega) (fun _ => by omega) ?_
  refine s1 rfl (.u rfl) (.u rfl) rfl Fx.sz69 .here (by rw [wa_len]; omega) (wa_set1 c (by omega)) ?_
  refine .nil ?_
  refine .code ?_
  refine .seq ?_
  refine Wk.draw (mc := ⟨false, false⟩) [0, 1, 2, 3, 4, 5, 6, 7, 8, 9, 10] Fx.mix (by kernel_rfl) ?_
  refine mv rfl .no (.u rfl) ?_
  refine mv rfl .no (.u rfl) ?_
  refine iA rfl .no Fx.ar107 (.u rfl) (.u rfl) (fun _ => by omega) (fun _ => by omega) ?_
  refine ld rfl .no Fx.ag69 (.u rfl) (fun _ => Rd.own .here (wa_at1 b (by omega) (by omega))) ?_
  refine mv rfl .no (.u rfl) ?_
  refine iA rfl .no Fx.ar107 (.u rfl) (.u rfl) (fun _ => by omega) (fun _ => by omega) ?_
  refine ld rfl .no Fx.ag69 (.u rfl) (fun _ => Rd.own .here (wa_at1 c (by omega) (by omega))) ?_
  refine bw (k := .u32) rfl .no rfl (.u rfl) (.u rfl) rfl ?_
  refine kv rfl .no Fx.go86 (Eva.cons (.u rfl) (Eva.cons (.u rfl) Eva.nil)) (fun _ => turn_ok _ 7 _ (by decide)) ?_
  refine iA rfl .no Fx.ar107 (.u rfl) (.u rfl) (fun _ => by omega) (fun _ => by omega) ?_
  refine s1 rfl (.u rfl) (.u rfl) rfl Fx.sz69 .here (by rw [wa_len]; omega) (wa_set1 b (by omega)) ?_
  refine .nil ?_
  refine .code ?_
  refine .seq ?_
  refine Wk.rg [0, 1] rfl rfl ?_
  refine lA rfl .no Fx.ag107 (.u rfl) (fun _ => RdN.own .here) (fun _ => rfl) ?_
  refine sw rfl (.u rfl) (.u rfl) rfl Fx.sz107 (.there .here) rfl (wa_one _ _) ?_
  refine .nil ?_
  refine .code ?_
  refine .ret ?_
  refine We.fin0 Tryd.results75 (.cell rfl (fun w hw => run_loadVarN Fx.ag107 (RdN.own .here) rfl hw) .nil) ?_
  exact ⟨rfl, rfl⟩

theorem word_ok (h : Sh) (xs : List Y) (j : Int) (k : Nat) (G : PM) (hs : SlR G 1 encY h xs) (hj : j = (k : Int)) (hk : k + 3 < xs.length) (hl : xs.length ≤ 140737488351232) : Ct Tryd.prog 74 ([h.val xs.length, .int .i64 j] : List Value).toArray G [] (fun _ μ' u => μ' = [] ∧ u = U (wordW (fun i => xs.getD i 0) k)) := by
  refine Ct.of Tryd.func74 rfl Tryd.ntmps74 rfl fun w0 hs0 => ?_
  refine .seq ?_
  refine Wk.rg [0] rfl rfl ?_
  refine asg rfl .no (.u rfl) ?_
  refine .nil ?_
  refine .code ?_
  refine .seq ?_
  refine Wk.draw (mc := ⟨false, false⟩) [0, 1, 2, 3, 4, 5, 6, 7, 8, 9, 10, 11, 12, 13, 14, 15, 16, 17, 18, 19, 20, 21, 22, 23, 24, 25, 26, 27, 28, 29] Fx.mix (by kernel_rfl) ?_
  refine mv rfl .no (.u rfl) ?_
  refine mv rfl .no (.u rfl) ?_
  refine ih rfl .no Fx.se27 (.u rfl) (.u rfl) (fun _ => by omega) (fun _ => by omega) (fun _ => hs.nn (k := k) (by omega)) ?_
  refine ld rfl .no Fx.ag5 (.u rfl) (fun _ => (hs.yat (k) (by omega) (by omega)).rd) ?_
  refine cu (k := .u8) rfl .no rfl Fx.cv5_69 (.u rfl) ?_
  refine mv rfl .no (.u rfl) ?_
  refine mv rfl .no (.u rfl) ?_
  refine ar rfl .no (.u rfl) (.u rfl) rfl (fun _ => wrap_i64 (by omega) (by omega)) ?_
  refine ih rfl .no Fx.se27 (.u rfl) (.u rfl) (fun _ => by omega) (fun _ => by omega) (fun _ => hs.nn (k := k + 1) (by omega)) ?_
  refine ld rfl .no Fx.ag5 (.u rfl) (fun _ => (hs.yat (k + 1) (by omega) (by omega)).rd) ?_
  refine cu (k := .u8) rfl .no rfl Fx.cv5_69 (.u rfl) ?_
  refine bw (k := .u32) (b := 256#32) rfl .no rfl (.u rfl) (.u rfl) rfl ?_
  refine bw (k := .u32) rfl .no rfl (.u rfl) (.u rfl) rfl ?_
  refine mv rfl .no (.u rfl) ?_
  refine mv rfl .no (.u rfl) ?_
  refine ar rfl .no (.u rfl) (.u rfl) rfl (fun _ => wrap_i64 (by omega) (by omega)) ?_
  refine ih rfl .no Fx.se27 (.u rfl) (.u rfl) (fun _ => by omega) (fun _ => by omega) (fun _ => hs.nn (k := k + 2) (by omega)) ?_
  refine ld rfl .no Fx.ag5 (.u rfl) (fun _ => (hs.yat (k + 2) (by omega) (by omega)).rd) ?_
  refine cu (k := .u8) rfl .no rfl Fx.cv5_69 (.u rfl) ?_
  refine bw (k := .u32) (b := 65536#32) rfl .no rfl (.u rfl) (.u rfl) rfl ?_
  refine bw (k := .u32) rfl .no rfl (.u rfl) (.u rfl) rfl ?_
  refine mv rfl .no (.u rfl) ?_
  refine mv rfl .no (.u rfl) ?_
  refine ar rfl .no (.u rfl) (.u rfl) rfl (fun _ => wrap_i64 (by omega) (by omega)) ?_
  refine ih rfl .no Fx.se27 (.u rfl) (.u rfl) (fun _ => by omega) (fun _ => by omega) (fun _ => hs.nn (k := k + 3) (by omega)) ?_
  refine ld rfl .no Fx.ag5 (.u rfl) (fun _ => (hs.yat (k + 3) (by omega) (by omega)).rd) ?_
  refine cu (k := .u8) rfl .no rfl Fx.cv5_69 (.u rfl) ?_
  refine bw (k := .u32) (b := 16777216#32) rfl .no rfl (.u rfl) (.u rfl) rfl ?_
  refine bw (k := .u32) rfl .no rfl (.u rfl) (.u rfl) rfl ?_
  refine asg rfl .no (.u rfl) ?_
  refine .nil ?_
  refine .code ?_
  refine .ret ?_
  refine We.fin0 Tryd.results74 (.tmp rfl .nil) ?_
  exact ⟨rfl, rfl⟩

end Go.Proofs.YtoogjfldgeiapaaDoor
