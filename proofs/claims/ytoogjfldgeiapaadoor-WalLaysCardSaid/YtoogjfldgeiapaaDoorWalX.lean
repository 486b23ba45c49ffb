/- Contracts of functions, walked. -/
import Derived.Test.YtoogjfldgeiapaaDoorWalW
namespace Go.Proofs.YtoogjfldgeiapaaDoor
open Go.Tan Go.RowKit

namespace Fx
theorem go22 : goFn Tryd.prog 22 = true := by kernel_rfl
theorem fo47_0 : fOff Tryd.prog 47 0 = some 0 := by kernel_rfl
theorem fo47_1 : fOff Tryd.prog 47 1 = some 32 := by kernel_rfl
theorem go24 : goFn Tryd.prog 24 = true := by kernel_rfl
end Fx
theorem WalLays_ok (root : Nat → Y) (h : Hd) (n : BitVec 64) (p : List Y) (hp : Sh) (G : PM) (hs : SlR G 1 encY hp p) (hK : RdNP G 1 0 (wa 64 kW)) (hR : RdNP G 0 0 (wa 64 kW)) : Ct Tryd.prog 9 ([.agg (ba 32 root ++ [V h.kind, V h.level, uv .u64 h.gen, uv .u64 h.epoch, uv .u64 h.num]).toArray, uv .u64 n, hp.val p.length] : List Value).toArray G [] (fun _ μ' u => μ' = [] ∧ u = .bool true) := by
  refine Ct.of Tryd.func9 rfl Tryd.ntmps9 rfl fun w0 hs0 => ?_
  refine .seq ?_
  refine Wk.rg [0, 1] rfl rfl ?_
  refine bx rfl (.u rfl) rfl ?_; intro b3
  refine asg rfl .no (.u rfl) ?_
  refine .nil ?_
  refine .code ?_
  refine .seq ?_
  refine Wk.rg [0, 1] rfl rfl ?_
  refine kv rfl .no Fx.go22 Eva.nil (fun _ => shown16_ok _ hK) ?_
  refine asg rfl .no (.u rfl) ?_
  refine .nil ?_
  refine .code ?_
  refine .seq ?_
  refine Wk.rg [0, 1, 2, 3, 4, 5, 6, 7, 8, 9, 10, 11] rfl rfl ?_
  refine fz rfl .no Fx.fo47_0 (.u rfl) ?_
  refine lA rfl .no Fx.ag42 (.u rfl) (fun _ => RdN.part (n := 32) (cs' := ba 32 root) .here (app_l)) (fun _ => (by first | exact (ba_len _ _).trans (ba_len _ _).symm | exact (wa_len _ _).trans (wa_len _ _).symm | exact ba_len _ _ | exact wa_len _ _ | rfl | (simp only [wa_len, ba_len, List.length_append, List.length_cons, List.length_nil]))) ?_
  refine fz rfl .no Fx.fo47_1 (.u rfl) ?_
  refine lA rfl .no Fx.ag45 (.u rfl) (fun _ => RdN.part (n := 5) (cs' := [V h.kind, V h.level, uv .u64 h.gen, uv .u64 h.epoch, uv .u64 h.num]) .here (of_r rfl)) (fun _ => (by first | exact (ba_len _ _).trans (ba_len _ _).symm | exact (wa_len _ _).trans (wa_len _ _).symm | exact ba_len _ _ | exact wa_len _ _ | rfl | (simp only [wa_len, ba_len, List.length_append, List.length_cons, List.length_nil]))) ?_
  refine mv rfl .no (.u rfl) ?_
  refine mv rfl .no (.u rfl) ?_
  refine kc rfl Fx.go23 (Eva.cons (.u rfl) (Eva.cons (.u rfl) (Eva.cons (.u rfl) (Eva.cons (.u rfl) Eva.nil)))) (wLay_ok root h n p hp _ hs hK) ?_
  rintro _ G20 μ20 hG20 ⟨v20, L20, e20, hL20, rfl, rfl⟩
  have hs := hs.mono hG20
  have hK := hK.mono hG20
  have hR := hR.mono hG20
  refine mv rfl .no (.u rfl) ?_
  refine ex rfl .no (.u rfl) rfl ?_
  refine ex rfl .no (.u rfl) rfl ?_
  refine asg rfl .no (.u rfl) ?_
  refine asg rfl .no (.u rfl) ?_
  refine .nil ?_
  refine .code ?_
  refine .seq ?_
  refine Wk.rg [0, 1, 2, 3, 4, 5, 6, 7, 8, 9, 10, 11] rfl rfl ?_
  refine fz rfl .no Fx.fo47_0 (.u rfl) ?_
  refine lA rfl .no Fx.ag42 (.u rfl) (fun _ => RdN.part (n := 32) (cs' := ba 32 root) (.there .here) (app_l)) (fun _ => (by first | exact (ba_len _ _).trans (ba_len _ _).symm | exact (wa_len _ _).trans (wa_len _ _).symm | exact ba_len _ _ | exact wa_len _ _ | rfl | (simp only [wa_len, ba_len, List.length_append, List.length_cons, List.length_nil]))) ?_
  refine fz rfl .no Fx.fo47_1 (.u rfl) ?_
  refine lA rfl .no Fx.ag45 (.u rfl) (fun _ => RdN.part (n := 5) (cs' := [V h.kind, V h.level, uv .u64 h.gen, uv .u64 h.epoch, uv .u64 h.num]) (.there .here) (of_r rfl)) (fun _ => (by first | exact (ba_len _ _).trans (ba_len _ _).symm | exact (wa_len _ _).trans (wa_len _ _).symm | exact ba_len _ _ | exact wa_len _ _ | rfl | (simp only [wa_len, ba_len, List.length_append, List.length_cons, List.length_nil]))) ?_
  refine mv rfl .no (.u rfl) ?_
  refine mv rfl .no (.u rfl) ?_
  refine kc rfl Fx.go24 (Eva.cons (.u rfl) (Eva.cons (.u rfl) (Eva.cons (.u rfl) (Eva.cons (.u rfl) Eva.nil)))) (rwLay_ok root h n p hp _ hs hR) ?_
  rintro _ G30 μ30 hG30 ⟨v30, L30, e30, hL30, rfl, rfl⟩
  have hs := hs.mono hG30
  have hK := hK.mono hG30
  have hR := hR.mono hG30
  refine mv rfl .no (.u rfl) ?_
  refine ex rfl .no (.u rfl) rfl ?_
  refine ex rfl .no (.u rfl) rfl ?_
  refine asg rfl .no (.u rfl) ?_
  refine asg rfl .no (.u rfl) ?_
  refine .nil ?_
  refine .code ?_
  refine .seq ?_
  refine wk_fb (.there .here) (by first | (intro b hb; cases hb; done) | simp [keys, Res.keys]) ?_; intro GfR20 hR20 hleR20 evR20 hsR20; subst evR20
  have hs := hs.mono hleR20
  have hK := hK.mono hleR20
  have hR := hR.mono hleR20
  refine wk_fb .here (by first | (intro b hb; cases hb; done) | simp [keys, Res.keys]) ?_; intro GfR30 hR30 hleR30 evR30 hsR30; subst evR30
  have hs := hs.mono hleR30
  have hK := hK.mono hleR30
  have hR := hR.mono hleR30
  have hsR20 := hsR20.mono hleR30
  refine Wk.rg [0, 1, 2, 3, 4, 5, 6, 7, 8, 9, 10, 11, 12, 13] rfl rfl ?_
  refine mv rfl .no (.u rfl) ?_
  refine mv rfl .no (.u rfl) ?_
  refine mv rfl (.t rfl rfl) (.u rfl) ?_
  refine sB rfl (.t rfl rfl) Fx.bs27_9 (.s rfl) (fun hc => hsR20.sc) ?_
  refine mv rfl (.t rfl rfl) (.u rfl) ?_
  refine sB rfl (.t rfl rfl) Fx.bs27_9 (.s rfl) (fun hc => hsR30.sc) ?_
  refine cb rfl (.t rfl rfl) (.s rfl) (.s rfl) ?_
  refine pkA rfl .no (.u rfl) (.s rfl) ?_
  refine mv rfl .no (.u rfl) ?_
  refine mv rfl (.t rfl rfl) (.u rfl) ?_
  refine mv rfl (.t rfl rfl) (.u rfl) ?_
  refine cp rfl (.t rfl rfl) (.s rfl) (.s rfl) rfl ?_
  refine pkA rfl .no (.u rfl) (.s rfl) ?_
  refine asg rfl .no (.u rfl) ?_
  refine .nil ?_
  refine .code ?_
  refine .ret ?_
  refine We.fin0 Tryd.results9 (.tmp rfl .nil) ?_
  obtain ⟨q1, q2⟩ := Prod.mk.inj (hL20.trans hL30.symm)
  refine ⟨rfl, congrArg Value.bool ?_⟩
  rw [q1, q2]; simp

end Go.Proofs.YtoogjfldgeiapaaDoor
