/- Lemmas and contracts, joined: Contracts of functions, walked. -/
import Derived.Test.YtbdnclpopappeaaDoorTk5
set_option linter.unusedSimpArgs false
set_option linter.unusedVariables false
set_option linter.unusedSectionVars false
namespace Go.Proofs.YtbdnclpopappeaaDoor
set_option linter.unusedSimpArgs false
set_option linter.unusedVariables false
open Go.Tan Go.RowKit

namespace FxTbI
theorem ag38 : aggN Tryd.prog 38 = some (some 40) := by kernel_rfl
theorem go23 : goFn Tryd.prog 23 = true := by kernel_rfl
theorem go18 : goFn Tryd.prog 18 = true := by kernel_rfl
end FxTbI
namespace Fx
theorem go53 : goFn Tryd.prog 53 = true := by kernel_rfl
theorem fo38_4 : fOff Tryd.prog 38 4 = some 4 := by kernel_rfl
theorem go16 : goFn Tryd.prog 16 = true := by kernel_rfl
theorem eqt26 : eqT Tryd.prog 4 26 ([.int .u8, .int .u8, .int .u64, .int .u64, .int .u64]) = true := by kernel_rfl
theorem bp91_0_1_3 : bPl Tryd.prog 91 [0, 1, 3] = some ([.int .u8 0, .int .u8 0, .int .u8 0, .int .u8 0, .int .u8 0, .int .u8 0, .int .u8 0, .int .u8 0, .int .u8 0, .int .u8 0, .int .u8 0, .int .u8 0, .int .u8 0, .int .u8 0, .int .u8 0, .int .u8 0, .int .u8 0, .int .u8 0, .int .u8 0, .int .u8 0, .int .u8 0, .int .u8 0, .int .u8 0, .int .u8 0, .int .u8 0, .int .u8 0, .int .u8 0, .int .u8 0, .int .u8 0, .int .u8 0, .int .u8 0, .int .u8 0, .int .u8 0, .int .u8 0, .int .u8 0, .int .u8 0, .int .u8 0, .int .u8 0, .int .u8 0, .int .u8 0, .int .u8 0, .int .u8 0, .int .u8 0, .int .u8 0, .int .u8 0, .int .u8 0, .int .u8 0, .int .u8 0, .int .u8 0, .int .u8 0, .int .u8 0, .int .u8 0, .int .u8 0, .int .u8 0, .int .u8 0, .int .u8 0, .int .u8 0, .int .u8 0, .int .u8 0, .int .u8 0, .int .u8 0, .int .u8 0, .int .u8 0, .int .u8 0, .slice none 0 0, .slice none 0 0, .slice none 0 0], [(0, 64), (64, 1), (66, 1)]) := by kernel_rfl
theorem fo91_3 : fOff Tryd.prog 91 3 = some 66 := by kernel_rfl
theorem go59 : goFn Tryd.prog 59 = true := by kernel_rfl
theorem fo96_0 : fOff Tryd.prog 96 0 = some 0 := by kernel_rfl
theorem zv96 : (Tryd.prog.info? 96).bind (·.zero) = some (.agg #[.string ByteArray.empty, .slice none 0 0, .int .u8 0, .int .u8 0, .int .u8 0, .int .u8 0, .int .u8 0, .int .u8 0, .int .u8 0, .int .u8 0, .int .u8 0, .int .u8 0, .int .u8 0, .int .u8 0, .int .u8 0, .int .u8 0, .int .u8 0, .int .u8 0, .int .u8 0, .int .u8 0, .int .u8 0, .int .u8 0, .int .u8 0, .int .u8 0, .int .u8 0, .int .u8 0, .int .u8 0, .int .u8 0, .int .u8 0, .int .u8 0, .int .u8 0, .int .u8 0, .int .u8 0, .int .u8 0]) := by kernel_rfl
theorem sz89 : szT Tryd.prog 89 = some 1 := by kernel_rfl
theorem go60 : goFn Tryd.prog 60 = true := by kernel_rfl
theorem fo38_8 : fOff Tryd.prog 38 8 = some 8 := by kernel_rfl
end Fx
theorem take_is {xs : List Y} {hx : Sh} {G : PM} {h : Hd} (hs : SlR G 1 encY hx xs) (hl : xs.length ≤ 100000000000000) (e : takeH xs = (h, 0)) : Ct Tryd.prog 53 ([hx.val xs.length] : List Value).toArray G [] (fun _ μ' u => μ' = [] ∧ u = .tuple #[.agg h.cells.toArray, .int .i64 0]) := by
  have := Take_ok xs hx G hs hl
  rw [e] at this
  exact this
theorem take_row (D : List Dg) (v : Value) (G : PM) (hK : RdNP G 0 0 (wa 64 kW)) (hl : D.length ≤ 1000000) : Ct Tryd.prog 18 ([v] : List Value).toArray G [rS 32 (ba 32) v 23 D] (fun _ μ' u => ∃ ν, μ' = rS 32 (ba 32) v 23 D :: ν ∧ ν = [] ∧ u = .agg (ba 32 (rootD D)).toArray) :=
  Ct.lendS (fun _ _ => ba_len _ _) (fun hd G2 hle hv hs => by subst hv; exact root_ok D hd G2 hs (hK.mono hle) hl)
set_option maxHeartbeats 4000000 in
theorem tBegin_ok (root : Nat → Y) (m : Meta) (xs : List Y) (hx : Sh) (rows : List RowT) (ix : List Y) (G : PM) (hw : m.wf) (hs : SlR G 1 encY hx xs) (hK : RdNP G 0 0 (wa 64 kW)) (hl : xs.length ≤ 1000000) (hBt : beginT root m xs = some (rows, ix)) : Ct Tryd.prog 34 ([.agg (ba 32 root).toArray, m.val, hx.val xs.length] : List Value).toArray G [] (fun G' μ' u => ∃ (b : Nat) (ps : List (RowT × Sh)) (ha hr hi : Sh), ps.map (·.1) = rows ∧ μ' = [.blk b (cl (wrC (keyEnc root (headL (hdM m))) (keyMac root (headL (hdM m))) (ha.val (headL (hdM m)).length) (hr.val ps.length) (hi.val ix.length)) 91)] ∧ u = .pointer (some ⟨b, 0, none⟩) ∧ RdrR G' (hdM m) ps ix ha hr hi) := by
  refine Ct.of Tryd.func34 rfl Tryd.ntmps34 rfl fun w0 hs0 => ?_
  have B := beg_inv hBt
  obtain ⟨y, hy, hyp⟩ := B.opn
  have hlong := B.long; have hkk := B.kk; have hrl := restT_len hlong
  refine .seq ?_
  refine Wk.rg [0, 1, 2] rfl rfl ?_
  refine bx rfl (.u rfl) rfl ?_; intro b3
  refine bx rfl (.u rfl) rfl ?_; intro b4
  refine asg rfl .no (.u rfl) ?_
  refine .nil ?_
  refine .code ?_
  refine .seq ?_
  refine Wk.rg [0, 1, 2, 3, 4, 5, 6, 7] rfl rfl ?_
  refine mv rfl .no (.u rfl) ?_
  refine kv rfl .no Fx.go53 (Eva.cons (.u rfl) Eva.nil) (fun _ => take_is hs (by omega) B.take) ?_
  refine mv rfl .no (.u rfl) ?_
  refine ex rfl .no (.u rfl) rfl ?_
  refine ex rfl .no (.u rfl) rfl ?_
  refine al rfl Fx.zq26 ?_; intro b7
  refine sw rfl (.u rfl) (.u rfl) rfl Fx.sz26 .here rfl (one5 rfl rfl rfl rfl rfl) ?_
  refine asg rfl .no (.u rfl) ?_
  refine .nil ?_
  refine .code ?_
  refine .seq ?_
  refine wk_fz (.there (.there .here)) (by intro b hb; cases hb) ?_; intro Gfb3 hleb3 hbb3
  have hs := hs.mono hleb3
  have hK := hK.mono hleb3
  refine wk_fz (.there .here) (by intro b hb; cases hb) ?_; intro Gfb4 hleb4 hbb4
  have hs := hs.mono hleb4
  have hK := hK.mono hleb4
  have hbb3 := hbb3.mono hleb4
  refine wk_fz .here (by intro b hb; cases hb) ?_; intro Gfb7 hleb7 hbb7
  have hs := hs.mono hleb7
  have hK := hK.mono hleb7
  have hbb3 := hbb3.mono hleb7
  have hbb4 := hbb4.mono hleb7
  refine Wk.mixp ⟨true, false⟩ Fx.mix (by kernel_rfl) ?_
  refine Wp.one 0 (by kernel_rfl) ?_
  refine mv rfl .no (.u rfl) ?_
  refine .nil ?_
  refine Wp.one 1 (by kernel_rfl) ?_
  refine ln rfl .no Fx.sn36 (.u rfl) ?_
  refine .nil ?_
  refine Wp.one 2 (by kernel_rfl) ?_
  refine fa rfl .no Fx.fo38_4 (.u rfl) ?_
  refine .nil ?_
  refine Wp.one 3 (by kernel_rfl) ?_
  refine ld rfl .no Fx.ag3 (.u rfl) (fun _ => (hbb4.rd (by rfl)).rd) ?_
  refine .nil ?_
  refine Wp.one 4 (by kernel_rfl) ?_
  refine cp rfl .no (.u rfl) (.u rfl) rfl ?_
  refine .nil ?_
  refine Wp.one 5 (by kernel_rfl) ?_
  refine mv rfl .no (.u rfl) ?_
  refine .nil ?_
  refine Wp.one 6 (by kernel_rfl) ?_
  refine mv rfl (.t rfl rfl) (.u rfl) ?_
  refine .nil ?_
  refine Wp.one 7 (by kernel_rfl) ?_
  refine cp rfl (.t rfl rfl) (.s rfl) (.u rfl) rfl ?_
  refine .nil ?_
  refine Wp.one 8 (by kernel_rfl) ?_
  refine pkA rfl .no (.u rfl) (.s rfl) ?_
  refine .nil ?_
  refine Wp.one 9 (by kernel_rfl) ?_
  refine mv rfl .no (.u rfl) ?_
  refine .nil ?_
  refine Wp.one 11 (by kernel_rfl) ?_
  refine lA rfl (.t rfl rfl) FxTbI.ag38 (.u rfl) (fun hc => (hbb4.rdn (m := 40) (cs' := m.cells) ((by rw [List.drop_zero]; exact List.take_of_length_le (Nat.le_of_eq (Meta.len m))))).rd) (fun _ => (Meta.len _)) ?_
  refine .nil ?_
  refine Wp.pr 10 (by kernel_rfl) ?_
  refine lA rfl (.t rfl rfl) Fx.ag26 (.u rfl) (fun hc => (hbb7.rdn (m := 5) (cs' := (hdM m).cells) (rfl)).rd) (fun _ => rfl) ?_
  refine .nil ⟨⟨rfl, rfl⟩, ?_⟩
  refine Wp.b1 12 (by kernel_rfl) ?_
  refine kv rfl (.t rfl rfl) Fx.go16 (Eva.cons (.s rfl) Eva.nil) (fun hc => tHead_ok m _ hw) ?_
  refine .nil ?_
  refine Wp.one 13 (by kernel_rfl) ?_
  refine eqC (decide (hdM m = hdM m)) rfl (.t rfl rfl) Fx.eqt26 (.s rfl) (.s rfl) (fun hc => hd_conf _) (fun hc => hd_conf _) (fun hc => hd_iff) ?_
  refine .nil ?_
  refine Wp.one 14 (by kernel_rfl) ?_
  refine pkA rfl .no (.u rfl) (.s rfl) ?_
  refine .nil ?_
  refine Wp.one 15 (by kernel_rfl) ?_
  refine mv rfl .no (.u rfl) ?_
  refine .nil ?_
  refine Wp.one 16 (by kernel_rfl) ?_
  refine mv rfl (.t rfl rfl) (.u rfl) ?_
  refine .nil ?_
  refine Wp.one 17 (by kernel_rfl) ?_
  refine ln rfl (.t rfl rfl) Fx.sn36 (.s rfl) ?_
  refine .nil ?_
  refine Wp.one 18 (by kernel_rfl) ?_
  refine cp rfl (.t rfl rfl) (.s rfl) (.u rfl) rfl ?_
  refine .nil ?_
  refine Wp.one 19 (by kernel_rfl) ?_
  refine pkA rfl .no (.u rfl) (.s rfl) ?_
  refine .nil ?_
  refine Wp.b1 20 (by kernel_rfl) ?_
  refine kv rfl .no Fx.go43 (Eva.cons (.u rfl) Eva.nil) (fun _ => need_ok _ (bg_need1 B.size (by omega)) _) ?_
  refine .nil ?_
  refine Wp.last (by kernel_rfl) ?_
  refine .code ?_
  refine .seq ?_
  refine Wk.draw (mc := ⟨false, false⟩) [0, 1, 2, 3, 4, 5, 6, 7, 8, 9, 10, 11, 12] Fx.mix (by kernel_rfl) ?_
  refine mv rfl .no (.u rfl) ?_
  refine mv rfl .no (.u rfl) ?_
  refine ln rfl .no Fx.sn36 (.u rfl) ?_
  refine arn (((xs.length - 8) : Nat) : Int) rfl .no (.u rfl) (.u rfl) rfl (fun _ => by omega) (fun _ => wrap_i64 (by omega) (by omega)) ?_
  refine kS (30) ((xs.length - 8)) rfl .no Fx.se36 hs (.u rfl) (.u rfl) (.u rfl) (fun _ => by omega) (fun _ => by omega) (fun _ => by omega) (fun _ => by omega) ?_
  intro h51 L51 eL51 lL51 hs51
  have lL51 := lL51 rfl
  refine mv rfl .no (.u rfl) ?_
  refine mv rfl .no (.u rfl) ?_
  refine ln rfl .no Fx.sn36 (.u rfl) ?_
  refine arn (((xs.length - 8) : Nat) : Int) rfl .no (.u rfl) (.u rfl) rfl (fun _ => by omega) (fun _ => wrap_i64 (by omega) (by omega)) ?_
  refine kD ((xs.length - 8)) rfl .no Fx.se36 hs (.u rfl) (.u rfl) (fun _ => by omega) (fun _ => by omega) ?_
  intro h56 L56 eL56 lL56 hs56
  have lL56 := lL56 rfl
  refine kc rfl Fx.go54 (Eva.cons (.u rfl) Eva.nil) (wcNew_ok L56 h56 _ hs56 (by omega)) ?_
  rintro _ G57 μ57 hG57 ⟨b57, s57, rfl, rfl, hs57⟩
  have hs := hs.mono hG57
  have hK := hK.mono hG57
  have hbb3 := hbb3.mono hG57
  have hbb4 := hbb4.mono hG57
  have hbb7 := hbb7.mono hG57
  have hs51 := hs51.mono hG57
  have hs56 := hs56.mono hG57
  refine asg rfl .no (.u rfl) ?_
  refine asg rfl .no (.u rfl) ?_
  refine .nil ?_
  refine .code ?_
  refine .seq ?_
  have hk8 : (unfK L56 8).toNat = kkT xs := by rw [eL56]; rfl
  have hk9 : @BitVec.toNat IntKind.u64.bits (unfK L56 8) = kkT xs := hk8
  have eR : L51 = restT xs := by rw [eL51, show xs.length - 8 - 30 = xs.length - 38 by omega]; rfl
  refine Wk.rg [0, 1, 2] rfl rfl ?_
  refine mv rfl .no (.u rfl) ?_
  refine ka rfl (.inr rfl) Fx.go55 (Eva.cons (.u rfl) (Eva.cons (.u rfl) Eva.nil)) (mtk1 .here) (rdFix_ok L56 s57 _ _ hs57 (by omega) (by omega)) ?_
  rintro _ G59 μ59 hG59 ⟨s59, rfl, rfl, hs59⟩
  have hs := hs.mono hG59
  have hK := hK.mono hG59
  have hbb3 := hbb3.mono hG59
  have hbb4 := hbb4.mono hG59
  have hbb7 := hbb7.mono hG59
  have hs51 := hs51.mono hG59
  have hs56 := hs56.mono hG59
  have hs57 := hs57.mono hG59
  refine asg rfl .no (.u rfl) ?_
  refine .nil ?_
  refine .code ?_
  refine .seq ?_
  refine Wk.rg [0, 1, 2, 3, 4, 5] rfl rfl ?_
  refine mv rfl .no (.u rfl) ?_
  refine mv rfl .no (.u rfl) ?_
  refine ln rfl .no Fx.sn36 (.u rfl) ?_
  refine cw rfl .no Fx.cv3_24 (.u rfl) (fun _ => wrap_u64 (by omega) (by omega)) ?_
  refine cp rfl .no (.u rfl) (.u rfl) rfl ?_
  refine kv rfl .no Fx.go43 (Eva.cons (.u rfl) Eva.nil) (fun _ => need_ok _ (by rw [decide_eq_true_eq]; omega) _) ?_
  refine .nil ?_
  refine .code ?_
  refine .seq ?_
  refine Wk.rg [0, 1, 2, 3, 4, 5] rfl rfl ?_
  refine mv rfl .no (.u rfl) ?_
  refine ln rfl .no Fx.sn36 (.u rfl) ?_
  refine mv rfl .no (.u rfl) ?_
  refine cw rfl .no Fx.cv24_3 (.u rfl) (fun _ => wrap_i64 (by omega) (by omega)) ?_
  refine arn (((L51.length - (unfK L56 8).toNat) : Nat) : Int) rfl .no (.u rfl) (.u rfl) rfl (fun _ => by omega) (fun _ => wrap_i64 (by omega) (by omega)) ?_
  refine asg rfl .no (.u rfl) ?_
  refine .nil ?_
  refine .code ?_
  refine .seq ?_
  refine Wk.mixp ⟨true, false⟩ Fx.mix (by kernel_rfl) ?_
  refine Wp.one 0 (by kernel_rfl) ?_
  refine lA rfl .no Fx.ag23 (.u rfl) (fun _ => (hbb3.rdn (m := 32) (cs' := _) (by first | exact ba_all | exact app_l | exact app_r)).rd) (fun _ => (ba_len _ _)) ?_
  refine .nil ?_
  refine Wp.one 1 (by kernel_rfl) ?_
  refine lA rfl .no Fx.ag26 (.u rfl) (fun _ => (hbb7.rdn (m := 5) (cs' := (hdM m).cells) (rfl)).rd) (fun _ => rfl) ?_
  refine .nil ?_
  refine Wp.one 5 (by kernel_rfl) ?_
  refine mv rfl .no (.u rfl) ?_
  refine .nil ?_
  refine Wp.one 6 (by kernel_rfl) ?_
  refine mv rfl .no (.u rfl) ?_
  refine .nil ?_
  refine Wp.one 7 (by kernel_rfl) ?_
  refine kD ((L51.length - (unfK L56 8).toNat)) rfl .no Fx.se36 hs51 (.u rfl) (.u rfl) (fun _ => by omega) (fun _ => by omega) ?_
  intro h78 L78 eL78 lL78 hs78
  have lL78 := lL78 rfl
  refine .nil ?_
  refine Wp.pr 3 (by kernel_rfl) ?_
  refine lA rfl .no Fx.ag26 (.u rfl) (fun _ => (hbb7.rdn (m := 5) (cs' := (hdM m).cells) (rfl)).rd) (fun _ => rfl) ?_
  refine .nil ⟨⟨rfl, rfl⟩, ?_⟩
  refine Wp.b1 2 (by kernel_rfl) ?_
  refine kv rfl .no FxTbI.go23 (Eva.cons (.u rfl) (Eva.cons (.u rfl) Eva.nil)) (fun _ => KeyOf_ok root (hdM m) _ hK) ?_
  refine .nil ?_
  refine Wp.b1 4 (by kernel_rfl) ?_
  refine kc rfl Fx.go15 (Eva.cons (.u rfl) Eva.nil) (Ct.frzB (nLay_ok (hdM m) _)) ?_
  rintro _ G75 μ75 hG75 ⟨h75, L75, eL75, rfl, rfl, hs75⟩
  have hs := hs.mono hG75
  have hK := hK.mono hG75
  have hbb3 := hbb3.mono hG75
  have hbb4 := hbb4.mono hG75
  have hbb7 := hbb7.mono hG75
  have hs51 := hs51.mono hG75
  have hs56 := hs56.mono hG75
  have hs57 := hs57.mono hG75
  have hs59 := hs59.mono hG75
  have hs78 := hs78.mono hG75
  refine .nil ?_
  refine Wp.one 8 (by kernel_rfl) ?_
  refine bCe (wrC (keyEnc root (headL (hdM m))) (keyMac root (headL (hdM m))) (h75.val L75.length) (.slice none 0 0) (h78.val L78.length)) rfl .no Fx.bp91_0_1_3 (.cons (.u rfl) rfl (.cons (.u rfl) rfl (.cons (.u rfl) rfl .nil))) rfl (rfl) ?_
  refine .nil ?_
  refine Wp.b1 9 (by kernel_rfl) ?_
  refine bx rfl (.u rfl) rfl ?_; intro b80
  refine .nil ?_
  refine Wp.one 10 (by kernel_rfl) ?_
  refine asg rfl .no (.u rfl) ?_
  refine .nil ?_
  refine Wp.last (by kernel_rfl) ?_
  refine .code ?_
  refine .seq ?_
  have hix : L78 = ix := by rw [eL78, B.eix, eR, hk8, hrl]
  have e75 : h75.val L75.length = h75.val (headL (hdM m)).length := by rw [eL75]
  rw [eL75] at hs75
  rw [e75]
  refine Wk.rg [0, 1, 2, 3] rfl rfl ?_
  refine mv rfl .no (.u rfl) ?_
  refine mv rfl .no (.u rfl) ?_
  refine kE ((L51.length - (unfK L56 8).toNat)) rfl .no Fx.se36 hs51 (.u rfl) (.u rfl) (fun _ => by omega) (fun _ => by omega) ?_
  intro h83 L83 eL83 lL83 hs83
  have lL83 := lL83 rfl
  refine asg rfl .no (.u rfl) ?_
  refine .nil ?_
  refine .code ?_
  refine .seq ?_
  have hyl : y.length + 16 ≤ 1000000 := by have h1 := (seal_open hy).2; rw [← hix] at h1; omega
  refine Wk.rg [0, 1, 2, 3, 4, 5, 6, 7] rfl rfl ?_
  refine mv rfl .no (.u rfl) ?_
  refine mv rfl .no (.u rfl) ?_
  refine nc rfl .no (.u rfl) ?_
  refine fz rfl .no Fx.fo91_3 (.u rfl) ?_
  refine ld rfl .no Fx.ag36 (.u rfl) (fun _ => Rd.own .here wrc_lvs) ?_
  refine ka rfl (.inr rfl) Fx.go56 (Eva.cons (.u rfl) (Eva.cons (.u rfl) (Eva.cons (.u rfl) Eva.nil))) (mtk1 .here) (tOpen_ok root (hdM m) h75 _ _ b80 0 L78 y h78 _ hs75 hs78 hK (by omega) (by decide) (by rw [hix]; exact hy)) ?_
  rintro _ G89 μ89 hG89 ⟨h89, rfl, rfl, hs89⟩
  have hs := hs.mono hG89
  have hK := hK.mono hG89
  have hbb3 := hbb3.mono hG89
  have hbb4 := hbb4.mono hG89
  have hbb7 := hbb7.mono hG89
  have hs51 := hs51.mono hG89
  have hs56 := hs56.mono hG89
  have hs57 := hs57.mono hG89
  have hs59 := hs59.mono hG89
  have hs78 := hs78.mono hG89
  have hs75 := hs75.mono hG89
  have hs83 := hs83.mono hG89
  refine kc rfl Fx.go54 (Eva.cons (.u rfl) Eva.nil) (wcNew_ok y h89 _ hs89 (by omega)) ?_
  rintro _ G90 μ90 hG90 ⟨b90, s90, rfl, rfl, hs90⟩
  have hs := hs.mono hG90
  have hK := hK.mono hG90
  have hbb3 := hbb3.mono hG90
  have hbb4 := hbb4.mono hG90
  have hbb7 := hbb7.mono hG90
  have hs51 := hs51.mono hG90
  have hs56 := hs56.mono hG90
  have hs57 := hs57.mono hG90
  have hs59 := hs59.mono hG90
  have hs78 := hs78.mono hG90
  have hs75 := hs75.mono hG90
  have hs83 := hs83.mono hG90
  have hs89 := hs89.mono hG90
  refine asg rfl .no (.u rfl) ?_
  refine .nil ?_
  refine .code ?_
  refine .seq ?_
  refine Wk.rg [0, 1, 2] rfl rfl ?_
  refine mv rfl .no (.u rfl) ?_
  refine ka rfl (.inr rfl) Fx.go57 (Eva.cons (.u rfl) Eva.nil) (mtk1 .here) (rNum_ok y 0 s90 b90 _ hs90 (by omega)) ?_
  rintro _ G92 μ92 hG92 ⟨n92, L92, e92, s92, hN92, rfl, rfl, hs92⟩
  have lL92 := rdnum_le hN92; have nL92 := rdnum_lt hN92; simp only at lL92
  have hs := hs.mono hG92
  have hK := hK.mono hG92
  have hbb3 := hbb3.mono hG92
  have hbb4 := hbb4.mono hG92
  have hbb7 := hbb7.mono hG92
  have hs51 := hs51.mono hG92
  have hs56 := hs56.mono hG92
  have hs57 := hs57.mono hG92
  have hs59 := hs59.mono hG92
  have hs78 := hs78.mono hG92
  have hs75 := hs75.mono hG92
  have hs83 := hs83.mono hG92
  have hs89 := hs89.mono hG92
  have hs90 := hs90.mono hG92
  refine asg rfl .no (.u rfl) ?_
  refine .nil ?_
  refine .code ?_
  refine .seq ?_
  obtain ⟨he92, hq92⟩ := ((Tk.put hyp).numE hN92).got
  simp only at he92 hq92
  subst he92
  obtain ⟨hn0, hrw0⟩ := bg_rows0 hq92
  refine Wk.rg [0, 1, 2, 3, 4, 5, 6, 7] rfl rfl ?_
  refine mv rfl .no (.u rfl) ?_
  refine cp rfl .no (.u rfl) (.u rfl) rfl ?_
  refine mv rfl .no (.u rfl) ?_
  refine mv rfl (.t rfl rfl) (.u rfl) ?_
  refine kp rfl (.t rfl rfl) Fx.go58 (Eva.cons (.s rfl) Eva.nil) (Gp.add .here Gp.nil) (fun hc hle hq => rFault_ok L92 0 s92 b90 _ RdNP.add) ?_
  refine cp rfl (.t rfl rfl) (.s rfl) (.u rfl) rfl ?_
  refine pkA rfl .no (.u rfl) (.s rfl) ?_
  refine kv rfl .no Fx.go43 (Eva.cons (.u rfl) Eva.nil) (fun _ => need_ok _ (by simp; omega) _) ?_
  refine .nil ?_
  refine .code ?_
  refine .seq ?_
  refine Wk.rg [0] rfl rfl ?_
  refine asg rfl .no (.u rfl) ?_
  refine .nil ?_
  refine .code ?_
  refine .seq ?_
  refine .seq ?_
  refine wk_nilS 32 (ba 32) 23 ?_
  refine wk_nilS 34 rowC 96 ?_
  refine Wk.rg [0] rfl rfl ?_
  refine asg rfl .no (.u rfl) ?_
  refine .nil ?_
  refine .code ?_
  refine .block ?_
  refine Wk.lop (α := Nat × List Y × Sh × Value × List (RowT × Sh) × Value × List Dg × List Y × Sh) (fun gh => [(9, true, gh.2.2.1.val gh.2.1.length), (16, true, gh.2.2.2.2.2.1), (17, true, .int .u64 (gh.1 : Int))]) (fun gh => [rS 34 rowC gh.2.2.2.1 96 gh.2.2.2.2.1, rS 32 (ba 32) gh.2.2.2.2.2.1 23 gh.2.2.2.2.2.2.1, .blk b90 (cl [Sh.val gh.2.2.2.2.2.2.2.2 gh.2.2.2.2.2.2.2.1.length, .int .i64 0] 145), .blk b80 (cl (wrC (keyEnc root (headL (hdM m))) (keyMac root (headL (hdM m))) (h75.val (headL (hdM m)).length) gh.2.2.2.1 (h78.val L78.length)) 91)])
    (fun gh Gl => (gh.1 ≤ n92 + 1) ∧ (rowsP (n92 + 1 - gh.1) (gh.2.2.2.2.1.map (·.1)) gh.2.1 gh.2.2.2.2.2.2.2.1 = some rows) ∧ (gh.2.2.2.2.2.2.1 = gh.2.2.2.2.1.map (fun p => p.1.leaf)) ∧ (gh.2.2.2.2.1.length = gh.1 ∧ gh.2.2.2.2.1.length + gh.2.2.2.2.2.2.2.1.length ≤ y.length ∧ gh.2.1.length ≤ xs.length) ∧ (AllB Gl gh.2.2.2.2.1) ∧ (SlR Gl 1 encY gh.2.2.1 gh.2.1) ∧ (SlR Gl 1 encY gh.2.2.2.2.2.2.2.2 gh.2.2.2.2.2.2.2.1)) (fun gh => n92 + 1 - gh.1) (0, L83, h83, .slice none 0 0, [], .slice none 0 0, [], L92, s92) [(4, true, _), (13, true, _), (14, true, _), (15, true, _)] [_]
    (ESub.cons rfl rfl (ESub.cons rfl rfl (ESub.cons rfl rfl (ESub.cons rfl rfl (ESub.cons rfl rfl (ESub.cons rfl rfl (ESub.cons rfl rfl ESub.nil)))))))
    (MSub.cons .here rfl (MSub.cons .here rfl (MSub.cons .here rfl (MSub.cons .here rfl (MSub.cons .here rfl MSub.nil))))) ?_ ?_
  · refine ⟨?_, ?_, ?_, ?_, ?_, ?_, ?_⟩
    · (try dsimp only) <;> (first | omega | rfl | assumption | (simp; done))
    · (try dsimp only) <;> (rw [eL83, eR, hk8, hrl]; exact hrw0)
    · (try dsimp only) <;> (first | omega | rfl | assumption | (simp; done))
    · (try dsimp only) <;> (exact ⟨rfl, by simp only [List.length_nil]; omega, by omega⟩)
    · (try dsimp only) <;> (exact AllB.nil)
    · (try dsimp only) <;> (exact hs83)
    · (try dsimp only) <;> (exact hs92)
  intro gh N0 Gl0 hN0 hGl0 hF0
  obtain ⟨k, A, hA, vr, acc, vl, D, R, sR⟩ := gh; dsimp only at hF0 hN0 ⊢
  obtain ⟨hk, hrows, eD, hlen, hall, hsA, hsR⟩ := hF0
  have hs := hs.mono hGl0
  have hK := hK.mono hGl0
  have hbb3 := hbb3.mono hGl0
  have hbb4 := hbb4.mono hGl0
  have hbb7 := hbb7.mono hGl0
  have hs51 := hs51.mono hGl0
  have hs56 := hs56.mono hGl0
  have hs57 := hs57.mono hGl0
  have hs59 := hs59.mono hGl0
  have hs78 := hs78.mono hGl0
  have hs75 := hs75.mono hGl0
  have hs83 := hs83.mono hGl0
  have hs89 := hs89.mono hGl0
  have hs90 := hs90.mono hGl0
  have hs92 := hs92.mono hGl0
  have lD : D.length = acc.length := by rw [eD, List.length_map]
  refine .seq ?_
  refine .seq ?_
  refine Wk.rg [0, 1, 2] rfl rfl ?_
  refine mv rfl .no (.u rfl) ?_
  refine mv rfl .no (.u rfl) ?_
  refine cp rfl .no (.u rfl) (.u rfl) rfl ?_
  refine .nil ?_
  refine .code ?_
  refine .cond rfl (fun c1 => ?_) (fun c1 => ?_)
  · have c1k := c1
    try simp only [decide_eq_true_eq, decide_eq_false_iff_not, Int.not_lt, Int.not_le, gt_iff_lt, ge_iff_le, Bool.or_eq_true, Bool.and_eq_true, Bool.or_eq_false_iff, Bool.and_eq_false_iff, Bool.not_eq_true', Bool.not_eq_false', Int.toNat_natCast, bne_iff_ne, beq_iff_eq, bne_eq_false_iff_eq, beq_eq_false_iff_ne, ne_eq] at c1
    refine .skip ?_
    refine .code ?_
    refine .seq ?_
    refine .block ?_
    refine .seq ?_
    refine Wk.rg [0] rfl rfl ?_
    refine al rfl Fx.zr96 ?_; intro b18
    refine .nil ?_
    refine .code ?_
    refine .seq ?_
    refine .seq ?_
    refine Wk.rg [0, 1, 2] rfl rfl ?_
    refine mv rfl .no (.u rfl) ?_
    refine mv rfl .no (.u rfl) ?_
    refine cp rfl .no (.u rfl) (.u rfl) rfl ?_
    refine .nil ?_
    refine .code ?_
    refine .cond rfl (fun c2 => ?_) (fun c2 => ?_)
    · have c2k := c2
      try simp only [decide_eq_true_eq, decide_eq_false_iff_not, Int.not_lt, Int.not_le, gt_iff_lt, ge_iff_le, Bool.or_eq_true, Bool.and_eq_true, Bool.or_eq_false_iff, Bool.and_eq_false_iff, Bool.not_eq_true', Bool.not_eq_false', Int.toNat_natCast, bne_iff_ne, beq_iff_eq, bne_eq_false_iff_eq, beq_eq_false_iff_ne, ne_eq] at c2
      refine Wk.rg [0, 1, 2, 3] rfl rfl ?_
      refine mv rfl .no (.u rfl) ?_
      refine ka rfl (.inr rfl) Fx.go59 (Eva.cons (.u rfl) (Eva.cons (.u rfl) Eva.nil)) (mtk1 (.there (.there (.there .here)))) (rStr_ok R 0 sR b90 _ hsR (by omega) 1024 (by decide)) ?_
      rintro _ G110 μ110 hG110 ⟨M110, L110, e110, s110, hN110, rfl, rfl, hs110⟩
      have lL110 := rdstr_le hN110; simp only at lL110
      have hs := hs.mono hG110
      have hK := hK.mono hG110
      have hbb3 := hbb3.mono hG110
      have hbb4 := hbb4.mono hG110
      have hbb7 := hbb7.mono hG110
      have hs51 := hs51.mono hG110
      have hs56 := hs56.mono hG110
      have hs57 := hs57.mono hG110
      have hs59 := hs59.mono hG110
      have hs78 := hs78.mono hG110
      have hs75 := hs75.mono hG110
      have hs83 := hs83.mono hG110
      have hs89 := hs89.mono hG110
      have hs90 := hs90.mono hG110
      have hs92 := hs92.mono hG110
      have hall := hall.mono hG110
      have hsA := hsA.mono hG110
      have hsR := hsR.mono hG110
      refine fz rfl .no Fx.fo96_0 (.u rfl) ?_
      refine s1 rfl (.u rfl) (.u rfl) rfl Fx.sz9 (.there .here) (show 0 < 34 by decide) (rfl) ?_
      refine .nil ?_
      refine .code ?_
      refine .seq ?_
      refine Wk.rg [0, 1, 2] rfl rfl ?_
      refine mv rfl .no (.u rfl) ?_
      refine ka rfl (.inr rfl) Fx.go57 (Eva.cons (.u rfl) Eva.nil) (mtk1 (.there .here)) (rNum_ok L110 e110 s110 b90 _ hs110 (by omega)) ?_
      rintro _ G113 μ113 hG113 ⟨n113, L113, e113, s113, hN113, rfl, rfl, hs113⟩
      have lL113 := rdnum_le hN113; have nL113 := rdnum_lt hN113; simp only at lL113
      have hs := hs.mono hG113
      have hK := hK.mono hG113
      have hbb3 := hbb3.mono hG113
      have hbb4 := hbb4.mono hG113
      have hbb7 := hbb7.mono hG113
      have hs51 := hs51.mono hG113
      have hs56 := hs56.mono hG113
      have hs57 := hs57.mono hG113
      have hs59 := hs59.mono hG113
      have hs78 := hs78.mono hG113
      have hs75 := hs75.mono hG113
      have hs83 := hs83.mono hG113
      have hs89 := hs89.mono hG113
      have hs90 := hs90.mono hG113
      have hs92 := hs92.mono hG113
      have hall := hall.mono hG113
      have hsA := hsA.mono hG113
      have hsR := hsR.mono hG113
      have hs110 := hs110.mono hG113
      refine asg rfl .no (.u rfl) ?_
      refine .nil ?_
      refine .code ?_
      refine .seq ?_
      refine .seq ?_
      refine Wk.rg [0] rfl rfl ?_
      refine mv rfl .no (.u rfl) ?_
      refine .nil ?_
      refine .code ?_
      refine .block ?_
      have hT3 := ((bg_str hrows (by omega)).strE hN110).numE hN113
      refine Wk.lop (α := Nat × List Y × Int × Sh × (Nat → Y) × List Y) (fun gh => [(114, true, .int .i64 (gh.1 : Int))]) (fun gh => [.blk b90 (cl [Sh.val gh.2.2.2.1 gh.2.1.length, .int .i64 gh.2.2.1] 145), .blk b18 (cl (rwC M110 (.slice none 0 0) gh.2.2.2.2.1) 96)])
        (fun gh Gl => (gh.1 ≤ 32) ∧ (gh.2.2.2.2.2.length = gh.1) ∧ (ByR ⟨L113, e113⟩ ⟨gh.2.1, gh.2.2.1⟩ false gh.2.2.2.2.2) ∧ (∀ i, gh.2.2.2.2.1 i = gh.2.2.2.2.2.getD i 0) ∧ (gh.2.1.length ≤ L113.length ∧ (gh.2.2.1 = 0 → gh.2.1.length + gh.1 ≤ L113.length)) ∧ (SlR Gl 1 encY gh.2.2.2.1 gh.2.1)) (fun gh => 32 - gh.1) (0, L113, e113, s113, (fun _ => 0#8), []) [(4, true, _), (9, true, _), (13, true, _), (14, true, _), (15, true, _), (16, true, _), (17, true, _), (18, true, _), (19, true, _)] [_, _, _, _]
        (ESub.cons rfl (by first | rfl | exact evi (by omega)) (ESub.cons rfl rfl (ESub.cons rfl rfl (ESub.cons rfl rfl (ESub.cons rfl rfl (ESub.cons rfl rfl (ESub.cons rfl rfl (ESub.cons rfl rfl (ESub.cons rfl rfl (ESub.cons rfl rfl ESub.nil))))))))))
        (MSub.cons .here rfl (MSub.cons .here (by first | rfl | (rw [bnil]; rfl)) (MSub.cons .here rfl (MSub.cons .here rfl (MSub.cons .here rfl (MSub.cons .here rfl MSub.nil)))))) ?_ ?_
      · refine ⟨?_, ?_, ?_, ?_, ?_, ?_⟩
        · (try dsimp only) <;> (first | omega | rfl | assumption | (simp; done))
        · (try dsimp only) <;> (first | omega | rfl | assumption | (simp; done))
        · (try dsimp only) <;> (exact ByR.zero)
        · (try dsimp only) <;> (exact fun i => by simp)
        · (try dsimp only) <;> (exact ⟨Nat.le_refl _, fun _ => Nat.le_refl _⟩)
        · (try dsimp only) <;> (exact hs113)
      intro gh N1 Gl1 hN1 hGl1 hF1
      obtain ⟨q, L, ee, s9, f, rt⟩ := gh; dsimp only at hF1 hN1 ⊢
      obtain ⟨hq, hrt, hB9, ef, lX, hsl⟩ := hF1
      have hs := hs.mono hGl1
      have hK := hK.mono hGl1
      have hbb3 := hbb3.mono hGl1
      have hbb4 := hbb4.mono hGl1
      have hbb7 := hbb7.mono hGl1
      have hs51 := hs51.mono hGl1
      have hs56 := hs56.mono hGl1
      have hs57 := hs57.mono hGl1
      have hs59 := hs59.mono hGl1
      have hs78 := hs78.mono hGl1
      have hs75 := hs75.mono hGl1
      have hs83 := hs83.mono hGl1
      have hs89 := hs89.mono hGl1
      have hs90 := hs90.mono hGl1
      have hs92 := hs92.mono hGl1
      have hall := hall.mono hGl1
      have hsA := hsA.mono hGl1
      have hsR := hsR.mono hGl1
      have hs110 := hs110.mono hGl1
      have hs113 := hs113.mono hGl1
      refine .seq ?_
      refine Wk.rg [0] rfl rfl ?_
      refine cp rfl .no (.u rfl) (.u rfl) rfl ?_
      refine .nil ?_
      refine .code ?_
      refine .seq ?_
      refine .cond rfl (fun c3 => ?_) (fun c3 => ?_)
      · have c3k := c3
        try simp only [decide_eq_true_eq, decide_eq_false_iff_not, Int.not_lt, Int.not_le, gt_iff_lt, ge_iff_le, Bool.or_eq_true, Bool.and_eq_true, Bool.or_eq_false_iff, Bool.and_eq_false_iff, Bool.not_eq_true', Bool.not_eq_false', Int.toNat_natCast, bne_iff_ne, beq_iff_eq, bne_eq_false_iff_eq, beq_eq_false_iff_ne, ne_eq] at c3
        refine .skip ?_
        refine .code ?_
        refine .seq ?_
        refine .block ?_
        refine .seq ?_
        refine Wk.rg [0, 1] rfl rfl ?_
        refine mv rfl .no (.u rfl) ?_
        refine asg rfl .no (.u rfl) ?_
        refine .nil ?_
        refine .code ?_
        refine Wk.rg [0, 1, 2, 3, 4, 5, 6] rfl rfl ?_
        refine mv rfl .no (.u rfl) ?_
        refine mv rfl .no (.u rfl) ?_
        refine ka rfl (.inr rfl) Fx.go55 (Eva.cons (.u rfl) (Eva.cons (.u rfl) Eva.nil)) (mtk1 .here) (rFix_ok L ee s9 b90 _ hsl (by omega)) ?_
        rintro _ G119 μ119 hG119 ⟨y119, L119, e119, s119, hN119, rfl, rfl, hs119⟩
        have lL119 := rdbyte_le hN119; simp only at lL119
        have hs := hs.mono hG119
        have hK := hK.mono hG119
        have hbb3 := hbb3.mono hG119
        have hbb4 := hbb4.mono hG119
        have hbb7 := hbb7.mono hG119
        have hs51 := hs51.mono hG119
        have hs56 := hs56.mono hG119
        have hs57 := hs57.mono hG119
        have hs59 := hs59.mono hG119
        have hs78 := hs78.mono hG119
        have hs75 := hs75.mono hG119
        have hs83 := hs83.mono hG119
        have hs89 := hs89.mono hG119
        have hs90 := hs90.mono hG119
        have hs92 := hs92.mono hG119
        have hall := hall.mono hG119
        have hsA := hsA.mono hG119
        have hsR := hsR.mono hG119
        have hs110 := hs110.mono hG119
        have hs113 := hs113.mono hG119
        have hsl := hsl.mono hG119
        refine cu (k := .u64) rfl .no rfl Fx.cv24_5 (.u rfl) ?_
        refine fz rfl .no Fx.fo96_2 (.u rfl) ?_
        refine iA rfl .no Fx.ar23 (.u rfl) (.u rfl) (fun _ => by omega) (fun _ => by omega) ?_
        refine s1 rfl (.u rfl) (.u rfl) rfl Fx.sz5 (.there .here) (by rw [rwC_len]; omega) (rwC_set (k := q) (by omega)) ?_
        refine .nil ?_
        refine .blk ?_
        refine .code ?_
        refine Wk.rg [0, 1] rfl rfl ?_
        refine arn (((q + 1) : Nat) : Int) rfl .no (.u rfl) (.u rfl) rfl (fun _ => by omega) (fun _ => wrap_i64 (by omega) (by omega)) ?_
        refine mv rfl .no (.u rfl) ?_
        refine .nil ?_
        refine We.lpo (q + 1, L119, e119, s119, upd f q ((y119.setWidth 64).setWidth 8), rt ++ [y119]) ?_ ?_ ?_ ?_ ?_
        · exact (ESub.cons rfl (by first | rfl | exact evi (by omega)) (ESub.cons rfl rfl (ESub.cons rfl rfl (ESub.cons rfl rfl (ESub.cons rfl rfl (ESub.cons rfl rfl (ESub.cons rfl rfl (ESub.cons rfl rfl (ESub.cons rfl rfl (ESub.cons rfl rfl ESub.nil))))))))))
        · exact (MSub.cons (.there .here) rfl (MSub.cons .here rfl (MSub.cons .here rfl (MSub.cons .here rfl (MSub.cons .here rfl (MSub.cons .here rfl MSub.nil))))))
        · first | omega | (dsimp only; omega)
        · exact (hGl1).trans hG119
        · refine ⟨?_, ?_, ?_, ?_, ?_, ?_⟩
          · (try dsimp only) <;> (first | omega | rfl | assumption | (simp; done))
          · (try dsimp only) <;> (simp [hrt])
          · (try dsimp only) <;> (exact hB9.step (by omega) hN119)
          · (try dsimp only) <;> (exact rt_step hrt ef)
          · (try dsimp only) <;> (have hbd := byte_dec hN119; exact ⟨by omega, fun z => by have := hbd.2 z; have := lX.2 this.1; omega⟩)
          · (try dsimp only) <;> (exact hs119)
      · have c3k := c3
        try simp only [decide_eq_true_eq, decide_eq_false_iff_not, Int.not_lt, Int.not_le, gt_iff_lt, ge_iff_le, Bool.or_eq_true, Bool.and_eq_true, Bool.or_eq_false_iff, Bool.and_eq_false_iff, Bool.not_eq_true', Bool.not_eq_false', Int.toNat_natCast, bne_iff_ne, beq_iff_eq, bne_eq_false_iff_eq, beq_eq_false_iff_ne, ne_eq] at c3
        refine .exit ?_
        refine .xcode ?_
        refine .xlp ?_
        refine .xblk ?_
        refine .code ?_
        refine .seq ?_
        obtain ⟨hee, hsz, hrw⟩ := bg_got ef (hB9.all (by omega) hT3)
        simp only at hee hrw
        subst hee
        refine Wk.rg [0, 1, 2, 3, 4, 5, 6, 7, 8, 9, 10] rfl rfl ?_
        refine mv rfl .no (.u rfl) ?_
        refine kp rfl .no Fx.go58 (Eva.cons (.u rfl) Eva.nil) (Gp.add .here Gp.nil) (fun _ hle hq => rFault_ok L 0 s9 b90 _ RdNP.add) ?_
        refine cp rfl .no (.u rfl) (.u rfl) rfl ?_
        refine mv rfl .no (.u rfl) ?_
        refine mv rfl (.t rfl rfl) (.u rfl) ?_
        refine mv rfl (.t rfl rfl) (.u rfl) ?_
        refine ln rfl (.t rfl rfl) Fx.sn36 (.s rfl) ?_
        refine cw rfl (.t rfl rfl) Fx.cv3_24 (.s rfl) (fun hc => wrap_u64 (by (try simp only [Bool.and_eq_true, decide_eq_true_eq, Bool.not_eq_true', Bool.or_eq_false_iff, decide_eq_false_iff_not] at hc); omega) (by (try simp only [Bool.and_eq_true, decide_eq_true_eq, Bool.not_eq_true', Bool.or_eq_false_iff, decide_eq_false_iff_not] at hc); omega)) ?_
        refine cp rfl (.t rfl rfl) (.s rfl) (.s rfl) rfl ?_
        refine pkA rfl .no (.u rfl) (.s rfl) ?_
        refine kv rfl .no Fx.go43 (Eva.cons (.u rfl) Eva.nil) (fun _ => need_ok _ (by simp; omega) _) ?_
        refine .nil ?_
        refine .code ?_
        refine .seq ?_
        refine Wk.draw (mc := ⟨false, false⟩) [0, 1, 2, 3, 4, 5, 6, 7, 8] Fx.mix (by kernel_rfl) ?_
        refine mv rfl .no (.u rfl) ?_
        refine mv rfl .no (.u rfl) ?_
        refine kE (n113) rfl .no Fx.se36 hsA (.u rfl) (.u rfl) (fun _ => by omega) (fun _ => by omega) ?_
        intro h137 L137 eL137 lL137 hs137
        have lL137 := lL137 rfl
        refine mv rfl .no (.u rfl) ?_
        refine mv rfl .no (.u rfl) ?_
        refine kD (n113) rfl .no Fx.se36 hsA (.u rfl) (.u rfl) (fun _ => by omega) (fun _ => by omega) ?_
        intro h140 L140 eL140 lL140 hs140
        have lL140 := lL140 rfl
        refine fz rfl .no Fx.fo96_1 (.u rfl) ?_
        refine s1 rfl (.u rfl) (.u rfl) rfl Fx.sz36 (.there .here) (by rw [rwC_len]; decide) (rfl) ?_
        refine asg rfl .no (.u rfl) ?_
        refine .nil ?_
        refine .code ?_
        refine .seq ?_
        refine Wk.mixp ⟨false, false⟩ Fx.mix (by kernel_rfl) ?_
        refine Wp.one 0 (by kernel_rfl) ?_
        refine mv rfl .no (.u rfl) ?_
        refine .nil ?_
        refine Wp.one 1 (by kernel_rfl) ?_
        refine mv rfl .no (.u rfl) ?_
        refine .nil ?_
        refine Wp.one 2 (by kernel_rfl) ?_
        refine nc rfl .no (.u rfl) ?_
        refine .nil ?_
        refine Wp.one 3 (by kernel_rfl) ?_
        refine fz rfl .no Fx.fo91_2 (.u rfl) ?_
        refine .nil ?_
        refine Wp.one 4 (by kernel_rfl) ?_
        refine ld rfl .no Fx.ag89 (.u rfl) (fun _ => Rd.own (.there (.there (.there (.there .here)))) wrc_out) ?_
        refine .nil ?_
        refine Wp.one 5 (by kernel_rfl) ?_
        refine lA rfl .no Fx.ag96 (.u rfl) (fun _ => RdN.own .here) (fun _ => rwC_len) ?_
        refine .nil ?_
        refine Wp.b1 6 (by kernel_rfl) ?_
        refine Go.Tan.b1 rfl Fx.se89 Fx.zv96 (.u rfl) rfl rfl (by decide) ?_; intro b148
        refine .nil ?_
        refine Wp.b1 7 (by kernel_rfl) ?_
        refine apS (xs := acc) ((⟨_, L137, f⟩, h137)) rfl Fx.se89 Fx.zv96 rfl (.u rfl) (.u rfl) (.there (.there (.there .here))) .here (rowC_len) (one_app (one2 rfl rfl) (ba_one _ _)) (by omega) (by unfold maxLen; omega) ?_; intro v149 ov149
        refine .nil ?_
        refine Wp.one 8 (by kernel_rfl) ?_
        refine nc rfl .no (.u rfl) ?_
        refine .nil ?_
        refine Wp.one 9 (by kernel_rfl) ?_
        refine fz rfl .no Fx.fo91_2 (.u rfl) ?_
        refine .nil ?_
        refine Wp.b1 10 (by kernel_rfl) ?_
        refine s1v rfl (.u rfl) (.u rfl) .here Fx.sz89 (.there (.there (.there (.there (.there .here))))) (by rw [wrc_len]; decide) (wrs_out) ?_
        refine .nil ?_
        refine Wp.last (by kernel_rfl) ?_
        refine .code ?_
        refine Wk.rg [0, 1, 2, 3, 4, 5] rfl rfl ?_
        refine mv rfl .no (.u rfl) ?_
        refine fz rfl .no Fx.fo96_2 (.u rfl) ?_
        refine lA rfl .no Fx.ag23 (.u rfl) (fun _ => RdN.part (n := 32) (cs' := ba 32 f) (.there (.there (.there .here))) (rwC_leaf)) (fun _ => (by first | exact rowC_len | exact rwC_len | exact (key_len _ _).trans (key_len _ _).symm | exact key_len _ _ | exact ba_len _ _ | exact Meta.len _ | rfl)) ?_
        refine Go.Tan.b1 rfl Fx.se61 Fx.zw23 (.u rfl) rfl rfl (by decide) ?_; intro b155
        refine apS (xs := D) (f) rfl Fx.se61 Fx.zw23 rfl (.u rfl) (.u rfl) (.there (.there (.there (.there (.there (.there .here)))))) .here (ba_len _ _) (ba_one _ _) (by omega) (by unfold maxLen; omega) ?_; intro v156 ov156
        refine asg rfl .no (.u rfl) ?_
        refine .nil ?_
        refine .blk ?_
        refine .code ?_
        refine Wk.rg [0, 1, 2] rfl rfl ?_
        refine mv rfl .no (.u rfl) ?_
        refine ar rfl .no (.u rfl) (.u rfl) rfl (fun _ => wrap_u64 (by omega) (by omega)) ?_
        refine asg rfl .no (.u rfl) ?_
        refine .nil ?_
        refine We.lpo (k + 1, L140, h140, v149, acc ++ [(⟨M110, L137, f⟩, h137)], v156, D ++ [f], L, s9) ?_ ?_ ?_ ?_ ?_
        · exact (ESub.cons rfl rfl (ESub.cons rfl rfl (ESub.cons rfl (congrArg (Value.int .u64) (by dsimp only; omega)) (ESub.cons rfl rfl (ESub.cons rfl rfl (ESub.cons rfl rfl (ESub.cons rfl rfl ESub.nil)))))))
        · exact (MSub.cons (.there (.there (.there .here))) rfl (MSub.cons .here rfl (MSub.cons (.there (.there (.there (.there .here)))) rfl (MSub.cons (.there .here) rfl (MSub.cons (.there (.there (.there .here))) rfl MSub.nil)))))
        · first | omega | (dsimp only; omega)
        · exact (((hGl0).trans hG110).trans hG113).trans hGl1
        · refine ⟨?_, ?_, ?_, ?_, ?_, ?_, ?_⟩
          · (try dsimp only) <;> (first | omega | rfl | assumption | (simp; done))
          · (try dsimp only) <;> (rw [List.map_append, eL137, eL140]; exact hrw)
          · (try dsimp only) <;> (rw [eD, List.map_append]; rfl)
          · (try dsimp only) <;> (have := lX.2 rfl; refine ⟨by rw [List.length_append]; simp; omega, by rw [List.length_append]; simp only [List.length_cons, List.length_nil]; omega, by omega⟩)
          · (try dsimp only) <;> (exact hall.snoc hs137 (by show L137.length ≤ _; omega))
          · (try dsimp only) <;> (exact hs140)
          · (try dsimp only) <;> (exact hsl)
    · have c2k := c2
      try simp only [decide_eq_true_eq, decide_eq_false_iff_not, Int.not_lt, Int.not_le, gt_iff_lt, ge_iff_le, Bool.or_eq_true, Bool.and_eq_true, Bool.or_eq_false_iff, Bool.and_eq_false_iff, Bool.not_eq_true', Bool.not_eq_false', Int.toNat_natCast, bne_iff_ne, beq_iff_eq, bne_eq_false_iff_eq, beq_eq_false_iff_ne, ne_eq] at c2
      refine .skip ?_
      refine .code ?_
      refine .seq ?_
      refine Wk.rg [0, 1, 2] rfl rfl ?_
      refine mv rfl .no (.u rfl) ?_
      refine ka rfl (.inr rfl) Fx.go57 (Eva.cons (.u rfl) Eva.nil) (mtk1 (.there (.there (.there .here)))) (rNum_ok R 0 sR b90 _ hsR (by omega)) ?_
      rintro _ G113 μ113 hG113 ⟨n113, L113, e113, s113, hN113, rfl, rfl, hs113⟩
      have lL113 := rdnum_le hN113; have nL113 := rdnum_lt hN113; simp only at lL113
      have hs := hs.mono hG113
      have hK := hK.mono hG113
      have hbb3 := hbb3.mono hG113
      have hbb4 := hbb4.mono hG113
      have hbb7 := hbb7.mono hG113
      have hs51 := hs51.mono hG113
      have hs56 := hs56.mono hG113
      have hs57 := hs57.mono hG113
      have hs59 := hs59.mono hG113
      have hs78 := hs78.mono hG113
      have hs75 := hs75.mono hG113
      have hs83 := hs83.mono hG113
      have hs89 := hs89.mono hG113
      have hs90 := hs90.mono hG113
      have hs92 := hs92.mono hG113
      have hall := hall.mono hG113
      have hsA := hsA.mono hG113
      have hsR := hsR.mono hG113
      refine asg rfl .no (.u rfl) ?_
      refine .nil ?_
      refine .code ?_
      refine .seq ?_
      refine .seq ?_
      refine Wk.rg [0] rfl rfl ?_
      refine mv rfl .no (.u rfl) ?_
      refine .nil ?_
      refine .code ?_
      refine .block ?_
      have hT3 := (bg_last hrows (by omega) (by omega)).numE hN113
      refine Wk.lop (α := Nat × List Y × Int × Sh × (Nat → Y) × List Y) (fun gh => [(114, true, .int .i64 (gh.1 : Int))]) (fun gh => [.blk b90 (cl [Sh.val gh.2.2.2.1 gh.2.1.length, .int .i64 gh.2.2.1] 145), .blk b18 (cl (rwC [] (.slice none 0 0) gh.2.2.2.2.1) 96)])
        (fun gh Gl => (gh.1 ≤ 32) ∧ (gh.2.2.2.2.2.length = gh.1) ∧ (ByR ⟨L113, e113⟩ ⟨gh.2.1, gh.2.2.1⟩ false gh.2.2.2.2.2) ∧ (∀ i, gh.2.2.2.2.1 i = gh.2.2.2.2.2.getD i 0) ∧ (gh.2.1.length ≤ L113.length ∧ (gh.2.2.1 = 0 → gh.2.1.length + gh.1 ≤ L113.length)) ∧ (SlR Gl 1 encY gh.2.2.2.1 gh.2.1)) (fun gh => 32 - gh.1) (0, L113, e113, s113, (fun _ => 0#8), []) [(4, true, _), (9, true, _), (13, true, _), (14, true, _), (15, true, _), (16, true, _), (17, true, _), (18, true, _), (19, true, _)] [_, _, _, _]
        (ESub.cons rfl (by first | rfl | exact evi (by omega)) (ESub.cons rfl rfl (ESub.cons rfl rfl (ESub.cons rfl rfl (ESub.cons rfl rfl (ESub.cons rfl rfl (ESub.cons rfl rfl (ESub.cons rfl rfl (ESub.cons rfl rfl (ESub.cons rfl rfl ESub.nil))))))))))
        (MSub.cons .here rfl (MSub.cons .here (by first | rfl | (rw [bnil]; rfl)) (MSub.cons .here rfl (MSub.cons .here rfl (MSub.cons .here rfl (MSub.cons .here rfl MSub.nil)))))) ?_ ?_
      · refine ⟨?_, ?_, ?_, ?_, ?_, ?_⟩
        · (try dsimp only) <;> (first | omega | rfl | assumption | (simp; done))
        · (try dsimp only) <;> (first | omega | rfl | assumption | (simp; done))
        · (try dsimp only) <;> (exact ByR.zero)
        · (try dsimp only) <;> (exact fun i => by simp)
        · (try dsimp only) <;> (exact ⟨Nat.le_refl _, fun _ => Nat.le_refl _⟩)
        · (try dsimp only) <;> (exact hs113)
      intro gh N2 Gl2 hN2 hGl2 hF2
      obtain ⟨q, L, ee, s9, f, rt⟩ := gh; dsimp only at hF2 hN2 ⊢
      obtain ⟨hq, hrt, hB9, ef, lX, hsl⟩ := hF2
      have hs := hs.mono hGl2
      have hK := hK.mono hGl2
      have hbb3 := hbb3.mono hGl2
      have hbb4 := hbb4.mono hGl2
      have hbb7 := hbb7.mono hGl2
      have hs51 := hs51.mono hGl2
      have hs56 := hs56.mono hGl2
      have hs57 := hs57.mono hGl2
      have hs59 := hs59.mono hGl2
      have hs78 := hs78.mono hGl2
      have hs75 := hs75.mono hGl2
      have hs83 := hs83.mono hGl2
      have hs89 := hs89.mono hGl2
      have hs90 := hs90.mono hGl2
      have hs92 := hs92.mono hGl2
      have hall := hall.mono hGl2
      have hsA := hsA.mono hGl2
      have hsR := hsR.mono hGl2
      have hs113 := hs113.mono hGl2
      refine .seq ?_
      refine Wk.rg [0] rfl rfl ?_
      refine cp rfl .no (.u rfl) (.u rfl) rfl ?_
      refine .nil ?_
      refine .code ?_
      refine .seq ?_
      refine .cond rfl (fun c4 => ?_) (fun c4 => ?_)
      · have c4k := c4
        try simp only [decide_eq_true_eq, decide_eq_false_iff_not, Int.not_lt, Int.not_le, gt_iff_lt, ge_iff_le, Bool.or_eq_true, Bool.and_eq_true, Bool.or_eq_false_iff, Bool.and_eq_false_iff, Bool.not_eq_true', Bool.not_eq_false', Int.toNat_natCast, bne_iff_ne, beq_iff_eq, bne_eq_false_iff_eq, beq_eq_false_iff_ne, ne_eq] at c4
        refine .skip ?_
        refine .code ?_
        refine .seq ?_
        refine .block ?_
        refine .seq ?_
        refine Wk.rg [0, 1] rfl rfl ?_
        refine mv rfl .no (.u rfl) ?_
        refine asg rfl .no (.u rfl) ?_
        refine .nil ?_
        refine .code ?_
        refine Wk.rg [0, 1, 2, 3, 4, 5, 6] rfl rfl ?_
        refine mv rfl .no (.u rfl) ?_
        refine mv rfl .no (.u rfl) ?_
        refine ka rfl (.inr rfl) Fx.go55 (Eva.cons (.u rfl) (Eva.cons (.u rfl) Eva.nil)) (mtk1 .here) (rFix_ok L ee s9 b90 _ hsl (by omega)) ?_
        rintro _ G119 μ119 hG119 ⟨y119, L119, e119, s119, hN119, rfl, rfl, hs119⟩
        have lL119 := rdbyte_le hN119; simp only at lL119
        have hs := hs.mono hG119
        have hK := hK.mono hG119
        have hbb3 := hbb3.mono hG119
        have hbb4 := hbb4.mono hG119
        have hbb7 := hbb7.mono hG119
        have hs51 := hs51.mono hG119
        have hs56 := hs56.mono hG119
        have hs57 := hs57.mono hG119
        have hs59 := hs59.mono hG119
        have hs78 := hs78.mono hG119
        have hs75 := hs75.mono hG119
        have hs83 := hs83.mono hG119
        have hs89 := hs89.mono hG119
        have hs90 := hs90.mono hG119
        have hs92 := hs92.mono hG119
        have hall := hall.mono hG119
        have hsA := hsA.mono hG119
        have hsR := hsR.mono hG119
        have hs113 := hs113.mono hG119
        have hsl := hsl.mono hG119
        refine cu (k := .u64) rfl .no rfl Fx.cv24_5 (.u rfl) ?_
        refine fz rfl .no Fx.fo96_2 (.u rfl) ?_
        refine iA rfl .no Fx.ar23 (.u rfl) (.u rfl) (fun _ => by omega) (fun _ => by omega) ?_
        refine s1 rfl (.u rfl) (.u rfl) rfl Fx.sz5 (.there .here) (by rw [rwC_len]; omega) (rwC_set (k := q) (by omega)) ?_
        refine .nil ?_
        refine .blk ?_
        refine .code ?_
        refine Wk.rg [0, 1] rfl rfl ?_
        refine arn (((q + 1) : Nat) : Int) rfl .no (.u rfl) (.u rfl) rfl (fun _ => by omega) (fun _ => wrap_i64 (by omega) (by omega)) ?_
        refine mv rfl .no (.u rfl) ?_
        refine .nil ?_
        refine We.lpo (q + 1, L119, e119, s119, upd f q ((y119.setWidth 64).setWidth 8), rt ++ [y119]) ?_ ?_ ?_ ?_ ?_
        · exact (ESub.cons rfl (by first | rfl | exact evi (by omega)) (ESub.cons rfl rfl (ESub.cons rfl rfl (ESub.cons rfl rfl (ESub.cons rfl rfl (ESub.cons rfl rfl (ESub.cons rfl rfl (ESub.cons rfl rfl (ESub.cons rfl rfl (ESub.cons rfl rfl ESub.nil))))))))))
        · exact (MSub.cons (.there .here) rfl (MSub.cons .here rfl (MSub.cons .here rfl (MSub.cons .here rfl (MSub.cons .here rfl (MSub.cons .here rfl MSub.nil))))))
        · first | omega | (dsimp only; omega)
        · exact (hGl2).trans hG119
        · refine ⟨?_, ?_, ?_, ?_, ?_, ?_⟩
          · (try dsimp only) <;> (first | omega | rfl | assumption | (simp; done))
          · (try dsimp only) <;> (simp [hrt])
          · (try dsimp only) <;> (exact hB9.step (by omega) hN119)
          · (try dsimp only) <;> (exact rt_step hrt ef)
          · (try dsimp only) <;> (have hbd := byte_dec hN119; exact ⟨by omega, fun z => by have := hbd.2 z; have := lX.2 this.1; omega⟩)
          · (try dsimp only) <;> (exact hs119)
      · have c4k := c4
        try simp only [decide_eq_true_eq, decide_eq_false_iff_not, Int.not_lt, Int.not_le, gt_iff_lt, ge_iff_le, Bool.or_eq_true, Bool.and_eq_true, Bool.or_eq_false_iff, Bool.and_eq_false_iff, Bool.not_eq_true', Bool.not_eq_false', Int.toNat_natCast, bne_iff_ne, beq_iff_eq, bne_eq_false_iff_eq, beq_eq_false_iff_ne, ne_eq] at c4
        refine .exit ?_
        refine .xcode ?_
        refine .xlp ?_
        refine .xblk ?_
        refine .code ?_
        refine .seq ?_
        obtain ⟨hee, hsz, hrw⟩ := bg_got ef (hB9.all (by omega) hT3)
        simp only at hee hrw
        subst hee
        refine Wk.rg [0, 1, 2, 3, 4, 5, 6, 7, 8, 9, 10] rfl rfl ?_
        refine mv rfl .no (.u rfl) ?_
        refine kp rfl .no Fx.go58 (Eva.cons (.u rfl) Eva.nil) (Gp.add .here Gp.nil) (fun _ hle hq => rFault_ok L 0 s9 b90 _ RdNP.add) ?_
        refine cp rfl .no (.u rfl) (.u rfl) rfl ?_
        refine mv rfl .no (.u rfl) ?_
        refine mv rfl (.t rfl rfl) (.u rfl) ?_
        refine mv rfl (.t rfl rfl) (.u rfl) ?_
        refine ln rfl (.t rfl rfl) Fx.sn36 (.s rfl) ?_
        refine cw rfl (.t rfl rfl) Fx.cv3_24 (.s rfl) (fun hc => wrap_u64 (by (try simp only [Bool.and_eq_true, decide_eq_true_eq, Bool.not_eq_true', Bool.or_eq_false_iff, decide_eq_false_iff_not] at hc); omega) (by (try simp only [Bool.and_eq_true, decide_eq_true_eq, Bool.not_eq_true', Bool.or_eq_false_iff, decide_eq_false_iff_not] at hc); omega)) ?_
        refine cp rfl (.t rfl rfl) (.s rfl) (.s rfl) rfl ?_
        refine pkA rfl .no (.u rfl) (.s rfl) ?_
        refine kv rfl .no Fx.go43 (Eva.cons (.u rfl) Eva.nil) (fun _ => need_ok _ (by simp; omega) _) ?_
        refine .nil ?_
        refine .code ?_
        refine .seq ?_
        refine Wk.draw (mc := ⟨false, false⟩) [0, 1, 2, 3, 4, 5, 6, 7, 8] Fx.mix (by kernel_rfl) ?_
        refine mv rfl .no (.u rfl) ?_
        refine mv rfl .no (.u rfl) ?_
        refine kE (n113) rfl .no Fx.se36 hsA (.u rfl) (.u rfl) (fun _ => by omega) (fun _ => by omega) ?_
        intro h137 L137 eL137 lL137 hs137
        have lL137 := lL137 rfl
        refine mv rfl .no (.u rfl) ?_
        refine mv rfl .no (.u rfl) ?_
        refine kD (n113) rfl .no Fx.se36 hsA (.u rfl) (.u rfl) (fun _ => by omega) (fun _ => by omega) ?_
        intro h140 L140 eL140 lL140 hs140
        have lL140 := lL140 rfl
        refine fz rfl .no Fx.fo96_1 (.u rfl) ?_
        refine s1 rfl (.u rfl) (.u rfl) rfl Fx.sz36 (.there .here) (by rw [rwC_len]; decide) (rfl) ?_
        refine asg rfl .no (.u rfl) ?_
        refine .nil ?_
        refine .code ?_
        refine .seq ?_
        refine Wk.mixp ⟨false, false⟩ Fx.mix (by kernel_rfl) ?_
        refine Wp.one 0 (by kernel_rfl) ?_
        refine mv rfl .no (.u rfl) ?_
        refine .nil ?_
        refine Wp.one 1 (by kernel_rfl) ?_
        refine mv rfl .no (.u rfl) ?_
        refine .nil ?_
        refine Wp.one 2 (by kernel_rfl) ?_
        refine nc rfl .no (.u rfl) ?_
        refine .nil ?_
        refine Wp.one 3 (by kernel_rfl) ?_
        refine fz rfl .no Fx.fo91_2 (.u rfl) ?_
        refine .nil ?_
        refine Wp.one 4 (by kernel_rfl) ?_
        refine ld rfl .no Fx.ag89 (.u rfl) (fun _ => Rd.own (.there (.there (.there (.there .here)))) wrc_out) ?_
        refine .nil ?_
        refine Wp.one 5 (by kernel_rfl) ?_
        refine lA rfl .no Fx.ag96 (.u rfl) (fun _ => RdN.own .here) (fun _ => rwC_len) ?_
        refine .nil ?_
        refine Wp.b1 6 (by kernel_rfl) ?_
        refine Go.Tan.b1 rfl Fx.se89 Fx.zv96 (.u rfl) rfl rfl (by decide) ?_; intro b148
        refine .nil ?_
        refine Wp.b1 7 (by kernel_rfl) ?_
        refine apS (xs := acc) ((⟨_, L137, f⟩, h137)) rfl Fx.se89 Fx.zv96 rfl (.u rfl) (.u rfl) (.there (.there (.there .here))) .here (rowC_len) (one_app (one2 rfl rfl) (ba_one _ _)) (by omega) (by unfold maxLen; omega) ?_; intro v149 ov149
        refine .nil ?_
        refine Wp.one 8 (by kernel_rfl) ?_
        refine nc rfl .no (.u rfl) ?_
        refine .nil ?_
        refine Wp.one 9 (by kernel_rfl) ?_
        refine fz rfl .no Fx.fo91_2 (.u rfl) ?_
        refine .nil ?_
        refine Wp.b1 10 (by kernel_rfl) ?_
        refine s1v rfl (.u rfl) (.u rfl) .here Fx.sz89 (.there (.there (.there (.there (.there .here))))) (by rw [wrc_len]; decide) (wrs_out) ?_
        refine .nil ?_
        refine Wp.last (by kernel_rfl) ?_
        refine .code ?_
        refine Wk.rg [0, 1, 2, 3, 4, 5] rfl rfl ?_
        refine mv rfl .no (.u rfl) ?_
        refine fz rfl .no Fx.fo96_2 (.u rfl) ?_
        refine lA rfl .no Fx.ag23 (.u rfl) (fun _ => RdN.part (n := 32) (cs' := ba 32 f) (.there (.there (.there .here))) (rwC_leaf)) (fun _ => (by first | exact rowC_len | exact rwC_len | exact (key_len _ _).trans (key_len _ _).symm | exact key_len _ _ | exact ba_len _ _ | exact Meta.len _ | rfl)) ?_
        refine Go.Tan.b1 rfl Fx.se61 Fx.zw23 (.u rfl) rfl rfl (by decide) ?_; intro b155
        refine apS (xs := D) (f) rfl Fx.se61 Fx.zw23 rfl (.u rfl) (.u rfl) (.there (.there (.there (.there (.there (.there .here)))))) .here (ba_len _ _) (ba_one _ _) (by omega) (by unfold maxLen; omega) ?_; intro v156 ov156
        refine asg rfl .no (.u rfl) ?_
        refine .nil ?_
        refine .blk ?_
        refine .code ?_
        refine Wk.rg [0, 1, 2] rfl rfl ?_
        refine mv rfl .no (.u rfl) ?_
        refine ar rfl .no (.u rfl) (.u rfl) rfl (fun _ => wrap_u64 (by omega) (by omega)) ?_
        refine asg rfl .no (.u rfl) ?_
        refine .nil ?_
        refine We.lpo (k + 1, L140, h140, v149, acc ++ [(⟨[], L137, f⟩, h137)], v156, D ++ [f], L, s9) ?_ ?_ ?_ ?_ ?_
        · exact (ESub.cons rfl rfl (ESub.cons rfl rfl (ESub.cons rfl (congrArg (Value.int .u64) (by dsimp only; omega)) (ESub.cons rfl rfl (ESub.cons rfl rfl (ESub.cons rfl rfl (ESub.cons rfl rfl ESub.nil)))))))
        · exact (MSub.cons (.there (.there (.there .here))) rfl (MSub.cons .here rfl (MSub.cons (.there (.there (.there (.there .here)))) rfl (MSub.cons (.there .here) rfl (MSub.cons (.there (.there (.there .here))) rfl MSub.nil)))))
        · first | omega | (dsimp only; omega)
        · exact ((hGl0).trans hG113).trans hGl2
        · refine ⟨?_, ?_, ?_, ?_, ?_, ?_, ?_⟩
          · (try dsimp only) <;> (first | omega | rfl | assumption | (simp; done))
          · (try dsimp only) <;> (rw [List.map_append, eL137, eL140]; exact hrw)
          · (try dsimp only) <;> (rw [eD, List.map_append]; rfl)
          · (try dsimp only) <;> (have := lX.2 rfl; refine ⟨by rw [List.length_append]; simp; omega, by rw [List.length_append]; simp only [List.length_cons, List.length_nil]; omega, by omega⟩)
          · (try dsimp only) <;> (exact hall.snoc hs137 (by show L137.length ≤ _; omega))
          · (try dsimp only) <;> (exact hs140)
          · (try dsimp only) <;> (exact hsl)
  · have c1k := c1
    try simp only [decide_eq_true_eq, decide_eq_false_iff_not, Int.not_lt, Int.not_le, gt_iff_lt, ge_iff_le, Bool.or_eq_true, Bool.and_eq_true, Bool.or_eq_false_iff, Bool.and_eq_false_iff, Bool.not_eq_true', Bool.not_eq_false', Int.toNat_natCast, bne_iff_ne, beq_iff_eq, bne_eq_false_iff_eq, beq_eq_false_iff_ne, ne_eq] at c1
    refine .exit ?_
    refine .xcode ?_
    refine .xlp ?_
    refine .xblk ?_
    refine .code ?_
    refine .seq ?_
    have hz := hrows
    rw [show n92 + 1 - k = 0 by omega] at hz
    obtain ⟨eR0, eA0, hacc⟩ := rows_end hz
    refine Wk.mixp ⟨true, false⟩ Fx.mix (by kernel_rfl) ?_
    refine Wp.one 0 (by kernel_rfl) ?_
    refine mv rfl .no (.u rfl) ?_
    refine .nil ?_
    refine Wp.b1 1 (by kernel_rfl) ?_
    refine kp rfl .no Fx.go60 (Eva.cons (.u rfl) Eva.nil) (Gp.add (.there (.there .here)) Gp.nil) (fun _ hle hq => rEnd_ok R 0 sR b90 _ RdNP.add) ?_
    refine .nil ?_
    refine Wp.one 2 (by kernel_rfl) ?_
    refine cp rfl .no (.u rfl) (.u rfl) rfl ?_
    refine .nil ?_
    refine Wp.one 3 (by kernel_rfl) ?_
    refine mv rfl .no (.u rfl) ?_
    refine wo_b true (by rw [eR0]; rfl) ?_
    refine .nil ?_
    refine Wp.one 4 (by kernel_rfl) ?_
    refine mv rfl (.t rfl rfl) (.u rfl) ?_
    refine .nil ?_
    refine Wp.one 5 (by kernel_rfl) ?_
    refine ln rfl (.t rfl rfl) Fx.sn36 (.u rfl) ?_
    refine .nil ?_
    refine Wp.one 6 (by kernel_rfl) ?_
    refine cp rfl (.t rfl rfl) (.u rfl) (.u rfl) rfl ?_
    refine .nil ?_
    refine Wp.one 7 (by kernel_rfl) ?_
    refine pkA rfl .no (.u rfl) (.u rfl) ?_
    refine .nil ?_
    refine Wp.one 8 (by kernel_rfl) ?_
    refine mv rfl .no (.u rfl) ?_
    refine wo_b true (by rw [eA0]; rfl) ?_
    refine .nil ?_
    refine Wp.one 9 (by kernel_rfl) ?_
    refine mv rfl (.t rfl rfl) (.u rfl) ?_
    refine .nil ?_
    refine Wp.one 10 (by kernel_rfl) ?_
    refine mv rfl (.t rfl rfl) (.u rfl) ?_
    refine .nil ?_
    refine Wp.one 11 (by kernel_rfl) ?_
    refine nc rfl (.t rfl rfl) (.u rfl) ?_
    refine .nil ?_
    refine Wp.one 12 (by kernel_rfl) ?_
    refine fz rfl (.t rfl rfl) Fx.fo91_3 (.u rfl) ?_
    refine .nil ?_
    refine Wp.one 13 (by kernel_rfl) ?_
    refine ld rfl (.t rfl rfl) Fx.ag36 (.u rfl) (fun _ => Rd.own (.there (.there (.there .here))) wrc_lvs) ?_
    refine .nil ?_
    refine Wp.one 18 (by kernel_rfl) ?_
    refine fa rfl (.t rfl rfl) Fx.fo38_8 (.u rfl) ?_
    refine .nil ?_
    refine Wp.pr 19 (by kernel_rfl) ?_
    refine lA rfl (.t rfl rfl) Fx.ag23 (.u rfl) (fun _ => (hbb4.rdn (m := 32) (cs' := ba 32 (fun i => BitVec.ofInt 8 (m.root i))) (root_cells hw)).rd) (fun _ => (ba_len _ _)) ?_
    refine .nil ⟨⟨rfl, rfl⟩, ?_⟩
    refine Wp.b1 14 (by kernel_rfl) ?_
    refine kv rfl (.t rfl rfl) FxTbH.go17 (Eva.cons (.u rfl) Eva.nil) (fun _ => leaf_ok L78 h78 _ hs78 hK (by omega)) ?_
    refine .nil ?_
    refine Wp.b1 15 (by kernel_rfl) ?_
    refine Go.Tan.b1g rfl (.t rfl rfl) Fx.se61 Fx.zw23 (.u rfl) rfl rfl (by decide) ?_; intro b172
    refine .nil ?_
    refine Wp.b1 16 (by kernel_rfl) ?_
    refine apSg (xs := D) ((leafD L78)) rfl (.t rfl rfl) Fx.se61 Fx.zw23 rfl (.u rfl) (.u rfl) (.there (.there .here)) .here (ba_len _ _) (ba_one _ _) (by omega) (by unfold maxLen; omega) ?_; intro v173 ov173
    refine .nil ?_
    refine Wp.b1 17 (by kernel_rfl) ?_
    refine kag rfl (.t rfl rfl) (.inl rfl) FxTbI.go18 (Eva.cons (.u rfl) Eva.nil) (mtk1 .here) (take_row (D ++ [leafD L78]) v173 _ hK (by rw [List.length_append, eD, List.length_map]; simp only [List.length_cons, List.length_nil]; omega)) ?_
    rintro _ G174 μ174 hG174 ⟨_, rfl, rfl, rfl⟩
    have hs := hs.mono hG174
    have hK := hK.mono hG174
    have hbb3 := hbb3.mono hG174
    have hbb4 := hbb4.mono hG174
    have hbb7 := hbb7.mono hG174
    have hs51 := hs51.mono hG174
    have hs56 := hs56.mono hG174
    have hs57 := hs57.mono hG174
    have hs59 := hs59.mono hG174
    have hs78 := hs78.mono hG174
    have hs75 := hs75.mono hG174
    have hs83 := hs83.mono hG174
    have hs89 := hs89.mono hG174
    have hs90 := hs90.mono hG174
    have hs92 := hs92.mono hG174
    have hall := hall.mono hG174
    have hsA := hsA.mono hG174
    have hsR := hsR.mono hG174
    refine .nil ?_
    refine Wp.one 20 (by kernel_rfl) ?_
    refine eqB rfl (.t rfl rfl) Fx.baT23 (.u rfl) (.u rfl) ?_
    refine .nil ?_
    refine Wp.one 21 (by kernel_rfl) ?_
    refine pkA rfl .no (.u rfl) (.u rfl) ?_
    refine .nil ?_
    refine Wp.b1 22 (by kernel_rfl) ?_
    refine kv rfl .no Fx.go43 (Eva.cons (.u rfl) Eva.nil) (fun _ => need_ok _ (by rw [Bool.true_and]; exact decide_eq_true (root_wf hw (by rw [eD, hix]; have := B.root; rw [← hacc, List.map_map] at this; exact this))) _) ?_
    refine .nil ?_
    refine Wp.last (by kernel_rfl) ?_
    refine .code ?_
    refine .seq ?_
    refine wk_fs (.there (.there .here)) (fun _ _ => rfl) (by intro b hb; cases hb) ?_; intro GfRR hRR hleRR evRR hsRR; subst evRR
    have hs := hs.mono hleRR
    have hK := hK.mono hleRR
    have hbb3 := hbb3.mono hleRR
    have hbb4 := hbb4.mono hleRR
    have hbb7 := hbb7.mono hleRR
    have hs51 := hs51.mono hleRR
    have hs56 := hs56.mono hleRR
    have hs57 := hs57.mono hleRR
    have hs59 := hs59.mono hleRR
    have hs78 := hs78.mono hleRR
    have hs75 := hs75.mono hleRR
    have hs83 := hs83.mono hleRR
    have hs89 := hs89.mono hleRR
    have hs90 := hs90.mono hleRR
    have hs92 := hs92.mono hleRR
    have hall := hall.mono hleRR
    have hsA := hsA.mono hleRR
    have hsR := hsR.mono hleRR
    refine Wk.rg [0, 1] rfl rfl ?_
    refine mv rfl .no (.u rfl) ?_
    refine asg rfl .no (.u rfl) ?_
    refine .nil ?_
    refine .code ?_
    refine .ret ?_
    refine We.fin Tryd.results34 (.tmp rfl .nil) (MSub.cons (.there (.there (.there .here))) rfl MSub.nil) ?_
    exact ⟨b80, acc, h75, hRR, h78, hacc, by rw [← hix], rfl, ⟨hs75, hsRR, hall.each, by rw [← hix]; exact hs78, hall.sm, by omega⟩⟩

end Go.Proofs.YtbdnclpopappeaaDoor

namespace Go.Proofs.YtbdnclpopappeaaDoor
set_option linter.unusedSimpArgs false
set_option linter.unusedVariables false
open Go.Tan Go.RowKit

namespace Fx
theorem go33 : goFn Tryd.prog 33 = true := by kernel_rfl
theorem if20 : ifT Tryd.prog 20 = true := by kernel_rfl
theorem sn89 : (slE Tryd.prog 89).isSome = true := by kernel_rfl
theorem go38 : goFn Tryd.prog 38 = true := by kernel_rfl
theorem go41 : goFn Tryd.prog 41 = true := by kernel_rfl
theorem zr39 : zrL Tryd.prog 39 = some ([.int .i64 0]) := by kernel_rfl
theorem go34 : goFn Tryd.prog 34 = true := by kernel_rfl
theorem go35 : goFn Tryd.prog 35 = true := by kernel_rfl
theorem go37 : goFn Tryd.prog 37 = true := by kernel_rfl
theorem go39 : goFn Tryd.prog 39 = true := by kernel_rfl
theorem fo38_5 : fOff Tryd.prog 38 5 = some 5 := by kernel_rfl
theorem fo38_6 : fOff Tryd.prog 38 6 = some 6 := by kernel_rfl
theorem fo38_7 : fOff Tryd.prog 38 7 = some 7 := by kernel_rfl
end Fx
theorem caught_ret (w : World) (a : Addr) : CallsD Tryd.prog 33 #[.pointer (some a)] .returning w (fun e u' w' => (∃ v, e = .returned v) ∧ u' = .returning ∧ w' = w) := by
  refine callsD_of_wpS Tryd.func33 rfl fun c₀ cs hu => ?_
  refine wpS_seq (wpS_region ?_)
  have hr : recoverD (c₀ :: cs) = none := by simp [recoverD, hu]
  rw [show Tryd.f33.ntmps = 11 from rfl]
  simp only [wpOpsS, List.range, List.range.loop, Array.size, List.length, List.getElem?_toArray, List.getElem?_cons_zero, List.getElem?_cons_succ, Region.wanted, if_true]
  have e1 : ∀ (ρ : Operand → Value) (d : Option Nat) (t : TypeId) (p : String) (af : Array Edge), (execOp ρ ⟨d, .call { callee := .builtin .recover, args := #[], argTypes := #[] }, t, p, af, none⟩).run Tryd.prog w = .ok .recover w := fun ρ d t p af => by
    simp [execOp, resolve, invoke, builtin]
  simp only [e1, hr]
  simp [execOp, Oper.upon, Exit.thenS, Act.put, Act.eval]
  refine wpS_of_wp ?_
  refine wp_seq (wp_region ?_)
  simp [wpOps, Region.wanted, execOp, Oper.wp, Oper.upon, Exit.then, Act.put, Act.eval, List.range, List.range.loop]
  refine .inl (wp_block (wp_seq (wp_region ?_)))
  have e2 : (binOp .eql 20 .nilIface .nilIface).run Tryd.prog w = .ok (.bool true) w := by
    have hu20 := ifT_some Fx.if20
    obtain ⟨q, hq⟩ := hu20
    have e4 : ∀ d, (Op.equalIn (d + 1) 20 .nilIface .nilIface).run Tryd.prog w = .ok true w := fun d => by
      unfold Op.equalIn
      simp only [Sem.run_bind, run_underlying hq, Result.andThen_ok, Sem.run_pure]
    obtain ⟨d, hd⟩ : ∃ d, Op.maxDepth = d + 1 := Nat.exists_eq_succ_of_ne_zero (by decide)
    simp [binOp, Op.equal, hd, e4]
  have e3 : (eqGuard .eql 20 (.tmp 4) (.const .nilIface) .nilIface .nilIface).run Tryd.prog w = .ok () w := by unfold eqGuard; simp
  simp [wpOps, Region.wanted, execOp, Oper.wp, Oper.upon, Exit.then, Act.put, Act.eval, List.range, List.range.loop, e2, e3]
  refine .inl (.inl (wp_cond_true (by simp [Act.eval]) (wp_skip ?_)))
  refine ⟨rfl, .returning, by rw [← hu], .tuple #[], ?_, ⟨_, rfl⟩, rfl, rfl⟩
  simp [results, Tryd.f33]
theorem idxR_ok (h : Sh) (l : List (RowT × Sh)) (G : PM) (hs : SlR G 34 rowC h l) (hl : l.length ≤ 100000000) (f : Nat) (hf : goFn Tryd.prog f = true) (vc : List Value) (p : (RowT × Sh) → Bool) (hc : ∀ G', PM.le G G' → ∀ m ∈ l, Ct Tryd.prog f ([Value.agg (rowC m).toArray] ++ vc).toArray G' [] fun _ μ' u => μ' = [] ∧ u = .bool (p m)) : Ct Tryd.prog 37 ([h.val l.length, .func (.func f) #[] vc.toArray] : List Value).toArray G [] (fun _ μ' u => μ' = [] ∧ u = .int .i64 (idxZ p l)) := by
  refine Ct.of Tryd.func37 rfl Tryd.ntmps37 rfl fun w0 hs0 => ?_
  refine .seq ?_
  refine Wk.rg [0] rfl rfl ?_
  refine asg rfl .no (.u rfl) ?_
  refine .nil ?_
  refine .code ?_
  refine .seq ?_
  refine .seq ?_
  refine Wk.rg [0, 1, 2] rfl rfl ?_
  refine mv rfl .no (.u rfl) ?_
  refine ln rfl .no Fx.sn89 (.u rfl) ?_
  refine mv rfl .no (.u rfl) ?_
  refine .nil ?_
  refine .code ?_
  refine .block ?_
  refine Wk.lop (α := Nat) (fun k => [(8, true, .int .i64 (k : Int))]) (fun _ => [])
    (fun k Gl => (k ≤ l.length) ∧ (∀ j y, j < k → l[j]? = some y → p y = false)) (fun k => l.length - k) 0 [(0, true, _), (1, true, _), (7, true, _)] []
    (ESub.cons rfl (by first | rfl | exact evi (by omega)) (ESub.cons rfl rfl (ESub.cons rfl rfl (ESub.cons rfl rfl ESub.nil))))
    MSub.nil ?_ ?_
  · refine ⟨?_, ?_⟩
    · (try dsimp only) <;> (first | omega | rfl | assumption | (simp; done))
    · (try dsimp only) <;> (exact fun j y h => absurd h (Nat.not_lt_zero _))
  intro k N0 Gl0 hN0 hGl0 hF0
  try dsimp only at hF0 hN0 ⊢
  obtain ⟨hk, hno⟩ := hF0
  have hs := hs.mono hGl0
  refine .seq ?_
  refine Wk.rg [0] rfl rfl ?_
  refine cp rfl .no (.u rfl) (.u rfl) rfl ?_
  refine .nil ?_
  refine .code ?_
  refine .seq ?_
  refine .cond rfl (fun c1 => ?_) (fun c1 => ?_)
  · have c1k := c1
    try simp only [decide_eq_true_eq, decide_eq_false_iff_not, Int.not_lt, Int.not_le, gt_iff_lt, ge_iff_le, Bool.or_eq_true, Bool.and_eq_true, Bool.or_eq_false_iff, Bool.not_eq_true', Bool.not_eq_false', Int.toNat_natCast, bne_iff_ne, beq_iff_eq, bne_eq_false_iff_eq, beq_eq_false_iff_ne, ne_eq] at c1
    refine .skip ?_
    refine .code ?_
    refine .seq ?_
    refine .block ?_
    refine .seq ?_
    refine Wk.rg [0, 1] rfl rfl ?_
    refine mv rfl .no (.u rfl) ?_
    refine asg rfl .no (.u rfl) ?_
    refine .nil ?_
    refine .code ?_
    refine .seq ?_
    refine Wk.rg [0, 1, 2, 3, 4, 5] rfl rfl ?_
    refine mv rfl .no (.u rfl) ?_
    refine mv rfl .no (.u rfl) ?_
    refine mv rfl .no (.u rfl) ?_
    refine ih rfl .no Fx.se89 (.u rfl) (.u rfl) (fun _ => by omega) (fun _ => by omega) (fun _ => hs.nn (k := k) (by first | omega | (simp only [Bool.and_eq_true, decide_eq_true_eq] at hc; omega) | (simp only [List.length_cons, List.length_nil]; omega))) ?_
    obtain ⟨x, ex⟩ := getx (k := k) (xs := l) (by omega)
    refine lA rfl .no Fx.ag96 (.u rfl) (fun _ => (hs.at (by omega) ex).rd) (fun _ => rowC_len) ?_
    refine kf rfl .no (.u rfl) hf (Eva.cons (.u rfl) Eva.nil) (fun _ => hc _ hGl0 x (List.mem_of_getElem? ex)) ?_
    refine .nil ?_
    refine .code ?_
    refine .cond rfl (fun c2 => ?_) (fun c2 => ?_)
    · have c2k := c2
      try simp only [decide_eq_true_eq, decide_eq_false_iff_not, Int.not_lt, Int.not_le, gt_iff_lt, ge_iff_le, Bool.or_eq_true, Bool.and_eq_true, Bool.or_eq_false_iff, Bool.not_eq_true', Bool.not_eq_false', Int.toNat_natCast, bne_iff_ne, beq_iff_eq, bne_eq_false_iff_eq, beq_eq_false_iff_ne, ne_eq] at c2
      refine .seq ?_
      refine Wk.rg [0, 1] rfl rfl ?_
      refine mv rfl .no (.u rfl) ?_
      refine asg rfl .no (.u rfl) ?_
      refine .nil ?_
      refine .code ?_
      refine .ret ?_
      refine We.fin0 Tryd.results37 (.tmp rfl .nil) ?_
      exact ⟨rfl, idz_hit hno ex (by simpa using c2k)⟩
    · have c2k := c2
      try simp only [decide_eq_true_eq, decide_eq_false_iff_not, Int.not_lt, Int.not_le, gt_iff_lt, ge_iff_le, Bool.or_eq_true, Bool.and_eq_true, Bool.or_eq_false_iff, Bool.not_eq_true', Bool.not_eq_false', Int.toNat_natCast, bne_iff_ne, beq_iff_eq, bne_eq_false_iff_eq, beq_eq_false_iff_ne, ne_eq] at c2
      refine .skip ?_
      refine .blk ?_
      refine .code ?_
      refine Wk.rg [0, 1] rfl rfl ?_
      refine arn (((k + 1) : Nat) : Int) rfl .no (.u rfl) (.u rfl) rfl (fun _ => by omega) (fun _ => wrap_i64 (by omega) (by omega)) ?_
      refine mv rfl .no (.u rfl) ?_
      refine .nil ?_
      refine We.lpo (k + 1) ?_ ?_ ?_ ?_ ?_
      · exact (ESub.cons rfl (by first | rfl | exact evi (by omega)) (ESub.cons rfl rfl (ESub.cons rfl rfl (ESub.cons rfl rfl ESub.nil))))
      · exact MSub.nil
      · first | omega | (dsimp only; omega)
      · exact hGl0
      · refine ⟨?_, ?_⟩
        · (try dsimp only) <;> (first | omega | rfl | assumption | (simp; done))
        · (try dsimp only) <;> (exact idz_step hno ex (by simpa using c2k))
  · have c1k := c1
    try simp only [decide_eq_true_eq, decide_eq_false_iff_not, Int.not_lt, Int.not_le, gt_iff_lt, ge_iff_le, Bool.or_eq_true, Bool.and_eq_true, Bool.or_eq_false_iff, Bool.not_eq_true', Bool.not_eq_false', Int.toNat_natCast, bne_iff_ne, beq_iff_eq, bne_eq_false_iff_eq, beq_eq_false_iff_ne, ne_eq] at c1
    refine .exit ?_
    refine .xcode ?_
    refine .xlp ?_
    refine .xblk ?_
    refine .code ?_
    refine .seq ?_
    refine Wk.rg [0] rfl rfl ?_
    refine asg rfl .no (.u rfl) ?_
    refine .nil ?_
    refine .code ?_
    refine .ret ?_
    refine We.fin0 Tryd.results37 (.tmp rfl .nil) ?_
    exact ⟨rfl, idz_none hno (by omega)⟩

theorem get1_ok (p : RowT × Sh) (user : ByteArray) (b : Nat) (G : PM) (hb : PB G b (cl [.string user] 9)) : Ct Tryd.prog 38 ([.agg (rowC p).toArray, .pointer (some ⟨b, 0, none⟩)] : List Value).toArray G [] (fun _ μ' u => μ' = [] ∧ u = .bool (notLt user p)) := by
  refine Ct.of Tryd.func38 rfl Tryd.ntmps38 rfl fun w0 hs0 => ?_
  refine .seq ?_
  refine Wk.rg [0, 1] rfl rfl ?_
  refine bx rfl (.u rfl) rfl ?_; intro b2
  refine asg rfl .no (.u rfl) ?_
  refine .nil ?_
  refine .code ?_
  refine .seq ?_
  refine Wk.rg [0, 1, 2, 3, 4] rfl rfl ?_
  refine fz rfl .no Fx.fo96_0 (.u rfl) ?_
  refine ld rfl .no Fx.ag9 (.u rfl) (fun _ => Rd.own .here (by first | exact wap_f rfl | rfl)) ?_
  refine ld rfl .no Fx.ag9 (.u rfl) (fun _ => (hb.rd (by rfl)).rd) ?_
  refine cs rfl .no (.u rfl) (.u rfl) rfl ?_
  refine asg rfl .no (.u rfl) ?_
  refine .nil ?_
  refine .code ?_
  refine .ret ?_
  refine We.fin0 Tryd.results38 (.tmp rfl .nil) ?_
  exact ⟨rfl, rfl⟩

theorem get2_ok (e : Ent) (user : ByteArray) (seq : BitVec 64) (b c : Nat) (G : PM) (hb : PB G b (cl [.string user] 9)) (hq9 : PB G c (cl [uv .u64 seq] 24)) : Ct Tryd.prog 41 ([e.val, .pointer (some ⟨b, 0, none⟩), .pointer (some ⟨c, 0, none⟩)] : List Value).toArray G [] (fun _ μ' u => μ' = [] ∧ u = .bool (hitE user seq e)) := by
  refine Ct.of Tryd.func41 rfl Tryd.ntmps41 rfl fun w0 hs0 => ?_
  refine .seq ?_
  refine Wk.rg [0, 1] rfl rfl ?_
  refine bx rfl (.u rfl) rfl ?_; intro b3
  refine asg rfl .no (.u rfl) ?_
  refine .nil ?_
  refine .code ?_
  refine .seq ?_
  refine Wk.rg [0, 1, 2, 3, 4, 5, 6, 7, 8, 9, 10, 11, 12, 13, 14, 15, 16] rfl rfl ?_
  refine fz rfl .no Fx.fo43_0 (.u rfl) ?_
  refine ld rfl .no Fx.ag9 (.u rfl) (fun _ => Rd.own .here (by first | exact wap_f rfl | rfl)) ?_
  refine ld rfl .no Fx.ag9 (.u rfl) (fun _ => (hb.rd (by rfl)).rd) ?_
  refine cs rfl .no (.u rfl) (.u rfl) rfl ?_
  refine mv rfl .no (.u rfl) ?_
  refine fz rfl (.f rfl rfl) Fx.fo43_0 (.u rfl) ?_
  refine ld rfl (.f rfl rfl) Fx.ag9 (.s rfl) (fun hc => Rd.own .here (by first | exact wap_f rfl | rfl)) ?_
  refine ld rfl (.f rfl rfl) Fx.ag9 (.u rfl) (fun hc => (hb.rd (by rfl)).rd) ?_
  refine cs rfl (.f rfl rfl) (.s rfl) (.s rfl) rfl ?_
  refine mv rfl (.f rfl rfl) (.s rfl) ?_
  refine fz rfl (.tc rfl rfl) Fx.fo43_1 (.u rfl) ?_
  refine ld rfl (.tc rfl rfl) Fx.ag24 (.s rfl) (fun hc => Rd.own .here (by first | exact wap_f rfl | rfl)) ?_
  refine ld rfl (.tc rfl rfl) Fx.ag24 (.u rfl) (fun hc => (hq9.rd (by rfl)).rd) ?_
  refine cp rfl (.tc rfl rfl) (.s rfl) (.s rfl) rfl ?_
  refine pkA rfl (.f rfl rfl) (.s rfl) (.s rfl) ?_
  refine pkO rfl .no (.u rfl) (.s rfl) ?_
  refine asg rfl .no (.u rfl) ?_
  refine .nil ?_
  refine .code ?_
  refine .ret ?_
  refine We.fin0 Tryd.results41 (.tmp rfl .nil) ?_
  exact ⟨rfl, congrArg Value.bool hit_val⟩

set_option maxHeartbeats 4000000 in
theorem tGet_ok (root : Nat → Y) (m : Meta) (xs : List Y) (hx : Sh) (user : ByteArray) (seq : BitVec 64) (R : Option Ent) (G : PM) (hw : m.wf) (hs : SlR G 1 encY hx xs) (hK : RdNP G 0 0 (wa 64 kW)) (hl : xs.length ≤ 1000000) (hu : user.size ≤ 1000000000000000) (hT : getT root m xs user seq = some R) : Ct Tryd.prog 9 ([.agg (ba 32 root).toArray, m.val, hx.val xs.length, .string user, uv .u64 seq] : List Value).toArray G [] (fun _ μ' u => μ' = [] ∧ u = .tuple #[(R.getD Ent.zero).val, .bool R.isSome, .int .i64 0]) := by
  refine Ct.of Tryd.func9 rfl Tryd.ntmps9 rfl fun w0 hs0 => ?_
  obtain ⟨rows, ix, f, hB, hwf, hno, hyes⟩ := get_inv hT
  have h2r := beg_len hB
  refine .seq ?_
  refine Wk.rg [0, 1, 2, 3, 4, 5, 6] rfl rfl ?_
  refine bx rfl (.u rfl) rfl ?_; intro b5
  refine bx rfl (.u rfl) rfl ?_; intro b6
  refine bx rfl (.u rfl) rfl ?_; intro b8
  refine bx rfl (.u rfl) rfl ?_; intro b9
  refine al rfl Fx.zq43 ?_; intro b10
  refine asg rfl .no (.u rfl) ?_
  refine al rfl Fx.zr39 ?_; intro b12
  refine .nil ?_
  refine .code ?_
  refine .seq ?_
  refine wk_dfr rfl rfl rfl ?_
  refine .code ?_
  refine .seq ?_
  refine wk_fz (.there (.there (.there .here))) (by intro b hb; cases hb) ?_; intro Gfb8 hleb8 hbb8
  have hs := hs.mono hleb8
  have hK := hK.mono hleb8
  refine wk_fz (.there (.there .here)) (by intro b hb; cases hb) ?_; intro Gfb9 hleb9 hbb9
  have hs := hs.mono hleb9
  have hK := hK.mono hleb9
  have hbb8 := hbb8.mono hleb9
  refine Wk.rg [0, 1, 2, 3, 4] rfl rfl ?_
  refine lA rfl .no Fx.ag23 (.u rfl) (fun _ => RdN.own (.there (.there (.there .here)))) (fun _ => ba_len _ _) ?_
  refine lA rfl .no FxTbI.ag38 (.u rfl) (fun _ => RdN.own (.there (.there .here))) (fun _ => Meta.len _) ?_
  refine mv rfl .no (.u rfl) ?_
  refine kc rfl Fx.go34 (Eva.cons (.u rfl) (Eva.cons (.u rfl) (Eva.cons (.u rfl) Eva.nil))) (tBegin_ok root m xs hx rows ix _ hw hs hK hl hB) ?_
  rintro _ G22 μ22 hG22 ⟨b22, ps, ha22, hr22, hi22, eps, rfl, rfl, hR22⟩
  subst eps
  have hpl := hR22.len
  rw [List.length_map] at h2r
  have hs := hs.mono hG22
  have hK := hK.mono hG22
  have hbb8 := hbb8.mono hG22
  have hbb9 := hbb9.mono hG22
  refine asg rfl .no (.u rfl) ?_
  refine .nil ?_
  refine .code ?_
  refine .seq ?_
  refine Wk.rg [0, 1, 2, 3, 4, 5, 6] rfl rfl ?_
  refine mv rfl .no (.u rfl) ?_
  refine nc rfl .no (.u rfl) ?_
  refine fz rfl .no Fx.fo91_2 (.u rfl) ?_
  refine ld rfl .no Fx.ag89 (.u rfl) (fun _ => Rd.own .here wrc_out) ?_
  refine ln rfl .no Fx.sn89 (.u rfl) ?_
  refine arn (((ps.length - 1) : Nat) : Int) rfl .no (.u rfl) (.u rfl) rfl (fun _ => by omega) (fun _ => wrap_i64 (by omega) (by omega)) ?_
  refine asg rfl .no (.u rfl) ?_
  refine .nil ?_
  refine .code ?_
  refine .seq ?_
  refine .seq ?_
  obtain ⟨pf, epf⟩ := getx (k := ps.length - 1) (xs := ps) (by omega)
  rw [List.length_map, map_fst rfl epf] at hwf
  refine Wk.mixp ⟨true, false⟩ Fx.mix (by kernel_rfl) ?_
  refine Wp.one 0 (by kernel_rfl) ?_
  refine mv rfl .no (.u rfl) ?_
  refine .nil ?_
  refine Wp.one 1 (by kernel_rfl) ?_
  refine mv rfl .no (.u rfl) ?_
  refine .nil ?_
  refine Wp.pr 3 (by kernel_rfl) ?_
  refine ld rfl .no Fx.ag9 (.u rfl) (fun _ => (hbb8.rd (by rfl)).rd) ?_
  refine .nil ⟨⟨rfl, rfl⟩, ?_⟩
  refine Wp.b1 2 (by kernel_rfl) ?_
  refine ka rfl (.inl rfl) Fx.go36 (Eva.cons (.u rfl) (Eva.cons (.u rfl) (Eva.cons (.u rfl) Eva.nil))) (mtk1 .here) (whole_ok root (hdM m) ps ix ha22 hr22 hi22 b22 _ hR22 hK (ps.length - 1) 1 pf f epf (by decide) hwf) ?_
  rintro _ G31 μ31 hG31 ⟨h31, rfl, rfl, hs31⟩
  have hfl := wh_len hwf; have hfs := hR22.sm pf (List.mem_of_getElem? epf)
  have hs := hs.mono hG31
  have hK := hK.mono hG31
  have hbb8 := hbb8.mono hG31
  have hbb9 := hbb9.mono hG31
  have hR22 := hR22.mono hG31
  refine .nil ?_
  refine Wp.b1 4 (by kernel_rfl) ?_
  refine kv rfl .no Fx.go35 (Eva.cons (.u rfl) (Eva.cons (.u rfl) Eva.nil)) (fun _ => may_ok h31 f user _ hs31 (by omega) hu) ?_
  refine .nil ?_
  refine Wp.one 5 (by kernel_rfl) ?_
  refine nt rfl .no (.u rfl) ?_
  refine .nil ?_
  refine Wp.last (by kernel_rfl) ?_
  refine .code ?_
  refine .cond rfl (fun c1 => ?_) (fun c1 => ?_)
  · have c1k := c1
    try simp only [decide_eq_true_eq, decide_eq_false_iff_not, Int.not_lt, Int.not_le, gt_iff_lt, ge_iff_le, Bool.or_eq_true, Bool.and_eq_true, Bool.or_eq_false_iff, Bool.and_eq_false_iff, Bool.not_eq_true', Bool.not_eq_false', Int.toNat_natCast, bne_iff_ne, beq_iff_eq, bne_eq_false_iff_eq, beq_eq_false_iff_ne, ne_eq] at c1
    refine .seq ?_
    refine Wk.rg [0, 1, 2, 3] rfl rfl ?_
    refine bC rfl .no Fx.bp43_ .nil rfl ?_
    refine sw rfl (.u rfl) (.u rfl) rfl Fx.sz43 (.there (.there .here)) rfl (Ent.one _) ?_
    refine asg rfl .no (.u rfl) ?_
    refine s1 rfl (.u rfl) (.u rfl) rfl Fx.sz39 (.there (.there .here)) (by first | decide | (simp only [wa_len, ba_len, List.length_append, List.length_cons, List.length_nil]; omega)) (rfl) ?_
    refine .nil ?_
    refine .code ?_
    refine .ret ?_
    refine We.finR Fx.go33 rfl (fun w => caught_ret w _) Tryd.results9 (.cell rfl (fun w hw => run_loadVarN Fx.ag43 (RdN.own (.there .here)) (Ent.len _) hw) (.tmp rfl (.cell rfl (fun w hw => run_loadVar1 Fx.ag39 (Rd.own .here rfl w hw)) .nil))) MSub.nil ?_
    obtain rfl := hno (by simpa using c1k)
    exact ⟨rfl, rfl⟩
  · have c1k := c1
    try simp only [decide_eq_true_eq, decide_eq_false_iff_not, Int.not_lt, Int.not_le, gt_iff_lt, ge_iff_le, Bool.or_eq_true, Bool.and_eq_true, Bool.or_eq_false_iff, Bool.and_eq_false_iff, Bool.not_eq_true', Bool.not_eq_false', Int.toNat_natCast, bne_iff_ne, beq_iff_eq, bne_eq_false_iff_eq, beq_eq_false_iff_ne, ne_eq] at c1
    refine .skip ?_
    refine .code ?_
    refine .seq ?_
    have hgr := hyes (by simpa using c1k)
    rw [List.length_map] at hgr
    refine Wk.rg [0, 1, 2, 3, 4, 5, 6, 7, 8] rfl rfl ?_
    refine mv rfl .no (.u rfl) ?_
    refine nc rfl .no (.u rfl) ?_
    refine fz rfl .no Fx.fo91_2 (.u rfl) ?_
    refine ld rfl .no Fx.ag89 (.u rfl) (fun _ => Rd.own .here wrc_out) ?_
    refine mv rfl .no (.u rfl) ?_
    refine kE ((ps.length - 1)) rfl .no Fx.se89 hR22.rows (.u rfl) (.u rfl) (fun _ => by omega) (fun _ => by omega) ?_
    intro h41 L41 eL41 lL41 hs41
    have lL41 := lL41 rfl
    refine mf (vf := #[]) (vc := [Value.pointer (some ⟨b8, 0, none⟩)].toArray) rfl .no (fun a ha _ => by simp) (fun a ha _ => by simp [(Ev.u (c := true) rfl : Ev _ true (.tmp 8) _).eval ha rfl]) ?_
    refine kv rfl .no Fx.go37 (Eva.cons (.u rfl) (Eva.cons (.u rfl) Eva.nil)) (fun _ => idxR_ok h41 L41 _ hs41 (by omega) 38 Fx.go38 [.pointer (some ⟨b8, 0, none⟩)] (notLt user) (fun G2 hle p hp => get1_ok p user b8 G2 (hbb8.mono hle))) ?_
    refine asg rfl .no (.u rfl) ?_
    refine .nil ?_
    refine .code ?_
    refine .seq ?_
    refine .seq ?_
    refine Wk.rg [0, 1] rfl rfl ?_
    refine mv rfl .no (.u rfl) ?_
    refine asg rfl .no (.u rfl) ?_
    refine .nil ?_
    refine .code ?_
    refine .block ?_
    refine Wk.lop (α := Int) (fun k => [(16, true, .int .i64 k)]) (fun _ => [])
      (fun k Gl => ((k = -1 ∧ R = none) ∨ (0 ≤ k ∧ k ≤ ((ps.length - 1 : Nat) : Int) ∧ getG root (hdM m) (ps.map (·.1)) user seq (ps.length - 1 - k.toNat) k.toNat = some R))) (fun k => (((ps.length - 1 : Nat) : Int) - k).toNat) (idxZ (notLt user) L41) [(8, true, _), (9, true, _), (10, true, _), (12, true, _), (13, true, _), (14, true, _)] [_, _, _, _, _]
      (ESub.cons rfl (by first | rfl | exact evi (by omega)) (ESub.cons rfl rfl (ESub.cons rfl rfl (ESub.cons rfl rfl (ESub.cons rfl rfl (ESub.cons rfl rfl (ESub.cons rfl rfl ESub.nil)))))))
      (MSub.cons .here rfl (MSub.cons .here rfl (MSub.cons .here rfl (MSub.cons .here rfl (MSub.cons .here rfl MSub.nil))))) ?_ ?_
    · (try dsimp only) <;> (exact gi_start (hpl := by omega) eL41 hgr)
    intro k N0 Gl0 hN0 hGl0 hF0
    try dsimp only at hF0 hN0 ⊢
    have hI := hF0
    have hs := hs.mono hGl0
    have hK := hK.mono hGl0
    have hbb8 := hbb8.mono hGl0
    have hbb9 := hbb9.mono hGl0
    have hR22 := hR22.mono hGl0
    have hs31 := hs31.mono hGl0
    have hs41 := hs41.mono hGl0
    refine .seq ?_
    refine .seq ?_
    refine Wk.rg [0, 1, 2, 3, 4, 5, 6] rfl rfl ?_
    refine mv rfl .no (.u rfl) ?_
    refine cp rfl .no (.u rfl) (.u rfl) rfl ?_
    refine mv rfl .no (.u rfl) ?_
    refine mv rfl (.t rfl rfl) (.u rfl) ?_
    refine mv rfl (.t rfl rfl) (.u rfl) ?_
    refine cp rfl (.t rfl rfl) (.s rfl) (.s rfl) rfl ?_
    refine pkA rfl .no (.u rfl) (.s rfl) ?_
    refine .nil ?_
    refine .code ?_
    refine .cond rfl (fun c2 => ?_) (fun c2 => ?_)
    · have c2k := c2
      try simp only [decide_eq_true_eq, decide_eq_false_iff_not, Int.not_lt, Int.not_le, gt_iff_lt, ge_iff_le, Bool.or_eq_true, Bool.and_eq_true, Bool.or_eq_false_iff, Bool.and_eq_false_iff, Bool.not_eq_true', Bool.not_eq_false', Int.toNat_natCast, bne_iff_ne, beq_iff_eq, bne_eq_false_iff_eq, beq_eq_false_iff_ne, ne_eq] at c2
      refine .skip ?_
      refine .code ?_
      refine .seq ?_
      refine .block ?_
      refine .seq ?_
      obtain ⟨j, rfl⟩ : ∃ j : Nat, k = (j : Int) := ⟨k.toNat, by omega⟩
      obtain ⟨hj, hgj⟩ : j < ps.length - 1 ∧ getG root (hdM m) (ps.map (·.1)) user seq (ps.length - 1 - j) j = some R := by rcases hI with ⟨h1, _⟩ | ⟨h1, h2, h3⟩; (omega); (exact ⟨by omega, by simpa using h3⟩)
      obtain ⟨l, hel, hln, hlh⟩ := gg_step hj hgj
      obtain ⟨p, ep⟩ := getx (k := j) (xs := ps) (by omega)
      obtain ⟨y, hwy, hry⟩ := en_inv hel
      rw [map_fst rfl ep] at hwy
      have hll := read_len hry; have hyl := wh_len hwy; have hps := hR22.sm p (List.mem_of_getElem? ep)
      refine Wk.rg [0, 1, 2, 3] rfl rfl ?_
      refine mv rfl .no (.u rfl) ?_
      refine mv rfl .no (.u rfl) ?_
      refine ka rfl (.inr rfl) Fx.go39 (Eva.cons (.u rfl) (Eva.cons (.u rfl) Eva.nil)) (mtk1 .here) (ents_ok root (hdM m) ps ix ha22 hr22 hi22 b22 _ hR22 hK j p l ep hel) ?_
      rintro _ G56 μ56 hG56 ⟨h56, rfl, rfl, hs56⟩
      have hs := hs.mono hG56
      have hK := hK.mono hG56
      have hbb8 := hbb8.mono hG56
      have hbb9 := hbb9.mono hG56
      have hR22 := hR22.mono hG56
      have hs31 := hs31.mono hG56
      have hs41 := hs41.mono hG56
      refine asg rfl .no (.u rfl) ?_
      refine .nil ?_
      refine .code ?_
      refine .seq ?_
      refine Wk.rg [0, 1, 2, 3] rfl rfl ?_
      refine mv rfl .no (.u rfl) ?_
      refine mf (vf := #[]) (vc := [Value.pointer (some ⟨b8, 0, none⟩), Value.pointer (some ⟨b9, 0, none⟩)].toArray) rfl .no (fun a ha _ => by simp) (fun a ha _ => by simp [(Ev.u (c := true) rfl : Ev _ true (.tmp 8) _).eval ha rfl, (Ev.u (c := true) rfl : Ev _ true (.tmp 9) _).eval ha rfl]) ?_
      refine kv rfl .no Fx.go40 (Eva.cons (.u rfl) (Eva.cons (.u rfl) Eva.nil)) (fun _ => idxE_ok h56 l _ hs56 (by omega) 41 Fx.go41 [.pointer (some ⟨b8, 0, none⟩), .pointer (some ⟨b9, 0, none⟩)] (hitE user seq) (fun G2 hle e he => get2_ok e user seq b8 b9 G2 (hbb8.mono hle) (hbb9.mono hle))) ?_
      refine asg rfl .no (.u rfl) ?_
      refine .nil ?_
      refine .code ?_
      refine .seq ?_
      refine .seq ?_
      refine Wk.rg [0, 1] rfl rfl ?_
      refine mv rfl .no (.u rfl) ?_
      refine cp rfl .no (.u rfl) (.u rfl) rfl ?_
      refine .nil ?_
      refine .code ?_
      refine .cond rfl (fun c3 => ?_) (fun c3 => ?_)
      · have c3k := c3
        try simp only [decide_eq_true_eq, decide_eq_false_iff_not, Int.not_lt, Int.not_le, gt_iff_lt, ge_iff_le, Bool.or_eq_true, Bool.and_eq_true, Bool.or_eq_false_iff, Bool.and_eq_false_iff, Bool.not_eq_true', Bool.not_eq_false', Int.toNat_natCast, bne_iff_ne, beq_iff_eq, bne_eq_false_iff_eq, beq_eq_false_iff_ne, ne_eq] at c3
        refine .exit ?_
        refine .xcode ?_
        refine .xblk ?_
        refine .code ?_
        refine Wk.rg [0, 1, 2] rfl rfl ?_
        refine mv rfl .no (.u rfl) ?_
        refine ar rfl .no (.u rfl) (.u rfl) rfl (fun _ => wrap_i64 (by omega) (by omega)) ?_
        refine asg rfl .no (.u rfl) ?_
        refine .nil ?_
        refine We.lpo ((j : Int) + 1) ?_ ?_ ?_ ?_ ?_
        · exact (ESub.cons rfl (by first | rfl | exact evi (by omega)) (ESub.cons rfl rfl (ESub.cons rfl rfl (ESub.cons rfl rfl (ESub.cons rfl rfl (ESub.cons rfl rfl (ESub.cons rfl rfl ESub.nil)))))))
        · exact (MSub.cons .here rfl (MSub.cons .here rfl (MSub.cons .here rfl (MSub.cons .here rfl (MSub.cons .here rfl MSub.nil)))))
        · first | omega | (dsimp only; omega)
        · exact (hGl0).trans hG56
        · (try dsimp only) <;> (exact .inr ⟨by omega, by omega, by have := hln (gi_none (by omega)); rw [show ((j : Int) + 1).toNat = j + 1 by omega]; exact this⟩)
      · have c3k := c3
        try simp only [decide_eq_true_eq, decide_eq_false_iff_not, Int.not_lt, Int.not_le, gt_iff_lt, ge_iff_le, Bool.or_eq_true, Bool.and_eq_true, Bool.or_eq_false_iff, Bool.and_eq_false_iff, Bool.not_eq_true', Bool.not_eq_false', Int.toNat_natCast, bne_iff_ne, beq_iff_eq, bne_eq_false_iff_eq, beq_eq_false_iff_ne, ne_eq] at c3
        refine .skip ?_
        refine .code ?_
        refine .seq ?_
        refine .seq ?_
        rcases find_idx (p := hitE user seq) l with hq | ⟨x, hx0, hxi, hxf⟩
        · exact absurd hq.1 (by omega)
        have hxl := (List.getElem?_eq_some_iff.1 hxi).1
        have hRx := hlh x hxf
        refine Wk.mixp ⟨true, false⟩ Fx.mix (by kernel_rfl) ?_
        refine Wp.one 0 (by kernel_rfl) ?_
        refine mv rfl .no (.u rfl) ?_
        refine .nil ?_
        refine Wp.one 1 (by kernel_rfl) ?_
        refine mv rfl .no (.u rfl) ?_
        refine .nil ?_
        refine Wp.one 2 (by kernel_rfl) ?_
        refine ih rfl .no Fx.se31 (.u rfl) (.u rfl) (fun _ => by omega) (fun _ => by omega) (fun _ => hs56.nn (k := (idxZ (hitE user seq) l).toNat) (by omega)) ?_
        refine .nil ?_
        refine Wp.one 3 (by kernel_rfl) ?_
        refine fa rfl .no Fx.fo43_0 (.u rfl) ?_
        refine .nil ?_
        refine Wp.one 4 (by kernel_rfl) ?_
        refine ld rfl .no Fx.ag9 (.u rfl) (fun _ => (hs56.at rfl hxi 0 _ rfl).rd) ?_
        refine .nil ?_
        refine Wp.one 5 (by kernel_rfl) ?_
        refine ld rfl .no Fx.ag9 (.u rfl) (fun _ => (hbb8.rd (by rfl)).rd) ?_
        refine .nil ?_
        refine Wp.one 6 (by kernel_rfl) ?_
        refine cs rfl .no (.u rfl) (.u rfl) rfl ?_
        refine .nil ?_
        refine Wp.last (by kernel_rfl) ?_
        refine .code ?_
        refine .cond rfl (fun c4 => ?_) (fun c4 => ?_)
        · have c4k := c4
          try simp only [decide_eq_true_eq, decide_eq_false_iff_not, Int.not_lt, Int.not_le, gt_iff_lt, ge_iff_le, Bool.or_eq_true, Bool.and_eq_true, Bool.or_eq_false_iff, Bool.and_eq_false_iff, Bool.not_eq_true', Bool.not_eq_false', Int.toNat_natCast, bne_iff_ne, beq_iff_eq, bne_eq_false_iff_eq, beq_eq_false_iff_ne, ne_eq] at c4
          refine .exit ?_
          refine .xcode ?_
          refine .xnot rfl ?_
          refine .xcode ?_
          refine .xlp ?_
          refine .xblk ?_
          refine .code ?_
          refine .seq ?_
          refine Wk.rg [0, 1, 2, 3] rfl rfl ?_
          refine bC rfl .no Fx.bp43_ .nil rfl ?_
          refine sw rfl (.u rfl) (.u rfl) rfl Fx.sz43 (.there (.there .here)) rfl (Ent.one _) ?_
          refine asg rfl .no (.u rfl) ?_
          refine s1 rfl (.u rfl) (.u rfl) rfl Fx.sz39 (.there (.there .here)) (by first | decide | (simp only [wa_len, ba_len, List.length_append, List.length_cons, List.length_nil]; omega)) (rfl) ?_
          refine .nil ?_
          refine .code ?_
          refine .ret ?_
          refine We.finR Fx.go33 rfl (fun w => caught_ret w _) Tryd.results9 (.cell rfl (fun w hw => run_loadVarN Fx.ag43 (RdN.own (.there .here)) (Ent.len _) hw) (.tmp rfl (.cell rfl (fun w hw => run_loadVar1 Fx.ag39 (Rd.own .here rfl w hw)) .nil))) MSub.nil ?_
          rw [if_neg (by intro e; rw [e] at c4k; simp at c4k)] at hRx
          subst hRx
          exact ⟨rfl, rfl⟩
        · have c4k := c4
          try simp only [decide_eq_true_eq, decide_eq_false_iff_not, Int.not_lt, Int.not_le, gt_iff_lt, ge_iff_le, Bool.or_eq_true, Bool.and_eq_true, Bool.or_eq_false_iff, Bool.and_eq_false_iff, Bool.not_eq_true', Bool.not_eq_false', Int.toNat_natCast, bne_iff_ne, beq_iff_eq, bne_eq_false_iff_eq, beq_eq_false_iff_ne, ne_eq] at c4
          refine .skip ?_
          refine .code ?_
          refine .seq ?_
          refine Wk.rg [0, 1, 2, 3, 4, 5, 6] rfl rfl ?_
          refine mv rfl .no (.u rfl) ?_
          refine mv rfl .no (.u rfl) ?_
          refine ih rfl .no Fx.se31 (.u rfl) (.u rfl) (fun _ => by omega) (fun _ => by omega) (fun _ => hs56.nn (k := (idxZ (hitE user seq) l).toNat) (by omega)) ?_
          refine lA rfl .no Fx.ag43 (.u rfl) (fun _ => (hs56.at rfl hxi).rd) (fun _ => Ent.len _) ?_
          refine sw rfl (.u rfl) (.u rfl) rfl Fx.sz43 (.there (.there .here)) rfl (Ent.one _) ?_
          refine asg rfl .no (.u rfl) ?_
          refine s1 rfl (.u rfl) (.u rfl) rfl Fx.sz39 (.there (.there .here)) (by first | decide | (simp only [wa_len, ba_len, List.length_append, List.length_cons, List.length_nil]; omega)) (rfl) ?_
          refine .nil ?_
          refine .code ?_
          refine .ret ?_
          refine We.finR Fx.go33 rfl (fun w => caught_ret w _) Tryd.results9 (.cell rfl (fun w hw => run_loadVarN Fx.ag43 (RdN.own (.there .here)) (Ent.len _) hw) (.tmp rfl (.cell rfl (fun w hw => run_loadVar1 Fx.ag39 (Rd.own .here rfl w hw)) .nil))) MSub.nil ?_
          rw [if_pos (toList_inj (by simpa using c4k))] at hRx
          subst hRx
          exact ⟨rfl, rfl⟩
    · have c2k := c2
      try simp only [decide_eq_true_eq, decide_eq_false_iff_not, Int.not_lt, Int.not_le, gt_iff_lt, ge_iff_le, Bool.or_eq_true, Bool.and_eq_true, Bool.or_eq_false_iff, Bool.and_eq_false_iff, Bool.not_eq_true', Bool.not_eq_false', Int.toNat_natCast, bne_iff_ne, beq_iff_eq, bne_eq_false_iff_eq, beq_eq_false_iff_ne, ne_eq] at c2
      refine .exit ?_
      refine .xcode ?_
      refine .xlp ?_
      refine .xblk ?_
      refine .code ?_
      refine .seq ?_
      refine Wk.rg [0, 1, 2, 3] rfl rfl ?_
      refine bC rfl .no Fx.bp43_ .nil rfl ?_
      refine sw rfl (.u rfl) (.u rfl) rfl Fx.sz43 (.there (.there .here)) rfl (Ent.one _) ?_
      refine asg rfl .no (.u rfl) ?_
      refine s1 rfl (.u rfl) (.u rfl) rfl Fx.sz39 (.there (.there .here)) (by first | decide | (simp only [wa_len, ba_len, List.length_append, List.length_cons, List.length_nil]; omega)) (rfl) ?_
      refine .nil ?_
      refine .code ?_
      refine .ret ?_
      refine We.finR Fx.go33 rfl (fun w => caught_ret w _) Tryd.results9 (.cell rfl (fun w hw => run_loadVarN Fx.ag43 (RdN.own (.there .here)) (Ent.len _) hw) (.tmp rfl (.cell rfl (fun w hw => run_loadVar1 Fx.ag39 (Rd.own .here rfl w hw)) .nil))) MSub.nil ?_
      obtain rfl : R = none := gi_end hI (by omega)
      exact ⟨rfl, rfl⟩

set_option maxHeartbeats 4000000 in
theorem tAll_ok (root : Nat → Y) (m : Meta) (xs : List Y) (hx : Sh) (l : List Ent) (G : PM) (hw : m.wf) (hs : SlR G 1 encY hx xs) (hK : RdNP G 0 0 (wa 64 kW)) (hl : xs.length ≤ 1000000) (hT : allT root m xs = some l) : Ct Tryd.prog 12 ([.agg (ba 32 root).toArray, m.val, hx.val xs.length] : List Value).toArray G [] (fun G' μ' u => ∃ h' : Sh, μ' = [] ∧ u = .tuple #[h'.val l.length, .int .i64 0] ∧ SlR G' 4 Ent.cells h' l) := by
  refine Ct.of Tryd.func12 rfl Tryd.ntmps12 rfl fun w0 hs0 => ?_
  obtain ⟨rows, ix, f, hB, hwf, hG, hfin⟩ := all_inv hT
  have h2r := beg_len hB
  refine .seq ?_
  refine Wk.rg [0, 1, 2, 3] rfl rfl ?_
  refine bx rfl (.u rfl) rfl ?_; intro b3
  refine bx rfl (.u rfl) rfl ?_; intro b4
  refine asg rfl .no (.u rfl) ?_
  refine al rfl Fx.zr39 ?_; intro b7
  refine .nil ?_
  refine .code ?_
  refine .seq ?_
  refine wk_dfr rfl rfl rfl ?_
  refine .code ?_
  refine .seq ?_
  refine Wk.rg [0, 1, 2, 3, 4] rfl rfl ?_
  refine lA rfl .no Fx.ag23 (.u rfl) (fun _ => RdN.own (.there (.there .here))) (fun _ => ba_len _ _) ?_
  refine lA rfl .no FxTbI.ag38 (.u rfl) (fun _ => RdN.own (.there .here)) (fun _ => Meta.len _) ?_
  refine mv rfl .no (.u rfl) ?_
  refine kc rfl Fx.go34 (Eva.cons (.u rfl) (Eva.cons (.u rfl) (Eva.cons (.u rfl) Eva.nil))) (tBegin_ok root m xs hx rows ix _ hw hs hK hl hB) ?_
  rintro _ G15 μ15 hG15 ⟨b15, ps, ha15, hr15, hi15, eps, rfl, rfl, hR15⟩
  subst eps
  have hpl := hR15.len
  rw [List.length_map] at h2r
  have hs := hs.mono hG15
  have hK := hK.mono hG15
  refine asg rfl .no (.u rfl) ?_
  refine .nil ?_
  refine .code ?_
  refine .seq ?_
  refine Wk.rg [0, 1, 2, 3, 4, 5, 6] rfl rfl ?_
  refine mv rfl .no (.u rfl) ?_
  refine nc rfl .no (.u rfl) ?_
  refine fz rfl .no Fx.fo91_2 (.u rfl) ?_
  refine ld rfl .no Fx.ag89 (.u rfl) (fun _ => Rd.own .here wrc_out) ?_
  refine ln rfl .no Fx.sn89 (.u rfl) ?_
  refine arn (((ps.length - 1) : Nat) : Int) rfl .no (.u rfl) (.u rfl) rfl (fun _ => by omega) (fun _ => wrap_i64 (by omega) (by omega)) ?_
  refine asg rfl .no (.u rfl) ?_
  refine .nil ?_
  refine .code ?_
  refine .seq ?_
  obtain ⟨pf, epf⟩ := getx (k := ps.length - 1) (xs := ps) (by omega)
  rw [List.length_map, map_fst rfl epf] at hwf
  rw [List.length_map] at hG
  refine Wk.rg [0, 1, 2] rfl rfl ?_
  refine mv rfl .no (.u rfl) ?_
  refine mv rfl .no (.u rfl) ?_
  refine ka rfl (.inr rfl) Fx.go36 (Eva.cons (.u rfl) (Eva.cons (.u rfl) (Eva.cons (.u rfl) Eva.nil))) (mtk1 .here) (whole_ok root (hdM m) ps ix ha15 hr15 hi15 b15 _ hR15 hK (ps.length - 1) 1 pf f epf (by decide) hwf) ?_
  rintro _ G24 μ24 hG24 ⟨h24, rfl, rfl, hs24⟩
  have hs := hs.mono hG24
  have hK := hK.mono hG24
  have hR15 := hR15.mono hG24
  refine .nil ?_
  refine .code ?_
  refine .seq ?_
  refine wk_nilS 4 Ent.cells 43 ?_
  refine Wk.rg [0] rfl rfl ?_
  refine asg rfl .no (.u rfl) ?_
  refine .nil ?_
  refine .code ?_
  refine .seq ?_
  refine .seq ?_
  refine Wk.rg [0, 1] rfl rfl ?_
  refine mv rfl .no (.u rfl) ?_
  refine mv rfl .no (.u rfl) ?_
  refine .nil ?_
  refine .code ?_
  refine .block ?_
  refine Wk.lop (α := Nat × Value × List Ent) (fun gh => [(10, true, gh.2.1), (26, true, .int .i64 (gh.1 : Int))]) (fun gh => [rS 4 Ent.cells gh.2.1 43 gh.2.2, .blk b15 (cl (wrC (keyEnc root (headL (hdM m))) (keyMac root (headL (hdM m))) (ha15.val (headL (hdM m)).length) (hr15.val ps.length) (hi15.val ix.length)) 91)])
    (fun gh Gl => (gh.1 ≤ ps.length - 1) ∧ (allG root (hdM m) (ps.map (·.1)) (ps.length - 1 - gh.1) gh.1 gh.2.2 = some l) ∧ (gh.2.2.length ≤ gh.1 * 1000000)) (fun gh => ps.length - 1 - gh.1) (0, .slice none 0 0, []) [(4, true, _), (7, true, _), (8, true, _), (25, true, _)] [_, _, _]
    (ESub.cons rfl rfl (ESub.cons rfl (by first | rfl | exact evi (by omega)) (ESub.cons rfl rfl (ESub.cons rfl rfl (ESub.cons rfl rfl (ESub.cons rfl rfl ESub.nil))))))
    (MSub.cons .here rfl (MSub.cons .here rfl (MSub.cons .here rfl (MSub.cons .here rfl (MSub.cons .here rfl MSub.nil))))) ?_ ?_
  · refine ⟨?_, ?_, ?_⟩
    · (try dsimp only) <;> (first | omega | rfl | assumption | (simp; done))
    · (try dsimp only) <;> (exact hG)
    · (try dsimp only) <;> (exact Nat.zero_le _)
  intro gh N0 Gl0 hN0 hGl0 hF0
  obtain ⟨k, v, acc⟩ := gh; dsimp only at hF0 hN0 ⊢
  obtain ⟨hk, hG, hal⟩ := hF0
  have hs := hs.mono hGl0
  have hK := hK.mono hGl0
  have hR15 := hR15.mono hGl0
  have hs24 := hs24.mono hGl0
  refine .seq ?_
  refine Wk.rg [0] rfl rfl ?_
  refine cp rfl .no (.u rfl) (.u rfl) rfl ?_
  refine .nil ?_
  refine .code ?_
  refine .seq ?_
  refine .cond rfl (fun c1 => ?_) (fun c1 => ?_)
  · have c1k := c1
    try simp only [decide_eq_true_eq, decide_eq_false_iff_not, Int.not_lt, Int.not_le, gt_iff_lt, ge_iff_le, Bool.or_eq_true, Bool.and_eq_true, Bool.or_eq_false_iff, Bool.and_eq_false_iff, Bool.not_eq_true', Bool.not_eq_false', Int.toNat_natCast, bne_iff_ne, beq_iff_eq, bne_eq_false_iff_eq, beq_eq_false_iff_ne, ne_eq] at c1
    refine .skip ?_
    refine .code ?_
    refine .seq ?_
    refine .block ?_
    refine .seq ?_
    refine Wk.rg [0, 1] rfl rfl ?_
    refine mv rfl .no (.u rfl) ?_
    refine asg rfl .no (.u rfl) ?_
    refine .nil ?_
    refine .code ?_
    obtain ⟨lz9, hel, hgn⟩ := ag_step (by omega) hG
    obtain ⟨p, ep⟩ := getx (k := k) (xs := ps) (by omega)
    obtain ⟨y, hwy, hry⟩ := en_inv hel
    rw [map_fst rfl ep] at hwy
    have hll := read_len hry; have hyl := wh_len hwy; have hps := hR15.sm p (List.mem_of_getElem? ep)
    refine Wk.rg [0, 1, 2, 3, 4, 5] rfl rfl ?_
    refine mv rfl .no (.u rfl) ?_
    refine mv rfl .no (.u rfl) ?_
    refine mv rfl .no (.u rfl) ?_
    refine ka rfl (.inr rfl) Fx.go39 (Eva.cons (.u rfl) (Eva.cons (.u rfl) Eva.nil)) (mtk1 (.there .here)) (ents_ok root (hdM m) ps ix ha15 hr15 hi15 b15 _ hR15 hK k p lz9 ep hel) ?_
    rintro _ G32 μ32 hG32 ⟨h32, rfl, rfl, hs32⟩
    have hs := hs.mono hG32
    have hK := hK.mono hG32
    have hR15 := hR15.mono hG32
    have hs24 := hs24.mono hG32
    refine apL (xs := acc) rfl Fx.se31 Fx.zw43 rfl (.u rfl) (.u rfl) (.there .here) hs32 (fun _ _ => Ent.len _) (ents_oneC) (by omega) (by unfold maxLen; omega) ?_; intro v33 ov33
    refine asg rfl .no (.u rfl) ?_
    refine .nil ?_
    refine .blk ?_
    refine .code ?_
    refine Wk.rg [0, 1] rfl rfl ?_
    refine arn (((k + 1) : Nat) : Int) rfl .no (.u rfl) (.u rfl) rfl (fun _ => by omega) (fun _ => wrap_i64 (by omega) (by omega)) ?_
    refine mv rfl .no (.u rfl) ?_
    refine .nil ?_
    refine We.lpo (k + 1, v33, acc ++ lz9) ?_ ?_ ?_ ?_ ?_
    · exact (ESub.cons rfl rfl (ESub.cons rfl (by first | rfl | exact evi (by omega)) (ESub.cons rfl rfl (ESub.cons rfl rfl (ESub.cons rfl rfl (ESub.cons rfl rfl ESub.nil))))))
    · exact (MSub.cons .here rfl (MSub.cons .here rfl (MSub.cons .here rfl (MSub.cons .here rfl (MSub.cons .here rfl MSub.nil)))))
    · first | omega | (dsimp only; omega)
    · exact (hGl0).trans hG32
    · refine ⟨?_, ?_, ?_⟩
      · (try dsimp only) <;> (first | omega | rfl | assumption | (simp; done))
      · (try dsimp only) <;> (exact hgn)
      · (try dsimp only) <;> (rw [List.length_append]; omega)
  · have c1k := c1
    try simp only [decide_eq_true_eq, decide_eq_false_iff_not, Int.not_lt, Int.not_le, gt_iff_lt, ge_iff_le, Bool.or_eq_true, Bool.and_eq_true, Bool.or_eq_false_iff, Bool.and_eq_false_iff, Bool.not_eq_true', Bool.not_eq_false', Int.toNat_natCast, bne_iff_ne, beq_iff_eq, bne_eq_false_iff_eq, beq_eq_false_iff_ne, ne_eq] at c1
    refine .exit ?_
    refine .xcode ?_
    refine .xlp ?_
    refine .xblk ?_
    refine .code ?_
    refine .seq ?_
    refine wk_fs .here (fun _ _ => rfl) (by intro b hb; cases hb) ?_; intro GfRA hRA hleRA evRA hsRA; subst evRA
    have hs := hs.mono hleRA
    have hK := hK.mono hleRA
    have hR15 := hR15.mono hleRA
    have hs24 := hs24.mono hleRA
    obtain rfl : acc = l := ag_end (n := ps.length - 1) (k := k) (by omega) hG
    refine Wk.mixp ⟨true, false⟩ Fx.mix (by kernel_rfl) ?_
    refine Wp.one 0 (by kernel_rfl) ?_
    refine mv rfl .no (.u rfl) ?_
    refine .nil ?_
    refine Wp.b1 1 (by kernel_rfl) ?_
    refine kv rfl .no Fx.go22 (Eva.cons (.u rfl) Eva.nil) (fun _ => rises_ok hRA acc _ hsRA (by omega)) ?_
    refine .nil ?_
    refine Wp.one 2 (by kernel_rfl) ?_
    refine mv rfl .no (.u rfl) ?_
    refine .nil ?_
    refine Wp.one 3 (by kernel_rfl) ?_
    refine mv rfl (.t rfl rfl) (.u rfl) ?_
    refine .nil ?_
    refine Wp.one 4 (by kernel_rfl) ?_
    refine ln rfl (.t rfl rfl) Fx.sn31 (.s rfl) ?_
    refine .nil ?_
    refine Wp.one 5 (by kernel_rfl) ?_
    refine fz rfl (.t rfl rfl) Fx.fo38_5 (.u rfl) ?_
    refine .nil ?_
    refine Wp.one 6 (by kernel_rfl) ?_
    refine ld rfl (.t rfl rfl) Fx.ag3 (.s rfl) (fun hc => Rd.own (.there (.there .here)) (by first | exact wap_f rfl | rfl)) ?_
    refine .nil ?_
    refine Wp.one 7 (by kernel_rfl) ?_
    refine cp rfl (.t rfl rfl) (.s rfl) (.s rfl) rfl ?_
    refine .nil ?_
    refine Wp.one 8 (by kernel_rfl) ?_
    refine pkA rfl .no (.u rfl) (.s rfl) ?_
    refine .nil ?_
    refine Wp.one 9 (by kernel_rfl) ?_
    refine mv rfl .no (.u rfl) ?_
    refine .nil ?_
    refine Wp.one 10 (by kernel_rfl) ?_
    refine mv rfl (.t rfl rfl) (.u rfl) ?_
    refine .nil ?_
    refine Wp.one 11 (by kernel_rfl) ?_
    refine ln rfl (.t rfl rfl) Fx.sn31 (.s rfl) ?_
    refine .nil ?_
    refine Wp.one 12 (by kernel_rfl) ?_
    refine cp rfl (.t rfl rfl) (.s rfl) (.u rfl) rfl ?_
    refine .nil ?_
    refine Wp.one 13 (by kernel_rfl) ?_
    refine mv rfl (.t rfl rfl) (.s rfl) ?_
    refine .nil ?_
    refine Wp.one 14 (by kernel_rfl) ?_
    refine mv rfl (.fc rfl rfl) (.u rfl) ?_
    refine .nil ?_
    refine Wp.one 15 (by kernel_rfl) ?_
    refine ih rfl (.fc rfl rfl) Fx.se31 (.s rfl) (.u rfl) (fun hc => by (try simp only [Bool.and_eq_true, decide_eq_true_eq, Bool.not_eq_true', Bool.or_eq_false_iff, decide_eq_false_iff_not, beq_iff_eq, beq_eq_false_iff_ne, ne_eq] at hc); omega) (fun hc => by (try simp only [Bool.and_eq_true, decide_eq_true_eq, Bool.not_eq_true', Bool.or_eq_false_iff, decide_eq_false_iff_not, beq_iff_eq, beq_eq_false_iff_ne, ne_eq] at hc); omega) (fun hc => hsRA.nn (k := 0) (by first | omega | (simp only [Bool.and_eq_true, decide_eq_true_eq, Bool.not_eq_true', Bool.or_eq_false_iff, decide_eq_false_iff_not, beq_iff_eq, beq_eq_false_iff_ne, ne_eq] at hc; omega) | (simp only [List.length_cons, List.length_nil]; omega))) ?_
    refine .nil ?_
    refine Wp.one 16 (by kernel_rfl) ?_
    refine fa rfl (.fc rfl rfl) Fx.fo43_0 (.s rfl) ?_
    refine .nil ?_
    refine Wp.one 17 (by kernel_rfl) ?_
    refine ld rfl (.fc rfl rfl) Fx.ag9 (.s rfl) (fun hc => (hsRA.at (by decide) (gd_at (z := Ent.zero) (k := 0) (by (try simp only [Bool.and_eq_true, decide_eq_true_eq, Bool.not_eq_true', Bool.or_eq_false_iff, decide_eq_false_iff_not, beq_iff_eq, beq_eq_false_iff_ne, ne_eq] at hc); omega)) 0 _ rfl).rd) ?_
    refine .nil ?_
    refine Wp.one 18 (by kernel_rfl) ?_
    refine fz rfl (.fc rfl rfl) Fx.fo38_6 (.u rfl) ?_
    refine .nil ?_
    refine Wp.one 19 (by kernel_rfl) ?_
    refine ld rfl (.fc rfl rfl) Fx.ag9 (.s rfl) (fun hc => Rd.own (.there (.there .here)) (by first | exact wap_f rfl | rfl)) ?_
    refine .nil ?_
    refine Wp.one 20 (by kernel_rfl) ?_
    refine cs rfl (.fc rfl rfl) (.s rfl) (.s rfl) rfl ?_
    refine .nil ?_
    refine Wp.one 21 (by kernel_rfl) ?_
    refine mv rfl (.fc rfl rfl) (.s rfl) ?_
    refine .nil ?_
    refine Wp.one 22 (by kernel_rfl) ?_
    refine mv rfl (.tc rfl rfl) (.u rfl) ?_
    refine .nil ?_
    refine Wp.one 23 (by kernel_rfl) ?_
    refine mv rfl (.tc rfl rfl) (.u rfl) ?_
    refine .nil ?_
    refine Wp.one 24 (by kernel_rfl) ?_
    refine ln rfl (.tc rfl rfl) Fx.sn31 (.s rfl) ?_
    refine .nil ?_
    refine Wp.one 25 (by kernel_rfl) ?_
    refine ar rfl (.tc rfl rfl) (.s rfl) (.u rfl) rfl (fun hc => wrap_i64 (by (try simp only [Bool.and_eq_true, decide_eq_true_eq, Bool.not_eq_true', Bool.or_eq_false_iff, decide_eq_false_iff_not, beq_iff_eq, beq_eq_false_iff_ne, ne_eq] at hc); omega) (by (try simp only [Bool.and_eq_true, decide_eq_true_eq, Bool.not_eq_true', Bool.or_eq_false_iff, decide_eq_false_iff_not, beq_iff_eq, beq_eq_false_iff_ne, ne_eq] at hc); omega)) ?_
    refine .nil ?_
    refine Wp.one 26 (by kernel_rfl) ?_
    refine ih rfl (.tc rfl rfl) Fx.se31 (.s rfl) (.s rfl) (fun hc => by (try simp only [Bool.and_eq_true, decide_eq_true_eq, Bool.not_eq_true', Bool.or_eq_false_iff, decide_eq_false_iff_not, beq_iff_eq, beq_eq_false_iff_ne, ne_eq] at hc); omega) (fun hc => by (try simp only [Bool.and_eq_true, decide_eq_true_eq, Bool.not_eq_true', Bool.or_eq_false_iff, decide_eq_false_iff_not, beq_iff_eq, beq_eq_false_iff_ne, ne_eq] at hc); omega) (fun hc => hsRA.nn (k := ((((acc.length : Nat) : Int) - (1 : Int))).toNat) (by first | omega | (simp only [Bool.and_eq_true, decide_eq_true_eq, Bool.not_eq_true', Bool.or_eq_false_iff, decide_eq_false_iff_not, beq_iff_eq, beq_eq_false_iff_ne, ne_eq] at hc; omega) | (simp only [List.length_cons, List.length_nil]; omega))) ?_
    refine .nil ?_
    refine Wp.one 27 (by kernel_rfl) ?_
    refine fa rfl (.tc rfl rfl) Fx.fo43_0 (.s rfl) ?_
    refine .nil ?_
    refine Wp.one 28 (by kernel_rfl) ?_
    refine ld rfl (.tc rfl rfl) Fx.ag9 (.s rfl) (fun hc => (hsRA.at (k := acc.length - 1) (by (try simp only [Bool.and_eq_true, decide_eq_true_eq, Bool.not_eq_true', Bool.or_eq_false_iff, decide_eq_false_iff_not, beq_iff_eq, beq_eq_false_iff_ne, ne_eq] at hc); omega) (gd_at (z := Ent.zero) (k := acc.length - 1) (by (try simp only [Bool.and_eq_true, decide_eq_true_eq, Bool.not_eq_true', Bool.or_eq_false_iff, decide_eq_false_iff_not, beq_iff_eq, beq_eq_false_iff_ne, ne_eq] at hc); omega)) 0 _ rfl).rd) ?_
    refine .nil ?_
    refine Wp.one 29 (by kernel_rfl) ?_
    refine fz rfl (.tc rfl rfl) Fx.fo38_7 (.u rfl) ?_
    refine .nil ?_
    refine Wp.one 30 (by kernel_rfl) ?_
    refine ld rfl (.tc rfl rfl) Fx.ag9 (.s rfl) (fun hc => Rd.own (.there (.there .here)) (by first | exact wap_f rfl | rfl)) ?_
    refine .nil ?_
    refine Wp.one 31 (by kernel_rfl) ?_
    refine cs rfl (.tc rfl rfl) (.s rfl) (.s rfl) rfl ?_
    refine .nil ?_
    refine Wp.one 32 (by kernel_rfl) ?_
    refine pkA rfl (.fc rfl rfl) (.s rfl) (.s rfl) ?_
    refine .nil ?_
    refine Wp.one 33 (by kernel_rfl) ?_
    refine pkO rfl (.t rfl rfl) (.s rfl) (.s rfl) ?_
    refine .nil ?_
    refine Wp.one 34 (by kernel_rfl) ?_
    refine pkA rfl .no (.u rfl) (.s rfl) ?_
    refine .nil ?_
    refine Wp.b1 35 (by kernel_rfl) ?_
    refine kv rfl .no Fx.go43 (Eva.cons (.u rfl) Eva.nil) (fun _ => need_ok _ (al_need hfin) _) ?_
    refine .nil ?_
    refine Wp.last (by kernel_rfl) ?_
    refine .code ?_
    refine .seq ?_
    refine Wk.rg [0, 1, 2] rfl rfl ?_
    refine mv rfl .no (.u rfl) ?_
    refine asg rfl .no (.u rfl) ?_
    refine s1 rfl (.u rfl) (.u rfl) rfl Fx.sz39 (.there .here) (by first | decide | (simp only [wa_len, ba_len, List.length_append, List.length_cons, List.length_nil]; omega)) (rfl) ?_
    refine .nil ?_
    refine .code ?_
    refine .ret ?_
    refine We.finR Fx.go33 rfl (fun w => caught_ret w _) Tryd.results12 (.tmp rfl (.cell rfl (fun w hw => run_loadVar1 Fx.ag39 (Rd.own .here rfl w hw)) .nil)) MSub.nil ?_
    exact ⟨hRA, rfl, rfl, hsRA⟩

end Go.Proofs.YtbdnclpopappeaaDoor

namespace Go.Proofs.YtbdnclpopappeaaDoor
set_option linter.unusedSimpArgs false
set_option linter.unusedVariables false
open Go.Tan Go.RowKit

namespace Fx
theorem bp43_0_1 : bPl Tryd.prog 43 [0, 1] = some (Ent.zero.cells, [(0, 1), (1, 1)]) := by kernel_rfl
theorem eqt43 : eqT Tryd.prog 4 43 (entKs) = true := by kernel_rfl
theorem bp26_0 : bPl Tryd.prog 26 [0] = some ([V 0#8, V 0#8, uv .u64 0#64, uv .u64 0#64, uv .u64 0#64], [(0, 1)]) := by kernel_rfl
theorem bp23_ : bPl Tryd.prog 23 [] = some (ba 32 (fun _ => 0#8), []) := by kernel_rfl
theorem bp28_0_1_2 : bPl Tryd.prog 28 [0, 1, 2] = some ([.int .i64 0, .int .i64 0, .int .i64 0], [(0, 1), (1, 1), (2, 1)]) := by kernel_rfl
theorem go8 : goFn Tryd.prog 8 = true := by kernel_rfl
theorem go9 : goFn Tryd.prog 9 = true := by kernel_rfl
end Fx
theorem light17_ok (h : Sh) (l : List Ent) (G : PM) (hs : SlR G 4 Ent.cells h l) : Ct Tryd.prog 7 ([h.val l.length] : List Value).toArray G [] (fun _ μ' u => μ' = [] ∧ u = .bool (B (lightE l))) := by
  refine Ct.of Tryd.func7 rfl Tryd.ntmps7 rfl fun w0 hs0 => ?_
  refine .seq ?_
  refine Wk.rg [0] rfl rfl ?_
  refine asg rfl .no (.u rfl) ?_
  refine .nil ?_
  refine .code ?_
  refine .seq ?_
  refine Wk.rg [0] rfl rfl ?_
  refine asg rfl .no (.u rfl) ?_
  refine .nil ?_
  refine .code ?_
  refine .seq ?_
  refine .seq ?_
  refine Wk.rg [0, 1, 2] rfl rfl ?_
  refine mv rfl .no (.u rfl) ?_
  refine ln rfl .no Fx.sn31 (.u rfl) ?_
  refine mv rfl .no (.u rfl) ?_
  refine .nil ?_
  refine .code ?_
  refine .block ?_
  refine Wk.lop (α := Nat) (fun k => [(3, true, .int .i64 ((50000 - wtE (l.take k) : Nat) : Int)), (7, true, .int .i64 (k : Int))]) (fun _ => [])
    (fun k Gl => (k ≤ l.length ∧ k ≤ 300 ∧ wtE (l.take k) ≤ 50000)) (fun k => l.length - k) 0 [(0, true, _), (6, true, _)] []
    (ESub.cons rfl (by first | rfl | exact evi (by omega)) (ESub.cons rfl (by first | rfl | exact evi (by omega)) (ESub.cons rfl rfl (ESub.cons rfl rfl ESub.nil))))
    MSub.nil ?_ ?_
  · (try dsimp only) <;> (exact ⟨Nat.zero_le _, Nat.zero_le _, Nat.zero_le _⟩)
  intro k N0 Gl0 hN0 hGl0 hF0
  try dsimp only at hF0 hN0 ⊢
  have hk := hF0
  have hs := hs.mono hGl0
  refine .seq ?_
  refine Wk.rg [0] rfl rfl ?_
  refine cp rfl .no (.u rfl) (.u rfl) rfl ?_
  refine .nil ?_
  refine .code ?_
  refine .seq ?_
  refine .cond rfl (fun c1 => ?_) (fun c1 => ?_)
  · have c1k := c1
    try simp only [decide_eq_true_eq, decide_eq_false_iff_not, Int.not_lt, Int.not_le, gt_iff_lt, ge_iff_le, Bool.or_eq_true, Bool.and_eq_true, Bool.or_eq_false_iff, Bool.and_eq_false_iff, Bool.not_eq_true', Bool.not_eq_false', Int.toNat_natCast, bne_iff_ne, beq_iff_eq, bne_eq_false_iff_eq, beq_eq_false_iff_ne, ne_eq] at c1
    refine .skip ?_
    refine .code ?_
    refine .seq ?_
    refine .block ?_
    refine .seq ?_
    refine Wk.rg [0, 1] rfl rfl ?_
    refine mv rfl .no (.u rfl) ?_
    refine asg rfl .no (.u rfl) ?_
    refine .nil ?_
    refine .code ?_
    refine .seq ?_
    refine .seq ?_
    obtain ⟨x, ex⟩ := getx (k := k) (xs := l) (by omega)
    have hst := lg_step ex
    refine Wk.mixp ⟨false, false⟩ Fx.mix (by kernel_rfl) ?_
    refine Wp.one 0 (by kernel_rfl) ?_
    refine mv rfl .no (.u rfl) ?_
    refine .nil ?_
    refine Wp.one 1 (by kernel_rfl) ?_
    refine cp rfl .no (.u rfl) (.u rfl) rfl ?_
    refine .nil ?_
    refine Wp.one 2 (by kernel_rfl) ?_
    refine mv rfl .no (.u rfl) ?_
    refine .nil ?_
    refine Wp.one 3 (by kernel_rfl) ?_
    refine mv rfl (.f rfl rfl) (.u rfl) ?_
    refine .nil ?_
    refine Wp.one 4 (by kernel_rfl) ?_
    refine mv rfl (.f rfl rfl) (.u rfl) ?_
    refine .nil ?_
    refine Wp.one 5 (by kernel_rfl) ?_
    refine ih rfl (.f rfl rfl) Fx.se31 (.s rfl) (.s rfl) (fun hc => by (try simp only [Bool.and_eq_true, decide_eq_true_eq, Bool.not_eq_true', Bool.or_eq_false_iff, decide_eq_false_iff_not] at hc); omega) (fun hc => by (try simp only [Bool.and_eq_true, decide_eq_true_eq, Bool.not_eq_true', Bool.or_eq_false_iff, decide_eq_false_iff_not] at hc); omega) (fun hc => hs.nn (k := k) (by first | omega | (simp only [Bool.and_eq_true, decide_eq_true_eq] at hc; omega) | (simp only [List.length_cons, List.length_nil]; omega))) ?_
    refine .nil ?_
    refine Wp.one 6 (by kernel_rfl) ?_
    refine fa rfl (.f rfl rfl) Fx.fo43_0 (.s rfl) ?_
    refine .nil ?_
    refine Wp.one 7 (by kernel_rfl) ?_
    refine ld rfl (.f rfl rfl) Fx.ag9 (.s rfl) (fun hc => (hs.at (by (try simp only [Bool.and_eq_true, decide_eq_true_eq, Bool.not_eq_true', Bool.or_eq_false_iff, decide_eq_false_iff_not] at hc); omega) ex 0 _ rfl).rd) ?_
    refine .nil ?_
    refine Wp.one 8 (by kernel_rfl) ?_
    refine ls rfl (.f rfl rfl) Fx.st9 (.s rfl) ?_
    refine .nil ?_
    refine Wp.one 9 (by kernel_rfl) ?_
    refine mv rfl (.f rfl rfl) (.u rfl) ?_
    refine .nil ?_
    refine Wp.one 10 (by kernel_rfl) ?_
    refine cp rfl (.f rfl rfl) (.s rfl) (.s rfl) rfl ?_
    refine .nil ?_
    refine Wp.one 11 (by kernel_rfl) ?_
    refine pkO rfl .no (.u rfl) (.s rfl) ?_
    refine .nil ?_
    refine Wp.one 12 (by kernel_rfl) ?_
    refine mv rfl .no (.u rfl) ?_
    refine .nil ?_
    refine Wp.one 13 (by kernel_rfl) ?_
    refine mv rfl (.f rfl rfl) (.u rfl) ?_
    refine .nil ?_
    refine Wp.one 14 (by kernel_rfl) ?_
    refine mv rfl (.f rfl rfl) (.u rfl) ?_
    refine .nil ?_
    refine Wp.one 15 (by kernel_rfl) ?_
    refine ih rfl (.f rfl rfl) Fx.se31 (.s rfl) (.s rfl) (fun hc => by (try simp only [Bool.and_eq_true, decide_eq_true_eq, Bool.not_eq_true', Bool.or_eq_false_iff, decide_eq_false_iff_not] at hc); omega) (fun hc => by (try simp only [Bool.and_eq_true, decide_eq_true_eq, Bool.not_eq_true', Bool.or_eq_false_iff, decide_eq_false_iff_not] at hc); omega) (fun hc => hs.nn (k := k) (by first | omega | (simp only [Bool.and_eq_true, decide_eq_true_eq] at hc; omega) | (simp only [List.length_cons, List.length_nil]; omega))) ?_
    refine .nil ?_
    refine Wp.one 16 (by kernel_rfl) ?_
    refine fa rfl (.f rfl rfl) Fx.fo43_3 (.s rfl) ?_
    refine .nil ?_
    refine Wp.one 17 (by kernel_rfl) ?_
    refine ld rfl (.f rfl rfl) Fx.ag9 (.s rfl) (fun hc => (hs.at (by (try simp only [Bool.and_eq_true, decide_eq_true_eq, Bool.not_eq_true', Bool.or_eq_false_iff, decide_eq_false_iff_not] at hc); omega) ex 3 _ rfl).rd) ?_
    refine .nil ?_
    refine Wp.one 18 (by kernel_rfl) ?_
    refine ls rfl (.f rfl rfl) Fx.st9 (.s rfl) ?_
    refine .nil ?_
    refine Wp.one 19 (by kernel_rfl) ?_
    refine mv rfl (.f rfl rfl) (.u rfl) ?_
    refine .nil ?_
    refine Wp.one 20 (by kernel_rfl) ?_
    refine mv rfl (.f rfl rfl) (.u rfl) ?_
    refine .nil ?_
    refine Wp.one 21 (by kernel_rfl) ?_
    refine mv rfl (.f rfl rfl) (.u rfl) ?_
    refine .nil ?_
    refine Wp.one 22 (by kernel_rfl) ?_
    refine ih rfl (.f rfl rfl) Fx.se31 (.s rfl) (.s rfl) (fun hc => by (try simp only [Bool.and_eq_true, decide_eq_true_eq, Bool.not_eq_true', Bool.or_eq_false_iff, decide_eq_false_iff_not] at hc); omega) (fun hc => by (try simp only [Bool.and_eq_true, decide_eq_true_eq, Bool.not_eq_true', Bool.or_eq_false_iff, decide_eq_false_iff_not] at hc); omega) (fun hc => hs.nn (k := k) (by first | omega | (simp only [Bool.and_eq_true, decide_eq_true_eq] at hc; omega) | (simp only [List.length_cons, List.length_nil]; omega))) ?_
    refine .nil ?_
    refine Wp.one 23 (by kernel_rfl) ?_
    refine fa rfl (.f rfl rfl) Fx.fo43_0 (.s rfl) ?_
    refine .nil ?_
    refine Wp.one 24 (by kernel_rfl) ?_
    refine ld rfl (.f rfl rfl) Fx.ag9 (.s rfl) (fun hc => (hs.at (by (try simp only [Bool.and_eq_true, decide_eq_true_eq, Bool.not_eq_true', Bool.or_eq_false_iff, decide_eq_false_iff_not] at hc); omega) ex 0 _ rfl).rd) ?_
    refine .nil ?_
    refine Wp.one 25 (by kernel_rfl) ?_
    refine ls rfl (.f rfl rfl) Fx.st9 (.s rfl) ?_
    refine .nil ?_
    refine Wp.one 26 (by kernel_rfl) ?_
    refine ar rfl (.f rfl rfl) (.s rfl) (.s rfl) rfl (fun hc => wrap_i64 (by (try simp only [Bool.and_eq_true, decide_eq_true_eq, Bool.not_eq_true', Bool.or_eq_false_iff, decide_eq_false_iff_not] at hc); omega) (by (try simp only [Bool.and_eq_true, decide_eq_true_eq, Bool.not_eq_true', Bool.or_eq_false_iff, decide_eq_false_iff_not] at hc); omega)) ?_
    refine .nil ?_
    refine Wp.one 27 (by kernel_rfl) ?_
    refine cp rfl (.f rfl rfl) (.s rfl) (.s rfl) rfl ?_
    refine .nil ?_
    refine Wp.one 28 (by kernel_rfl) ?_
    refine pkO rfl .no (.u rfl) (.s rfl) ?_
    refine .nil ?_
    refine Wp.last (by kernel_rfl) ?_
    refine .code ?_
    refine .cond rfl (fun c2 => ?_) (fun c2 => ?_)
    · have c2k := c2
      try simp only [decide_eq_true_eq, decide_eq_false_iff_not, Int.not_lt, Int.not_le, gt_iff_lt, ge_iff_le, Bool.or_eq_true, Bool.and_eq_true, Bool.or_eq_false_iff, Bool.and_eq_false_iff, Bool.not_eq_true', Bool.not_eq_false', Int.toNat_natCast, bne_iff_ne, beq_iff_eq, bne_eq_false_iff_eq, beq_eq_false_iff_ne, ne_eq] at c2
      refine .seq ?_
      refine Wk.rg [0] rfl rfl ?_
      refine asg rfl .no (.u rfl) ?_
      refine .nil ?_
      refine .code ?_
      refine .ret ?_
      refine We.fin0 Tryd.results7 (.tmp rfl .nil) ?_
      exact ⟨rfl, congrArg Value.bool (lg_no ex (by omega)).symm⟩
    · have c2k := c2
      try simp only [decide_eq_true_eq, decide_eq_false_iff_not, Int.not_lt, Int.not_le, gt_iff_lt, ge_iff_le, Bool.or_eq_true, Bool.and_eq_true, Bool.or_eq_false_iff, Bool.and_eq_false_iff, Bool.not_eq_true', Bool.not_eq_false', Int.toNat_natCast, bne_iff_ne, beq_iff_eq, bne_eq_false_iff_eq, beq_eq_false_iff_ne, ne_eq] at c2
      refine .skip ?_
      refine .code ?_
      refine Wk.mixp ⟨false, false⟩ Fx.mix (by kernel_rfl) ?_
      refine Wp.one 0 (by kernel_rfl) ?_
      refine mv rfl .no (.u rfl) ?_
      refine .nil ?_
      refine Wp.one 1 (by kernel_rfl) ?_
      refine mv rfl .no (.u rfl) ?_
      refine .nil ?_
      refine Wp.one 2 (by kernel_rfl) ?_
      refine mv rfl .no (.u rfl) ?_
      refine .nil ?_
      refine Wp.one 3 (by kernel_rfl) ?_
      refine ih rfl .no Fx.se31 (.u rfl) (.u rfl) (fun _ => by omega) (fun _ => by omega) (fun _ => hs.nn (k := k) (by first | omega | (simp only [Bool.and_eq_true, decide_eq_true_eq] at hc; omega) | (simp only [List.length_cons, List.length_nil]; omega))) ?_
      refine .nil ?_
      refine Wp.one 4 (by kernel_rfl) ?_
      refine fa rfl .no Fx.fo43_0 (.u rfl) ?_
      refine .nil ?_
      refine Wp.one 5 (by kernel_rfl) ?_
      refine ld rfl .no Fx.ag9 (.u rfl) (fun _ => (hs.at (by omega) ex 0 _ rfl).rd) ?_
      refine .nil ?_
      refine Wp.one 6 (by kernel_rfl) ?_
      refine ls rfl .no Fx.st9 (.u rfl) ?_
      refine .nil ?_
      refine Wp.one 7 (by kernel_rfl) ?_
      refine mv rfl .no (.u rfl) ?_
      refine .nil ?_
      refine Wp.one 8 (by kernel_rfl) ?_
      refine mv rfl .no (.u rfl) ?_
      refine .nil ?_
      refine Wp.one 9 (by kernel_rfl) ?_
      refine ih rfl .no Fx.se31 (.u rfl) (.u rfl) (fun _ => by omega) (fun _ => by omega) (fun _ => hs.nn (k := k) (by first | omega | (simp only [Bool.and_eq_true, decide_eq_true_eq] at hc; omega) | (simp only [List.length_cons, List.length_nil]; omega))) ?_
      refine .nil ?_
      refine Wp.one 10 (by kernel_rfl) ?_
      refine fa rfl .no Fx.fo43_3 (.u rfl) ?_
      refine .nil ?_
      refine Wp.one 11 (by kernel_rfl) ?_
      refine ld rfl .no Fx.ag9 (.u rfl) (fun _ => (hs.at (by omega) ex 3 _ rfl).rd) ?_
      refine .nil ?_
      refine Wp.one 12 (by kernel_rfl) ?_
      refine ls rfl .no Fx.st9 (.u rfl) ?_
      refine .nil ?_
      refine Wp.one 13 (by kernel_rfl) ?_
      refine arn (((x.user.size + x.value.size) : Nat) : Int) rfl .no (.u rfl) (.u rfl) rfl (fun _ => by omega) (fun _ => wrap_i64 (by omega) (by omega)) ?_
      refine .nil ?_
      refine Wp.one 14 (by kernel_rfl) ?_
      refine ar rfl .no (.u rfl) (.u rfl) rfl (fun _ => wrap_i64 (by omega) (by omega)) ?_
      refine .nil ?_
      refine Wp.one 15 (by kernel_rfl) ?_
      refine asg rfl .no (.u rfl) ?_
      refine .nil ?_
      refine Wp.last (by kernel_rfl) ?_
      refine .blk ?_
      refine .code ?_
      refine Wk.rg [0, 1] rfl rfl ?_
      refine arn (((k + 1) : Nat) : Int) rfl .no (.u rfl) (.u rfl) rfl (fun _ => by omega) (fun _ => wrap_i64 (by omega) (by omega)) ?_
      refine mv rfl .no (.u rfl) ?_
      refine .nil ?_
      refine We.lpo (k + 1) ?_ ?_ ?_ ?_ ?_
      · exact (ESub.cons rfl (evi (by omega)) (ESub.cons rfl (by first | rfl | exact evi (by omega)) (ESub.cons rfl rfl (ESub.cons rfl rfl ESub.nil))))
      · exact MSub.nil
      · first | omega | (dsimp only; omega)
      · exact hGl0
      · (try dsimp only) <;> (first | omega | rfl | assumption | (simp; done))
  · have c1k := c1
    try simp only [decide_eq_true_eq, decide_eq_false_iff_not, Int.not_lt, Int.not_le, gt_iff_lt, ge_iff_le, Bool.or_eq_true, Bool.and_eq_true, Bool.or_eq_false_iff, Bool.and_eq_false_iff, Bool.not_eq_true', Bool.not_eq_false', Int.toNat_natCast, bne_iff_ne, beq_iff_eq, bne_eq_false_iff_eq, beq_eq_false_iff_ne, ne_eq] at c1
    refine .exit ?_
    refine .xcode ?_
    refine .xlp ?_
    refine .xblk ?_
    refine .code ?_
    refine .seq ?_
    refine Wk.rg [0] rfl rfl ?_
    refine asg rfl .no (.u rfl) ?_
    refine .nil ?_
    refine .code ?_
    refine .ret ?_
    refine We.fin0 Tryd.results7 (.tmp rfl .nil) ?_
    exact ⟨rfl, congrArg Value.bool (lg_yes (by omega) hk.2.1 hk.2.2).symm⟩

theorem same08_ok (ha hb : Sh) (a b : List Ent) (G : PM) (hs : SlR G 4 Ent.cells ha a) (hs2 : SlR G 4 Ent.cells hb b) (hl : a.length ≤ 10000000000000) (hc1 : ∀ e ∈ a, e.user.size ≤ 1000000 ∧ e.value.size ≤ 1000000) (hc2 : ∀ e ∈ b, e.user.size ≤ 1000000 ∧ e.value.size ≤ 1000000) : Ct Tryd.prog 13 ([ha.val a.length, hb.val b.length] : List Value).toArray G [] (fun _ μ' u => μ' = [] ∧ u = .bool (B (a = b))) := by
  refine Ct.of Tryd.func13 rfl Tryd.ntmps13 rfl fun w0 hs0 => ?_
  refine .seq ?_
  refine Wk.rg [0] rfl rfl ?_
  refine asg rfl .no (.u rfl) ?_
  refine .nil ?_
  refine .code ?_
  refine .seq ?_
  refine .seq ?_
  refine Wk.rg [0, 1, 2, 3, 4] rfl rfl ?_
  refine mv rfl .no (.u rfl) ?_
  refine ln rfl .no Fx.sn31 (.u rfl) ?_
  refine mv rfl .no (.u rfl) ?_
  refine ln rfl .no Fx.sn31 (.u rfl) ?_
  refine cp rfl .no (.u rfl) (.u rfl) rfl ?_
  refine .nil ?_
  refine .code ?_
  refine .cond rfl (fun c1 => ?_) (fun c1 => ?_)
  · have c1k := c1
    try simp only [decide_eq_true_eq, decide_eq_false_iff_not, Int.not_lt, Int.not_le, gt_iff_lt, ge_iff_le, Bool.or_eq_true, Bool.and_eq_true, Bool.or_eq_false_iff, Bool.not_eq_true', Bool.not_eq_false', Int.toNat_natCast, bne_iff_ne, beq_iff_eq, bne_eq_false_iff_eq, beq_eq_false_iff_ne, ne_eq] at c1
    refine .seq ?_
    refine Wk.rg [0] rfl rfl ?_
    refine asg rfl .no (.u rfl) ?_
    refine .nil ?_
    refine .code ?_
    refine .ret ?_
    refine We.fin0 Tryd.results13 (.tmp rfl .nil) ?_
    exact ⟨rfl, congrArg Value.bool (sb_len (by omega)).symm⟩
  · have c1k := c1
    try simp only [decide_eq_true_eq, decide_eq_false_iff_not, Int.not_lt, Int.not_le, gt_iff_lt, ge_iff_le, Bool.or_eq_true, Bool.and_eq_true, Bool.or_eq_false_iff, Bool.not_eq_true', Bool.not_eq_false', Int.toNat_natCast, bne_iff_ne, beq_iff_eq, bne_eq_false_iff_eq, beq_eq_false_iff_ne, ne_eq] at c1
    refine .skip ?_
    refine .code ?_
    refine .seq ?_
    refine .seq ?_
    refine Wk.rg [0] rfl rfl ?_
    refine asg rfl .no (.u rfl) ?_
    refine .nil ?_
    refine .code ?_
    refine .block ?_
    refine Wk.lop (α := Nat) (fun k => [(5, true, .int .i64 (k : Int))]) (fun _ => [])
      (fun k Gl => (k ≤ a.length) ∧ (∀ j, j < k → a[j]? = b[j]?)) (fun k => a.length - k) 0 [(0, true, _), (1, true, _)] []
      (ESub.cons rfl (by first | rfl | exact evi (by omega)) (ESub.cons rfl rfl (ESub.cons rfl rfl ESub.nil)))
      MSub.nil ?_ ?_
    · refine ⟨?_, ?_⟩
      · (try dsimp only) <;> (first | omega | rfl | assumption | (simp; done))
      · (try dsimp only) <;> (exact fun j h => absurd h (Nat.not_lt_zero _))
    intro k N0 Gl0 hN0 hGl0 hF0
    try dsimp only at hF0 hN0 ⊢
    obtain ⟨hk, hn⟩ := hF0
    have hs := hs.mono hGl0
    have hs2 := hs2.mono hGl0
    refine .seq ?_
    refine .seq ?_
    refine Wk.rg [0, 1, 2, 3] rfl rfl ?_
    refine mv rfl .no (.u rfl) ?_
    refine mv rfl .no (.u rfl) ?_
    refine ln rfl .no Fx.sn31 (.u rfl) ?_
    refine cp rfl .no (.u rfl) (.u rfl) rfl ?_
    refine .nil ?_
    refine .code ?_
    refine .cond rfl (fun c2 => ?_) (fun c2 => ?_)
    · have c2k := c2
      try simp only [decide_eq_true_eq, decide_eq_false_iff_not, Int.not_lt, Int.not_le, gt_iff_lt, ge_iff_le, Bool.or_eq_true, Bool.and_eq_true, Bool.or_eq_false_iff, Bool.not_eq_true', Bool.not_eq_false', Int.toNat_natCast, bne_iff_ne, beq_iff_eq, bne_eq_false_iff_eq, beq_eq_false_iff_ne, ne_eq] at c2
      refine .skip ?_
      refine .code ?_
      refine .seq ?_
      refine .block ?_
      refine .seq ?_
      obtain ⟨x, ex⟩ := getx (k := k) (xs := a) (by omega)
      obtain ⟨y, ey⟩ := getx (k := k) (xs := b) (by omega)
      have hx1 := hc1 x (List.mem_of_getElem? ex); have hy1 := hc2 y (List.mem_of_getElem? ey)
      refine Wk.mixp ⟨false, false⟩ Fx.mix (by kernel_rfl) ?_
      refine Wp.one 0 (by kernel_rfl) ?_
      refine mv rfl .no (.u rfl) ?_
      refine .nil ?_
      refine Wp.one 1 (by kernel_rfl) ?_
      refine mv rfl .no (.u rfl) ?_
      refine .nil ?_
      refine Wp.one 2 (by kernel_rfl) ?_
      refine ih rfl .no Fx.se31 (.u rfl) (.u rfl) (fun _ => by omega) (fun _ => by omega) (fun _ => hs.nn (k := k) (by first | omega | (simp only [Bool.and_eq_true, decide_eq_true_eq] at hc; omega) | (simp only [List.length_cons, List.length_nil]; omega))) ?_
      refine .nil ?_
      refine Wp.one 3 (by kernel_rfl) ?_
      refine lA rfl .no Fx.ag43 (.u rfl) (fun _ => (hs.at (by omega) ex).rd) (fun _ => Ent.len _) ?_
      refine .nil ?_
      refine Wp.one 4 (by kernel_rfl) ?_
      refine mv rfl .no (.u rfl) ?_
      refine .nil ?_
      refine Wp.one 5 (by kernel_rfl) ?_
      refine mv rfl .no (.u rfl) ?_
      refine .nil ?_
      refine Wp.one 6 (by kernel_rfl) ?_
      refine ih rfl .no Fx.se31 (.u rfl) (.u rfl) (fun _ => by omega) (fun _ => by omega) (fun _ => hs2.nn (k := k) (by first | omega | (simp only [Bool.and_eq_true, decide_eq_true_eq] at hc; omega) | (simp only [List.length_cons, List.length_nil]; omega))) ?_
      refine .nil ?_
      refine Wp.one 7 (by kernel_rfl) ?_
      refine lA rfl .no Fx.ag43 (.u rfl) (fun _ => (hs2.at (by omega) ey).rd) (fun _ => Ent.len _) ?_
      refine .nil ?_
      refine Wp.one 8 (by kernel_rfl) ?_
      refine nqC (B (x = y)) rfl .no Fx.eqt43 (.u rfl) (.u rfl) (fun _ => ent_conf hx1.1 hx1.2) (fun _ => ent_conf hy1.1 hy1.2) (fun _ => ent_iff) ?_
      refine .nil ?_
      refine Wp.last (by kernel_rfl) ?_
      refine .code ?_
      refine .cond rfl (fun c3 => ?_) (fun c3 => ?_)
      · have c3k := c3
        try simp only [decide_eq_true_eq, decide_eq_false_iff_not, Int.not_lt, Int.not_le, gt_iff_lt, ge_iff_le, Bool.or_eq_true, Bool.and_eq_true, Bool.or_eq_false_iff, Bool.not_eq_true', Bool.not_eq_false', Int.toNat_natCast, bne_iff_ne, beq_iff_eq, bne_eq_false_iff_eq, beq_eq_false_iff_ne, ne_eq] at c3
        refine .seq ?_
        refine Wk.rg [0] rfl rfl ?_
        refine asg rfl .no (.u rfl) ?_
        refine .nil ?_
        refine .code ?_
        refine .ret ?_
        refine We.fin0 Tryd.results13 (.tmp rfl .nil) ?_
        exact ⟨rfl, congrArg Value.bool (sb_no ex ey (B_not (by simpa using c3k))).symm⟩
      · have c3k := c3
        try simp only [decide_eq_true_eq, decide_eq_false_iff_not, Int.not_lt, Int.not_le, gt_iff_lt, ge_iff_le, Bool.or_eq_true, Bool.and_eq_true, Bool.or_eq_false_iff, Bool.not_eq_true', Bool.not_eq_false', Int.toNat_natCast, bne_iff_ne, beq_iff_eq, bne_eq_false_iff_eq, beq_eq_false_iff_ne, ne_eq] at c3
        refine .skip ?_
        refine .blk ?_
        refine .code ?_
        refine Wk.rg [0, 1, 2] rfl rfl ?_
        refine mv rfl .no (.u rfl) ?_
        refine arn (((k + 1) : Nat) : Int) rfl .no (.u rfl) (.u rfl) rfl (fun _ => by omega) (fun _ => wrap_i64 (by omega) (by omega)) ?_
        refine asg rfl .no (.u rfl) ?_
        refine .nil ?_
        refine We.lpo (k + 1) ?_ ?_ ?_ ?_ ?_
        · exact (ESub.cons rfl (by first | rfl | exact evi (by omega)) (ESub.cons rfl rfl (ESub.cons rfl rfl ESub.nil)))
        · exact MSub.nil
        · first | omega | (dsimp only; omega)
        · exact hGl0
        · refine ⟨?_, ?_⟩
          · (try dsimp only) <;> (first | omega | rfl | assumption | (simp; done))
          · (try dsimp only) <;> (exact sb_step hn ex ey (B_iff.1 (by simpa using c3k)))
    · have c2k := c2
      try simp only [decide_eq_true_eq, decide_eq_false_iff_not, Int.not_lt, Int.not_le, gt_iff_lt, ge_iff_le, Bool.or_eq_true, Bool.and_eq_true, Bool.or_eq_false_iff, Bool.not_eq_true', Bool.not_eq_false', Int.toNat_natCast, bne_iff_ne, beq_iff_eq, bne_eq_false_iff_eq, beq_eq_false_iff_ne, ne_eq] at c2
      refine .exit ?_
      refine .xcode ?_
      refine .xlp ?_
      refine .xblk ?_
      refine .code ?_
      refine .seq ?_
      refine Wk.rg [0] rfl rfl ?_
      refine asg rfl .no (.u rfl) ?_
      refine .nil ?_
      refine .code ?_
      refine .ret ?_
      refine We.fin0 Tryd.results13 (.tmp rfl .nil) ?_
      exact ⟨rfl, congrArg Value.bool (sb_yes (by omega) (by omega) hn).symm⟩

theorem shown17_ok (G : PM) (hK : RdNP G 0 0 (wa 64 kW)) : Ct Tryd.prog 6 ([] : List Value).toArray G [] (fun _ μ' u => μ' = [] ∧ u = .bool true) := by
  refine Ct.of Tryd.func6 rfl Tryd.ntmps6 rfl fun w0 hs0 => ?_
  refine .seq ?_
  refine Wk.rg [0] rfl rfl ?_
  refine asg rfl .no (.u rfl) ?_
  refine .nil ?_
  refine .code ?_
  refine .seq ?_
  refine Wk.rg [0, 1, 2] rfl rfl ?_
  refine bCe ([V 2#8, V 0#8, uv .u64 0#64, uv .u64 0#64, uv .u64 0#64]) rfl .no Fx.bp26_0 (.cons (.u rfl) rfl .nil) rfl (rfl) ?_
  refine al rfl Fx.zq26 ?_; intro b1
  refine sw rfl (.u rfl) (.u rfl) rfl Fx.sz26 .here rfl (one5 rfl rfl rfl rfl rfl) ?_
  refine .nil ?_
  refine .code ?_
  refine .seq ?_
  refine Wk.rg [0, 1, 2] rfl rfl ?_
  refine bCe (entA.cells) rfl .no Fx.bp43_0_1 (.cons (.u rfl) rfl (.cons (.u rfl) rfl .nil)) rfl (rfl) ?_
  refine b1f (cs := entA.cells) rfl Fx.se31 Fx.zw43 (.u rfl) rfl rfl (by decide) ?_; intro b20 G20 hG20 hb20; have hs20 := hb20.sl1 (sz := 4) (enc := Ent.cells) (x := entA) (cap := 1) (by decide)
  have hK := hK.mono hG20
  refine asg rfl .no (.u rfl) ?_
  refine .nil ?_
  refine .code ?_
  refine .seq ?_
  refine Wk.rg [0, 1, 2, 3, 4, 5, 6, 7, 8, 9, 10, 11] rfl rfl ?_
  refine bCe (ba 32 zF) rfl .no Fx.bp23_ .nil rfl (rfl) ?_
  refine lA rfl .no Fx.ag26 (.u rfl) (fun _ => RdN.part (n := 5) (cs' := [V 2#8, V 0#8, uv .u64 0#64, uv .u64 0#64, uv .u64 0#64]) .here (rfl)) (fun _ => rfl) ?_
  refine bCe ([.int .i64 1, .int .i64 1, .int .i64 10]) rfl .no Fx.bp28_0_1_2 (.cons (.u rfl) rfl (.cons (.u rfl) rfl (.cons (.u rfl) rfl .nil))) rfl (rfl) ?_
  refine kc rfl Fx.go8 (Eva.cons (.u rfl) (Eva.cons (.u rfl) (Eva.cons (.u rfl) (Eva.cons (.u rfl) Eva.nil)))) (tBuild_ok zF hdT [] ⟨none, 0⟩ 1 1 10 _ SlR.nul ⟨by decide, by decide⟩ hK) ?_
  rintro _ G25 μ25 hG25 ⟨h25, L25, m25, er25, hB25, rfl, rfl, hs25⟩
  have hK := hK.mono hG25
  have hs20 := hs20.mono hG25
  refine mv rfl .no (.u rfl) ?_
  refine ex rfl .no (.u rfl) rfl ?_
  refine ex rfl .no (.u rfl) rfl ?_
  refine ex rfl .no (.u rfl) rfl ?_
  refine al rfl Fx.zq38 ?_; intro b4
  refine asg rfl .no (.u rfl) ?_
  refine sw rfl (.u rfl) (.u rfl) rfl Fx.sz38 .here rfl (Meta.one _) ?_
  refine asg rfl .no (.u rfl) ?_
  refine .nil ?_
  obtain rfl := sh_bad hB25
  refine .code ?_
  refine .seq ?_
  refine Wk.rg [0, 1, 2, 3, 4, 5, 6, 7, 8, 9, 10, 11, 12] rfl rfl ?_
  refine bCe (ba 32 zF) rfl .no Fx.bp23_ .nil rfl (rfl) ?_
  refine lA rfl .no Fx.ag26 (.u rfl) (fun _ => RdN.part (n := 5) (cs' := [V 2#8, V 0#8, uv .u64 0#64, uv .u64 0#64, uv .u64 0#64]) (.there .here) (rfl)) (fun _ => rfl) ?_
  refine mv rfl .no (.u rfl) ?_
  refine bCe ([.int .i64 1, .int .i64 1, .int .i64 10]) rfl .no Fx.bp28_0_1_2 (.cons (.u rfl) rfl (.cons (.u rfl) rfl (.cons (.u rfl) rfl .nil))) rfl (rfl) ?_
  refine kc rfl Fx.go8 (Eva.cons (.u rfl) (Eva.cons (.u rfl) (Eva.cons (.u rfl) (Eva.cons (.u rfl) Eva.nil)))) (tBuild_ok zF hdT [entA] ⟨some ⟨b20, 0, none⟩, 1⟩ 1 1 10 _ hs20 sh_light hK) ?_
  rintro _ G34 μ34 hG34 ⟨h34, L34, m34, er34, hB34, rfl, rfl, hs34⟩
  have hK := hK.mono hG34
  have hs20 := hs20.mono hG34
  have hs25 := hs25.mono hG34
  refine mv rfl .no (.u rfl) ?_
  refine ex rfl .no (.u rfl) rfl ?_
  refine ex rfl .no (.u rfl) rfl ?_
  refine ex rfl .no (.u rfl) rfl ?_
  refine al rfl Fx.zq38 ?_; intro b7
  refine asg rfl .no (.u rfl) ?_
  refine sw rfl (.u rfl) (.u rfl) rfl Fx.sz38 .here rfl (Meta.one _) ?_
  refine asg rfl .no (.u rfl) ?_
  refine .nil ?_
  obtain ⟨rfl, hw34, hl34, hT34⟩ := sh_good hB34
  refine .code ?_
  refine .seq ?_
  refine Wk.rg [0, 1, 2, 3, 4, 5, 6, 7, 8, 9, 10, 11] rfl rfl ?_
  refine bCe (ba 32 zF) rfl .no Fx.bp23_ .nil rfl (rfl) ?_
  refine lA rfl .no Fx.ag38 (.u rfl) (fun _ => RdN.part (n := 40) (cs' := m34.cells) .here (rfl)) (fun _ => (Meta.len _)) ?_
  refine mv rfl .no (.u rfl) ?_
  refine kv rfl .no Fx.go9 (Eva.cons (.u rfl) (Eva.cons (.u rfl) (Eva.cons (.u rfl) (Eva.cons (.u rfl) (Eva.cons (.u rfl) Eva.nil))))) (fun _ => tGet_ok zF m34 L34 h34 bsA 9#64 (some entA) _ hw34 hs34 hK (by omega) (by decide) (by rw [hT34]; exact congrArg some sh_t1)) ?_
  refine mv rfl .no (.u rfl) ?_
  refine ex rfl .no (.u rfl) rfl ?_
  refine ex rfl .no (.u rfl) rfl ?_
  refine ex rfl .no (.u rfl) rfl ?_
  refine al rfl Fx.zq43 ?_; intro b9
  refine sw rfl (.u rfl) (.u rfl) rfl Fx.sz43 .here rfl (Ent.one _) ?_
  refine asg rfl .no (.u rfl) ?_
  refine asg rfl .no (.u rfl) ?_
  refine .nil ?_
  refine .code ?_
  refine .seq ?_
  refine Wk.rg [0, 1, 2, 3, 4, 5, 6, 7, 8, 9, 10, 11] rfl rfl ?_
  refine bCe (ba 32 zF) rfl .no Fx.bp23_ .nil rfl (rfl) ?_
  refine lA rfl .no Fx.ag38 (.u rfl) (fun _ => RdN.part (n := 40) (cs' := m34.cells) (.there .here) (rfl)) (fun _ => (Meta.len _)) ?_
  refine mv rfl .no (.u rfl) ?_
  refine kv rfl .no Fx.go9 (Eva.cons (.u rfl) (Eva.cons (.u rfl) (Eva.cons (.u rfl) (Eva.cons (.u rfl) (Eva.cons (.u rfl) Eva.nil))))) (fun _ => tGet_ok zF m34 L34 h34 bsA 4#64 none _ hw34 hs34 hK (by omega) (by decide) (by rw [hT34]; exact congrArg some sh_t2)) ?_
  refine mv rfl .no (.u rfl) ?_
  refine ex rfl .no (.u rfl) rfl ?_
  refine ex rfl .no (.u rfl) rfl ?_
  refine ex rfl .no (.u rfl) rfl ?_
  refine al rfl Fx.zq43 ?_; intro b12
  refine sw rfl (.u rfl) (.u rfl) rfl Fx.sz43 .here rfl (Ent.one _) ?_
  refine asg rfl .no (.u rfl) ?_
  refine asg rfl .no (.u rfl) ?_
  refine .nil ?_
  refine .code ?_
  refine .seq ?_
  refine Wk.rg [0, 1, 2, 3, 4, 5, 6, 7, 8, 9, 10, 11] rfl rfl ?_
  refine bCe (ba 32 zF) rfl .no Fx.bp23_ .nil rfl (rfl) ?_
  refine lA rfl .no Fx.ag38 (.u rfl) (fun _ => RdN.part (n := 40) (cs' := m34.cells) (.there (.there .here)) (rfl)) (fun _ => (Meta.len _)) ?_
  refine mv rfl .no (.u rfl) ?_
  refine kv rfl .no Fx.go9 (Eva.cons (.u rfl) (Eva.cons (.u rfl) (Eva.cons (.u rfl) (Eva.cons (.u rfl) (Eva.cons (.u rfl) Eva.nil))))) (fun _ => tGet_ok zF m34 L34 h34 bsB 9#64 none _ hw34 hs34 hK (by omega) (by decide) (by rw [hT34]; exact congrArg some sh_t3)) ?_
  refine mv rfl .no (.u rfl) ?_
  refine ex rfl .no (.u rfl) rfl ?_
  refine ex rfl .no (.u rfl) rfl ?_
  refine ex rfl .no (.u rfl) rfl ?_
  refine al rfl Fx.zq43 ?_; intro b15
  refine sw rfl (.u rfl) (.u rfl) rfl Fx.sz43 .here rfl (Ent.one _) ?_
  refine asg rfl .no (.u rfl) ?_
  refine asg rfl .no (.u rfl) ?_
  refine .nil ?_
  refine .code ?_
  refine .seq ?_
  refine Wk.mixp ⟨false, false⟩ Fx.mix (by kernel_rfl) ?_
  refine Wp.one 0 (by kernel_rfl) ?_
  refine mv rfl .no (.u rfl) ?_
  refine .nil ?_
  refine Wp.one 1 (by kernel_rfl) ?_
  refine cp rfl .no (.u rfl) (.u rfl) rfl ?_
  refine .nil ?_
  refine Wp.one 2 (by kernel_rfl) ?_
  refine mv rfl .no (.u rfl) ?_
  refine .nil ?_
  refine Wp.one 3 (by kernel_rfl) ?_
  refine mv rfl (.t rfl rfl) (.u rfl) ?_
  refine .nil ?_
  refine Wp.one 4 (by kernel_rfl) ?_
  refine cp rfl (.t rfl rfl) (.s rfl) (.u rfl) rfl ?_
  refine .nil ?_
  refine Wp.one 5 (by kernel_rfl) ?_
  refine pkA rfl .no (.u rfl) (.s rfl) ?_
  refine .nil ?_
  refine Wp.one 6 (by kernel_rfl) ?_
  refine mv rfl .no (.u rfl) ?_
  refine .nil ?_
  refine Wp.one 7 (by kernel_rfl) ?_
  refine mv rfl (.t rfl rfl) (.u rfl) ?_
  refine .nil ?_
  refine Wp.one 8 (by kernel_rfl) ?_
  refine pkA rfl .no (.u rfl) (.s rfl) ?_
  refine .nil ?_
  refine Wp.one 9 (by kernel_rfl) ?_
  refine mv rfl .no (.u rfl) ?_
  refine .nil ?_
  refine Wp.one 10 (by kernel_rfl) ?_
  refine lA rfl (.t rfl rfl) Fx.ag43 (.u rfl) (fun _ => RdN.part (n := 4) (cs' := entA.cells) (.there (.there .here)) (rfl)) (fun _ => rfl) ?_
  refine .nil ?_
  refine Wp.one 11 (by kernel_rfl) ?_
  refine mv rfl (.t rfl rfl) (.u rfl) ?_
  refine .nil ?_
  refine Wp.one 12 (by kernel_rfl) ?_
  refine ih rfl (.t rfl rfl) Fx.se31 (.s rfl) (.u rfl) (fun hc => by omega) (fun hc => by omega) (fun hc => hs20.nn (k := 0) (by first | omega | (simp only [Bool.and_eq_true, decide_eq_true_eq] at hc; omega) | (simp only [List.length_cons, List.length_nil]; omega))) ?_
  refine .nil ?_
  refine Wp.one 13 (by kernel_rfl) ?_
  refine lA rfl (.t rfl rfl) Fx.ag43 (.s rfl) (fun hc => (hs20.at (k := 0) rfl rfl).rd) (fun _ => rfl) ?_
  refine .nil ?_
  refine Wp.one 14 (by kernel_rfl) ?_
  refine eqC (true) rfl (.t rfl rfl) Fx.eqt43 (.s rfl) (.s rfl) (fun hc => ent_conf (by decide) (by decide)) (fun hc => ent_conf (by decide) (by decide)) (fun hc => ⟨fun _ => rfl, fun _ => rfl⟩) ?_
  refine .nil ?_
  refine Wp.one 15 (by kernel_rfl) ?_
  refine pkA rfl .no (.u rfl) (.s rfl) ?_
  refine .nil ?_
  refine Wp.one 16 (by kernel_rfl) ?_
  refine mv rfl .no (.u rfl) ?_
  refine .nil ?_
  refine Wp.one 17 (by kernel_rfl) ?_
  refine mv rfl (.t rfl rfl) (.u rfl) ?_
  refine .nil ?_
  refine Wp.one 18 (by kernel_rfl) ?_
  refine nt rfl (.t rfl rfl) (.s rfl) ?_
  refine .nil ?_
  refine Wp.one 19 (by kernel_rfl) ?_
  refine pkA rfl .no (.u rfl) (.s rfl) ?_
  refine .nil ?_
  refine Wp.one 20 (by kernel_rfl) ?_
  refine mv rfl .no (.u rfl) ?_
  refine .nil ?_
  refine Wp.one 21 (by kernel_rfl) ?_
  refine mv rfl (.t rfl rfl) (.u rfl) ?_
  refine .nil ?_
  refine Wp.one 22 (by kernel_rfl) ?_
  refine nt rfl (.t rfl rfl) (.s rfl) ?_
  refine .nil ?_
  refine Wp.one 23 (by kernel_rfl) ?_
  refine pkA rfl .no (.u rfl) (.s rfl) ?_
  refine .nil ?_
  refine Wp.one 24 (by kernel_rfl) ?_
  refine mv rfl .no (.u rfl) ?_
  refine .nil ?_
  refine Wp.one 25 (by kernel_rfl) ?_
  refine mv rfl (.t rfl rfl) (.u rfl) ?_
  refine .nil ?_
  refine Wp.one 26 (by kernel_rfl) ?_
  refine cp rfl (.t rfl rfl) (.s rfl) (.u rfl) rfl ?_
  refine .nil ?_
  refine Wp.one 27 (by kernel_rfl) ?_
  refine pkA rfl .no (.u rfl) (.s rfl) ?_
  refine .nil ?_
  refine Wp.one 28 (by kernel_rfl) ?_
  refine mv rfl .no (.u rfl) ?_
  refine .nil ?_
  refine Wp.one 29 (by kernel_rfl) ?_
  refine mv rfl (.t rfl rfl) (.u rfl) ?_
  refine .nil ?_
  refine Wp.one 30 (by kernel_rfl) ?_
  refine cp rfl (.t rfl rfl) (.s rfl) (.u rfl) rfl ?_
  refine .nil ?_
  refine Wp.one 31 (by kernel_rfl) ?_
  refine pkA rfl .no (.u rfl) (.s rfl) ?_
  refine .nil ?_
  refine Wp.one 32 (by kernel_rfl) ?_
  refine mv rfl .no (.u rfl) ?_
  refine .nil ?_
  refine Wp.one 33 (by kernel_rfl) ?_
  refine mv rfl (.t rfl rfl) (.u rfl) ?_
  refine .nil ?_
  refine Wp.one 34 (by kernel_rfl) ?_
  refine cp rfl (.t rfl rfl) (.s rfl) (.u rfl) rfl ?_
  refine .nil ?_
  refine Wp.one 35 (by kernel_rfl) ?_
  refine pkA rfl .no (.u rfl) (.s rfl) ?_
  refine .nil ?_
  refine Wp.one 36 (by kernel_rfl) ?_
  refine asg rfl .no (.u rfl) ?_
  refine .nil ?_
  refine Wp.last (by kernel_rfl) ?_
  refine .code ?_
  refine .ret ?_
  refine We.fin0 Tryd.results6 (.tmp rfl .nil) ?_
  exact ⟨rfl, rfl⟩

end Go.Proofs.YtbdnclpopappeaaDoor

namespace Go.Proofs.YtbdnclpopappeaaDoor
set_option linter.unusedSimpArgs false
set_option linter.unusedVariables false
open Go.Tan Go.RowKit

namespace FxTbM
theorem go6 : goFn Tryd.prog 6 = true := by kernel_rfl
theorem go7 : goFn Tryd.prog 7 = true := by kernel_rfl
theorem fo30_0 : fOff Tryd.prog 30 0 = some 0 := by kernel_rfl
theorem fo30_1 : fOff Tryd.prog 30 1 = some 32 := by kernel_rfl
theorem fo30_2 : fOff Tryd.prog 30 2 = some 37 := by kernel_rfl
theorem ag28 : aggN Tryd.prog 28 = some (some 3) := by kernel_rfl
end FxTbM
namespace Fx
theorem eqt38 : eqT Tryd.prog 4 38 (metaKs) = true := by kernel_rfl
theorem go12 : goFn Tryd.prog 12 = true := by kernel_rfl
theorem go13 : goFn Tryd.prog 13 = true := by kernel_rfl
end Fx
set_option maxHeartbeats 2000000 in
theorem TableBack_ok (root : Nat → Y) (h : Hd) (l : List Ent) (hl : Sh) (blk every bits : Int) (G : PM) (hs : SlR G 4 Ent.cells hl l) (hK : RdNP G 0 0 (wa 64 kW)) : Ct Tryd.prog 4 ([.agg (ba 32 root ++ ofT h blk every bits).toArray, hl.val l.length] : List Value).toArray G [] (fun _ μ' u => μ' = [] ∧ u = .bool true) := by
  refine Ct.of Tryd.func4 rfl Tryd.ntmps4 rfl fun w0 hs0 => ?_
  refine .seq ?_
  refine Wk.rg [0, 1] rfl rfl ?_
  refine bx rfl (.u rfl) rfl ?_; intro b2
  refine asg rfl .no (.u rfl) ?_
  refine .nil ?_
  refine .code ?_
  refine .seq ?_
  refine Wk.rg [0, 1] rfl rfl ?_
  refine kv rfl .no FxTbM.go6 Eva.nil (fun _ => shown17_ok _ hK) ?_
  refine asg rfl .no (.u rfl) ?_
  refine .nil ?_
  refine .code ?_
  refine .seq ?_
  refine .seq ?_
  refine Wk.rg [0, 1, 2] rfl rfl ?_
  refine mv rfl .no (.u rfl) ?_
  refine kv rfl .no FxTbM.go7 (Eva.cons (.u rfl) Eva.nil) (fun _ => light17_ok hl l _ hs) ?_
  refine nt rfl .no (.u rfl) ?_
  refine .nil ?_
  refine .code ?_
  refine .cond rfl (fun c1 => ?_) (fun c1 => ?_)
  · have c1k := c1
    try simp only [decide_eq_true_eq, decide_eq_false_iff_not, Int.not_lt, Int.not_le, gt_iff_lt, ge_iff_le, Bool.or_eq_true, Bool.and_eq_true, Bool.or_eq_false_iff, Bool.and_eq_false_iff, Bool.not_eq_true', Bool.not_eq_false', Int.toNat_natCast, bne_iff_ne, beq_iff_eq, bne_eq_false_iff_eq, beq_eq_false_iff_ne, ne_eq] at c1
    refine .seq ?_
    refine Wk.rg [0, 1] rfl rfl ?_
    refine mv rfl .no (.u rfl) ?_
    refine asg rfl .no (.u rfl) ?_
    refine .nil ?_
    refine .code ?_
    refine .ret ?_
    refine We.fin0 Tryd.results4 (.tmp rfl .nil) ?_
    exact ⟨rfl, rfl⟩
  · have c1k := c1
    try simp only [decide_eq_true_eq, decide_eq_false_iff_not, Int.not_lt, Int.not_le, gt_iff_lt, ge_iff_le, Bool.or_eq_true, Bool.and_eq_true, Bool.or_eq_false_iff, Bool.and_eq_false_iff, Bool.not_eq_true', Bool.not_eq_false', Int.toNat_natCast, bne_iff_ne, beq_iff_eq, bne_eq_false_iff_eq, beq_eq_false_iff_ne, ne_eq] at c1
    refine .skip ?_
    refine .code ?_
    refine .seq ?_
    have hli : lightE l := B_iff.1 (by simpa using c1k)
    have hl1 := hli.1
    refine Wk.rg [0, 1, 2, 3, 4, 5, 6, 7, 8, 9, 10, 11, 12, 13, 14, 15] rfl rfl ?_
    refine fz rfl .no FxTbM.fo30_0 (.u rfl) ?_
    refine lA rfl .no Fx.ag23 (.u rfl) (fun _ => RdN.part (n := 32) (cs' := ba 32 root) .here (app_l)) (fun _ => (ba_len _ _)) ?_
    refine fz rfl .no FxTbM.fo30_1 (.u rfl) ?_
    refine lA rfl .no Fx.ag26 (.u rfl) (fun _ => RdN.part (n := 5) (cs' := [V h.kind, V h.level, uv .u64 h.gen, uv .u64 h.epoch, uv .u64 h.num]) .here (of_h)) (fun _ => rfl) ?_
    refine mv rfl .no (.u rfl) ?_
    refine fz rfl .no FxTbM.fo30_2 (.u rfl) ?_
    refine lA rfl .no FxTbM.ag28 (.u rfl) (fun _ => RdN.part (n := 3) (cs' := [.int .i64 blk, .int .i64 every, .int .i64 bits]) .here (of_s)) (fun _ => rfl) ?_
    refine kc rfl Fx.go8 (Eva.cons (.u rfl) (Eva.cons (.u rfl) (Eva.cons (.u rfl) (Eva.cons (.u rfl) Eva.nil)))) (tBuild_ok root h l hl blk every bits _ hs hli hK) ?_
    rintro _ G24 μ24 hG24 ⟨h24, L24, m24, er24, hB24, rfl, rfl, hs24⟩
    have hs := hs.mono hG24
    have hK := hK.mono hG24
    refine mv rfl .no (.u rfl) ?_
    refine ex rfl .no (.u rfl) rfl ?_
    refine ex rfl .no (.u rfl) rfl ?_
    refine ex rfl .no (.u rfl) rfl ?_
    refine al rfl Fx.zq38 ?_; intro b7
    refine asg rfl .no (.u rfl) ?_
    refine sw rfl (.u rfl) (.u rfl) rfl Fx.sz38 .here rfl (Meta.one _) ?_
    refine asg rfl .no (.u rfl) ?_
    refine .nil ?_
    refine .code ?_
    refine .seq ?_
    refine .seq ?_
    refine Wk.rg [0, 1] rfl rfl ?_
    refine mv rfl .no (.u rfl) ?_
    refine cp rfl .no (.u rfl) (.u rfl) rfl ?_
    refine .nil ?_
    refine .code ?_
    refine .cond rfl (fun c2 => ?_) (fun c2 => ?_)
    · have c2k := c2
      try simp only [decide_eq_true_eq, decide_eq_false_iff_not, Int.not_lt, Int.not_le, gt_iff_lt, ge_iff_le, Bool.or_eq_true, Bool.and_eq_true, Bool.or_eq_false_iff, Bool.and_eq_false_iff, Bool.not_eq_true', Bool.not_eq_false', Int.toNat_natCast, bne_iff_ne, beq_iff_eq, bne_eq_false_iff_eq, beq_eq_false_iff_ne, ne_eq] at c2
      refine .seq ?_
      obtain ⟨eL0, eM0⟩ := tb_err hB24 (by simpa using c2k)
      refine Wk.rg [0, 1, 2, 3, 4, 5, 6, 7, 8, 9, 10, 11] rfl rfl ?_
      refine mv rfl .no (.u rfl) ?_
      refine mv rfl .no (.u rfl) ?_
      refine mv rfl (.t rfl rfl) (.u rfl) ?_
      refine ln rfl (.t rfl rfl) Fx.sn36 (.u rfl) ?_
      refine cp rfl (.t rfl rfl) (.u rfl) (.u rfl) rfl ?_
      refine wo_b true (by rw [eL0]; rfl) ?_
      refine pkA rfl .no (.u rfl) (.u rfl) ?_
      refine mv rfl .no (.u rfl) ?_
      refine lA rfl (.t rfl rfl) Fx.ag38 (.u rfl) (fun _ => RdN.own .here) (fun _ => (by first | exact of_len | exact Meta.len _ | exact Ent.len _ | exact ba_len _ _ | rfl)) ?_
      refine bCe (Meta.zero.cells) rfl (.t rfl rfl) Fx.bp38_ .nil rfl (rfl) ?_
      refine eqC (true) rfl (.t rfl rfl) Fx.eqt38 (.u rfl) (.u rfl) (fun _ => by rw [eM0]; exact meta_conf meta0_wf) (fun _ => meta_conf meta0_wf) (fun _ => ⟨fun _ => by rw [eM0], fun _ => rfl⟩) ?_
      refine pkA rfl .no (.u rfl) (.u rfl) ?_
      refine asg rfl .no (.u rfl) ?_
      refine .nil ?_
      refine .code ?_
      refine .ret ?_
      refine We.fin0 Tryd.results4 (.tmp rfl .nil) ?_
      exact ⟨rfl, rfl⟩
    · have c2k := c2
      try simp only [decide_eq_true_eq, decide_eq_false_iff_not, Int.not_lt, Int.not_le, gt_iff_lt, ge_iff_le, Bool.or_eq_true, Bool.and_eq_true, Bool.or_eq_false_iff, Bool.and_eq_false_iff, Bool.not_eq_true', Bool.not_eq_false', Int.toNat_natCast, bne_iff_ne, beq_iff_eq, bne_eq_false_iff_eq, beq_eq_false_iff_ne, ne_eq] at c2
      refine .skip ?_
      refine .code ?_
      refine .seq ?_
      obtain ⟨hw24, hl24, hT24, hz24, hc24⟩ := tb_all2 hB24 hli (by simpa using c2k)
      refine Wk.rg [0, 1, 2, 3, 4, 5, 6, 7, 8, 9] rfl rfl ?_
      refine fz rfl .no FxTbM.fo30_0 (.u rfl) ?_
      refine lA rfl .no Fx.ag23 (.u rfl) (fun _ => RdN.part (n := 32) (cs' := ba 32 root) (.there .here) (app_l)) (fun _ => (ba_len _ _)) ?_
      refine lA rfl .no Fx.ag38 (.u rfl) (fun _ => RdN.part (n := 40) (cs' := m24.cells) .here (rfl)) (fun _ => (Meta.len _)) ?_
      refine mv rfl .no (.u rfl) ?_
      refine kc rfl Fx.go12 (Eva.cons (.u rfl) (Eva.cons (.u rfl) (Eva.cons (.u rfl) Eva.nil))) (tAll_ok root m24 L24 h24 l _ hw24 hs24 hK (by omega) hT24) ?_
      rintro _ G46 μ46 hG46 ⟨h46, rfl, rfl, hs46⟩
      have hs := hs.mono hG46
      have hK := hK.mono hG46
      have hs24 := hs24.mono hG46
      refine mv rfl .no (.u rfl) ?_
      refine ex rfl .no (.u rfl) rfl ?_
      refine ex rfl .no (.u rfl) rfl ?_
      refine asg rfl .no (.u rfl) ?_
      refine asg rfl .no (.u rfl) ?_
      refine .nil ?_
      refine .code ?_
      refine .seq ?_
      refine Wk.rg [0, 1, 2, 3, 4, 5, 6, 7, 8, 9, 10, 11, 12, 13, 14, 15, 16, 17, 18, 19, 20, 21, 22, 23, 24] rfl rfl ?_
      refine mv rfl .no (.u rfl) ?_
      refine mv rfl .no (.u rfl) ?_
      refine mv rfl (.t rfl rfl) (.u rfl) ?_
      refine cp rfl (.t rfl rfl) (.u rfl) (.u rfl) rfl ?_
      refine wo_b true (rfl) ?_
      refine pkA rfl .no (.u rfl) (.u rfl) ?_
      refine mv rfl .no (.u rfl) ?_
      refine mv rfl (.t rfl rfl) (.u rfl) ?_
      refine mv rfl (.t rfl rfl) (.u rfl) ?_
      refine kv rfl (.t rfl rfl) Fx.go13 (Eva.cons (.u rfl) (Eva.cons (.u rfl) Eva.nil)) (fun _ => same08_ok hl h46 l l _ hs hs46 (by omega) (sz_of hli) (sz_of hli)) ?_
      refine wo_b true (B_true rfl) ?_
      refine pkA rfl .no (.u rfl) (.u rfl) ?_
      refine mv rfl .no (.u rfl) ?_
      refine fz rfl (.t rfl rfl) Fx.fo38_5 (.u rfl) ?_
      refine ld rfl (.t rfl rfl) Fx.ag3 (.u rfl) (fun _ => Rd.own .here (by first | exact wap_f rfl | rfl)) ?_
      refine mv rfl (.t rfl rfl) (.u rfl) ?_
      refine ln rfl (.t rfl rfl) Fx.sn31 (.u rfl) ?_
      refine cp rfl (.t rfl rfl) (.u rfl) (.u rfl) rfl ?_
      refine wo_b true (by rw [hc24]; exact beq_self_eq_true _) ?_
      refine pkA rfl .no (.u rfl) (.u rfl) ?_
      refine mv rfl .no (.u rfl) ?_
      refine fz rfl (.t rfl rfl) Fx.fo38_4 (.u rfl) ?_
      refine ld rfl (.t rfl rfl) Fx.ag3 (.u rfl) (fun _ => Rd.own .here (by first | exact wap_f rfl | rfl)) ?_
      refine mv rfl (.t rfl rfl) (.u rfl) ?_
      refine ln rfl (.t rfl rfl) Fx.sn36 (.u rfl) ?_
      refine cp rfl (.t rfl rfl) (.u rfl) (.u rfl) rfl ?_
      refine wo_b true (by rw [hz24]; exact beq_self_eq_true _) ?_
      refine pkA rfl .no (.u rfl) (.u rfl) ?_
      refine asg rfl .no (.u rfl) ?_
      refine .nil ?_
      refine .code ?_
      refine .ret ?_
      refine We.fin0 Tryd.results4 (.tmp rfl .nil) ?_
      exact ⟨rfl, rfl⟩

end Go.Proofs.YtbdnclpopappeaaDoor
