/- Heads of files, opened. No condition. -/
import Derived.Test.YtoogjfldgeiapaaDoorCardY
import Derived.Test.YtoogjfldgeiapaaDoorWalA
namespace Go.Proofs.YtoogjfldgeiapaaDoor
set_option linter.unusedSimpArgs false
set_option linter.unusedVariables false
open Go.Tan Go.RowKit
set_option maxRecDepth 100000
namespace FxCardW
theorem by27 : Tryd.prog.bytesOf 27 = 24 := by kernel_rfl
end FxCardW
namespace Fx
theorem co45 : Tryd.prog.cellsOf 45 = 5 := by kernel_rfl
theorem co43 : Tryd.prog.cellsOf 43 = 1 := by kernel_rfl
theorem co47 : Tryd.prog.cellsOf 47 = 37 := by kernel_rfl
theorem co42 : Tryd.prog.cellsOf 42 = 32 := by kernel_rfl
end Fx
section
variable {H : Type} {R : Nat} {enc : TypeId × Value → H} {W : World} {cs : List Value}
theorem split5 (hl : cs.length = 5) {a b c d e : Value} (h0 : (cs.drop 0).take 1 = [a]) (h1 : (cs.drop 1).take 1 = [b]) (h2 : (cs.drop 2).take 1 = [c]) (h3 : (cs.drop 3).take 1 = [d]) (h4 : (cs.drop 4).take 1 = [e]) : cs = [a, b, c, d, e] := by
  match cs, hl with
  | [p, q, r, s, t], _ => simp at h0 h1 h2 h3 h4; rw [h0, h1, h2, h3, h4]
theorem head_of (h : Rg R enc Tryd.prog W 45 cs) : ∃ hd : Hd, cs = [V hd.kind, V hd.level, uv .u64 hd.gen, uv .u64 hd.epoch, uv .u64 hd.num] := by
  have hl := h.len Tryd.underlying45
  rw [Fx.co45] at hl
  obtain ⟨a, ha⟩ := (h.fld Tryd.underlying45 0 5 0 rfl Fx.co5).uw rfl Tryd.underlying5
  obtain ⟨b, hb⟩ := (h.fld Tryd.underlying45 1 5 1 rfl Fx.co5).uw rfl Tryd.underlying5
  obtain ⟨c, hc⟩ := (h.fld Tryd.underlying45 2 43 2 rfl Fx.co43).uw rfl Tryd.underlying43
  obtain ⟨d, hd⟩ := (h.fld Tryd.underlying45 3 43 3 rfl Fx.co43).uw rfl Tryd.underlying43
  obtain ⟨e, he⟩ := (h.fld Tryd.underlying45 4 43 4 rfl Fx.co43).uw rfl Tryd.underlying43
  exact ⟨⟨a, b, c, d, e⟩, split5 hl ha hb hc hd he⟩
theorem of_of (h : Rg R enc Tryd.prog W 47 cs) : ∃ (root : Nat → Y) (hd : Hd), cs = ba 32 root ++ [V hd.kind, V hd.level, uv .u64 hd.gen, uv .u64 hd.epoch, uv .u64 hd.num] := by
  have hl := h.len Tryd.underlying47
  rw [Fx.co47] at hl
  obtain ⟨r, hr⟩ := (h.fld Tryd.underlying47 0 42 0 rfl Fx.co42).ba Tryd.underlying42 Tryd.underlying5 Fx.co5 Fx.co42
  obtain ⟨hd, hh⟩ := head_of (h.fld Tryd.underlying47 1 45 32 rfl Fx.co45)
  exact ⟨r, hd, by rw [split2 (cs := cs) (a := 32) (b := 5) hl, hr, hh]⟩
theorem slp_of (h : Rg R enc Tryd.prog W 50 cs) : ∃ (hd : Sh) (ps : List (Sh × List Y)), cs = [hd.val ps.length] ∧ SlP (fun b => W.heap[b]?) hd ps ∧ ps.length * 24 ≤ R := by
  obtain ⟨hd, l, h1, h2, h3, h4⟩ := h.sl encP (fun p => SlR (fun b => W.heap[b]?) 1 encY p.1 p.2) Tryd.underlying50 Fx.co27 (by decide) FxCardW.by27 (fun cs' h' => by
    obtain ⟨hx, l, e1, e2, _⟩ := (h').bsl Tryd.underlying27 Tryd.underlying5 Fx.co5 Fx.by5
    exact ⟨(hx, l), e1, e2⟩)
  exact ⟨hd, l, h1, ⟨h2, h4⟩, Nat.le_trans (Nat.mul_le_mul_right _ h2.le) h3⟩
theorem int_of {t : TypeId} {k : IntKind} {base : Nat} {v u : Value} (ht : Tryd.prog.underlying t = some (.int k)) (h : Value.okWide Tryd.prog W .any base t v) (hl : v.cells.toList = [u]) (hu : u.oneCell' = true) : v = u := by
  refine one_of hl hu fun c hc => ?_
  subst hc
  unfold Value.okWide at h
  rw [ht] at h
  simp [Cell.okWide, ht, Cell.ok] at h
end
end Go.Proofs.YtoogjfldgeiapaaDoor
