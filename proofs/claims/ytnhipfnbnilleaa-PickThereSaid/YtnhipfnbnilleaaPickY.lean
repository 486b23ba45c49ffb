/- The arguments of the laws as plain data: whatever is handed in reads so. No condition. -/
import Derived.Test.YtnhipfnbnilleaaPickH
import Derived.Test.YtnhipfnbnilleaaTanF
namespace Go.Proofs.Ytnhipfnbnilleaa
open Go.Tan Go.RowKit

section
variable {H : Type} {enc : TypeId × Value → H} {W : World} {cs : List Value}
theorem opts_of (h : Rg enc Try.prog W 25 cs) : ∃ o : Opts, cs = o.cells := by
  have hl := h.len Try.underlying25
  rw [Fx.co25] at hl
  obtain ⟨n0, h0, _⟩ := h.intAt Try.underlying25 0 3 0 rfl Try.underlying3 Fx.co3
  obtain ⟨n1, h1, _⟩ := h.intAt Try.underlying25 1 3 1 rfl Try.underlying3 Fx.co3
  obtain ⟨n2, h2, _⟩ := h.intAt Try.underlying25 2 3 2 rfl Try.underlying3 Fx.co3
  obtain ⟨n3, h3, _⟩ := h.intAt Try.underlying25 3 3 3 rfl Try.underlying3 Fx.co3
  have hs := h.fld Try.underlying25 4 23 4 rfl Fx.co23
  obtain ⟨n4, h4, _⟩ := hs.intAt Try.underlying23 0 3 0 rfl Try.underlying3 Fx.co3
  obtain ⟨n5, h5, _⟩ := hs.intAt Try.underlying23 1 3 1 rfl Try.underlying3 Fx.co3
  obtain ⟨n6, h6, _⟩ := hs.intAt Try.underlying23 2 3 2 rfl Try.underlying3 Fx.co3
  refine ⟨⟨n0, n1, n2, n3, n4, n5, n6⟩, list_eq hl fun i hi => ?_⟩
  match i, hi with
  | 0, _ => exact h0
  | 1, _ => exact h1
  | 2, _ => exact h2
  | 3, _ => exact h3
  | 4, _ => exact take_at h4
  | 5, _ => exact take_at h5
  | 6, _ => exact take_at h6
  | n + 7, hi => exact absurd hi (by show ¬ n + 7 < 7; omega)
theorem meta_of (h : Rg enc Try.prog W 49 cs) : ∃ m : Meta, cs = m.cells ∧ m.wf := by
  have hl := h.len Try.underlying49
  rw [Fx.co49] at hl
  obtain ⟨n0, h0, w0⟩ := h.intAt Try.underlying49 0 5 0 rfl Try.underlying5 Fx.co5
  obtain ⟨n1, h1, w1⟩ := h.intAt Try.underlying49 1 32 1 rfl Try.underlying32 Fx.co32
  obtain ⟨n2, h2, w2⟩ := h.intAt Try.underlying49 2 32 2 rfl Try.underlying32 Fx.co32
  obtain ⟨n3, h3, w3⟩ := h.intAt Try.underlying49 3 32 3 rfl Try.underlying32 Fx.co32
  obtain ⟨n4, h4, w4⟩ := h.intAt Try.underlying49 4 3 4 rfl Try.underlying3 Fx.co3
  obtain ⟨n5, h5, w5⟩ := h.intAt Try.underlying49 5 3 5 rfl Try.underlying3 Fx.co3
  obtain ⟨s6, h6, w6⟩ := h.strAt Try.underlying49 6 9 6 rfl Try.underlying9 Fx.co9
  obtain ⟨s7, h7, w7⟩ := h.strAt Try.underlying49 7 9 7 rfl Try.underlying9 Fx.co9
  obtain ⟨r, hr⟩ := (h.fld Try.underlying49 8 47 8 rfl Fx.co47).ints Try.underlying47 Try.underlying5 Fx.co5
  refine ⟨⟨n0, n1, n2, n3, n4, n5, s6, s7, r⟩, list_eq hl fun i hi => ?_, ⟨?_, ?_, ?_, ?_, ?_, ?_, ?_, ?_, fun j hj => ?_⟩⟩
  · match i, hi with
    | 0, _ => exact h0
    | 1, _ => exact h1
    | 2, _ => exact h2
    | 3, _ => exact h3
    | 4, _ => exact h4
    | 5, _ => exact h5
    | 6, _ => exact h6
    | 7, _ => exact h7
    | n + 8, hi =>
      have hn : n < 32 := by have : n + 8 < 40 := hi; omega
      rw [show n + 8 = 8 + n by omega, take_at (hr n hn).1]
      rw [Meta.cells, List.getElem?_append_right (by simp)]
      simp [hn]
  · rw [show IntKind.u8.min = 0 by decide, show IntKind.u8.max = 255 by decide] at w0; exact ⟨w0.1, Int.lt_of_le_of_lt w0.2 (by decide)⟩
  · rw [show IntKind.u64.min = 0 by decide, show IntKind.u64.max = 18446744073709551615 by decide] at w3; exact ⟨w3.1, Int.lt_of_le_of_lt w3.2 (by decide)⟩
  · rw [show IntKind.i64.min = -9223372036854775808 by decide, show IntKind.i64.max = 9223372036854775807 by decide] at w4; exact w4
  · exact Nat.le_trans w6 (by decide)
  · exact Nat.le_trans w7 (by decide)
  · rw [show IntKind.u64.min = 0 by decide, show IntKind.u64.max = 18446744073709551615 by decide] at w1; exact w1
  · rw [show IntKind.u64.min = 0 by decide, show IntKind.u64.max = 18446744073709551615 by decide] at w2; exact w2
  · rw [show IntKind.i64.min = -9223372036854775808 by decide, show IntKind.i64.max = 9223372036854775807 by decide] at w5; exact w5
  · have w8 := (hr j hj).2; rw [show IntKind.u8.min = 0 by decide, show IntKind.u8.max = 255 by decide] at w8; exact w8
theorem state_of (h : Rg enc Try.prog W 35 cs) : ∃ (s : State) (hd : Nat → Sh), cs = s.cells hd ∧ StR (fun b => W.heap[b]?) s hd := by
  have hl := h.len Try.underlying35
  rw [Fx.co35] at hl
  obtain ⟨n1, h1, _⟩ := h.intAt Try.underlying35 1 32 5 rfl Try.underlying32 Fx.co32
  obtain ⟨n2, h2, _⟩ := h.intAt Try.underlying35 2 32 6 rfl Try.underlying32 Fx.co32
  obtain ⟨n3, h3, _⟩ := h.intAt Try.underlying35 3 32 7 rfl Try.underlying32 Fx.co32
  obtain ⟨n4, h4, _⟩ := h.intAt Try.underlying35 4 32 8 rfl Try.underlying32 Fx.co32
  obtain ⟨r, hr⟩ := (h.fld Try.underlying35 5 33 9 rfl Fx.co33).ints Try.underlying33 Try.underlying32 Fx.co32
  have hlv : ∀ i, ∃ (y : Sh × List Meta), i < 5 → cs[i]? = some (y.1.val y.2.length) ∧ SlR (fun b => W.heap[b]?) 40 Meta.cells y.1 y.2 ∧ y.2.length * 112 ≤ 140737488351232 ∧ ∀ m ∈ y.2, m.wf := by
    intro i
    by_cases hi : i < 5
    · obtain ⟨hd, l, e, hs, hc, hq⟩ := ((h.fld Try.underlying35 0 31 0 rfl Fx.co31).elm Try.underlying31 hi Fx.co30).sl Meta.cells Meta.wf Try.underlying30 Fx.co49 (by decide) Fx.by49 (fun cs' h' => meta_of h')
      have := take_at (take1 e)
      refine ⟨(hd, l), fun _ => ⟨by simpa using this, hs, Nat.le_trans (Nat.mul_le_mul_right _ hs.le) hc, hq⟩⟩
    · exact ⟨(⟨none, 0⟩, []), fun h => absurd h hi⟩
  obtain ⟨M, hM⟩ : ∃ M : Nat → Sh × List Meta, ∀ i, i < 5 → cs[i]? = some ((M i).1.val (M i).2.length) ∧ SlR (fun b => W.heap[b]?) 40 Meta.cells (M i).1 (M i).2 ∧ (M i).2.length * 112 ≤ 140737488351232 ∧ ∀ m ∈ (M i).2, m.wf := ⟨fun i => Classical.choose (hlv i), fun i => Classical.choose_spec (hlv i)⟩
  refine ⟨⟨fun i => (M i).2, n1, n2, n3, n4, r⟩, fun i => (M i).1, list_eq hl fun i hi => ?_, ⟨fun i hi => (hM i hi).2.1, fun i hi => (hM i hi).2.2.1, fun i hi => (hM i hi).2.2.2⟩⟩
  match i, hi with
  | 0, _ => exact (hM 0 (by decide)).1
  | 1, _ => exact (hM 1 (by decide)).1
  | 2, _ => exact (hM 2 (by decide)).1
  | 3, _ => exact (hM 3 (by decide)).1
  | 4, _ => exact (hM 4 (by decide)).1
  | 5, _ => exact h1
  | 6, _ => exact h2
  | 7, _ => exact h3
  | 8, _ => exact h4
  | 9, _ => exact take_at (hr 0 (by decide)).1
  | 10, _ => exact take_at (hr 1 (by decide)).1
  | 11, _ => exact take_at (hr 2 (by decide)).1
  | 12, _ => exact take_at (hr 3 (by decide)).1
  | 13, _ => exact take_at (hr 4 (by decide)).1
  | n + 14, hi => exact absurd hi (by show ¬ n + 14 < 14; omega)
theorem agg_of {t : TypeId} {fs : Array Field} {base : Nat} {v : Value} (ht : Try.prog.underlying t = some (.struct fs)) (h : Value.okWide Try.prog W .any base t v) {l : List Value} (hl : v.cells.toList = l) : v = .agg l.toArray := by
  unfold Value.okWide at h
  rw [ht] at h
  obtain ⟨c, rfl, _⟩ := h
  rw [← hl]; rfl
theorem int_of {t : TypeId} {k : IntKind} {base : Nat} {v : Value} (ht : Try.prog.underlying t = some (.int k)) (h : Value.okWide Try.prog W .any base t v) : ∃ n, v = .int k n ∧ k.min ≤ n ∧ n ≤ k.max := by
  unfold Value.okWide at h
  rw [ht] at h
  simp only [Cell.okWide, ht] at h
  cases v <;> simp [Cell.ok, ht] at h
  obtain ⟨rfl, h1⟩ := h
  exact ⟨_, rfl, by simpa [IntKind.has] using h1⟩
end
theorem tanOwn : ownKnob Try.prog.godebug = none := by kernel_rfl
theorem tanLaid : laidOutB Try.prog = true := by kernel_rfl
end Go.Proofs.Ytnhipfnbnilleaa
