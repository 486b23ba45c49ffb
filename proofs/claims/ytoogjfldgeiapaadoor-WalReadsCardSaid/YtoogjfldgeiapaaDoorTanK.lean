/- Arguments opened: words, arrays of bytes, slices of bytes; tables that are laid. No condition. -/
import Derived.Test.YtoogjfldgeiapaaDoorTanJ
import Derived.Test.YtoogjfldgeiapaaDoorTanF
import Derived.Lib.LaidTab
namespace Go.Tan
open Go.RowKit
variable {H : Type} {R : Nat} {enc : TypeId × Value → H} {P : Program} {w : World} {t : TypeId} {cs : List Value}
theorem min_u {k : IntKind} (hk : k.signed = false) : k.min = 0 := by cases k <;> first | rfl | cases hk
theorem max_u {k : IntKind} (hk : k.signed = false) : k.max = 2 ^ k.bits - 1 := by cases k <;> first | rfl | cases hk
theorem Rg.uw {k : IntKind} (hk : k.signed = false) (ht : P.underlying t = some (.int k)) (h : Rg R enc P w t cs) : ∃ x : BitVec k.bits, cs = [uv k x] := by
  obtain ⟨n, rfl, h1, h2⟩ := h.int ht
  rw [min_u hk] at h1
  rw [max_u hk] at h2
  refine ⟨BitVec.ofNat k.bits n.toNat, ?_⟩
  unfold uv
  have hlt : n.toNat < 2 ^ k.bits := by
    have : ((2 : Int) ^ k.bits) = ((2 ^ k.bits : Nat) : Int) := by simp
    omega
  rw [BitVec.toNat_ofNat, Nat.mod_eq_of_lt hlt, Int.toNat_of_nonneg h1]
theorem Rg.alen {n : Nat} {e : TypeId} (ht : P.underlying t = some (.array n e)) (h : Rg R enc P w t cs) : cs.length = P.cellsOf t := by
  obtain ⟨fuel, x, h, _⟩ := h
  obtain ⟨xs, m, _, _, hl, _⟩ := trod_array ht h
  exact hl
theorem at_take {cs : List Value} {o : Nat} {v : Value} (h : (cs.drop o).take 1 = [v]) : cs[o]? = some v := by
  have := congrArg (·[0]?) h
  simpa [List.getElem?_take, List.getElem?_drop] using this
theorem Rg.ba {n : Nat} {e : TypeId} (ht : P.underlying t = some (.array n e)) (h : Rg R enc P w t cs) (he : P.underlying e = some (.int .u8)) (hce : P.cellsOf e = 1) (hct : P.cellsOf t = n) : ∃ f : Nat → Y, cs = ba n f := by
  have hl := h.alen ht
  have hx : ∀ j, ∃ y : Y, j < n → cs[j]? = some (V y) := by
    intro j
    by_cases hj : j < n
    · obtain ⟨x, hx⟩ := (h.elm ht hj hce).uw rfl he
      exact ⟨x, fun _ => at_take (by simpa using hx)⟩
    · exact ⟨0, fun h => absurd h hj⟩
  refine ⟨fun j => Classical.choose (hx j), List.ext_getElem? fun j => ?_⟩
  by_cases hj : j < n
  · rw [ba_at hj]; exact Classical.choose_spec (hx j) hj
  · rw [List.getElem?_eq_none (by omega), List.getElem?_eq_none (by rw [ba_len]; omega)]
theorem Rg.bsl {e : TypeId} (ht : P.underlying t = some (.slice e)) (h : Rg R enc P w t cs) (he : P.underlying e = some (.int .u8)) (hce : P.cellsOf e = 1) (hby : P.bytesOf e = 1) :
    ∃ (hd : Sh) (l : List Y), cs = [hd.val l.length] ∧ SlR (fun b => w.heap[b]?) 1 encY hd l ∧ hd.cap ≤ R ∧ l.length ≤ R := by
  obtain ⟨hd, l, h1, h2, h3, _⟩ := h.sl encY (fun _ => True) ht hce (by decide) hby (fun cs' h' => by obtain ⟨x, hx⟩ := h'.uw rfl he; exact ⟨x, hx, trivial⟩)
  exact ⟨hd, l, h1, h2, by omega, by have := h2.le; omega⟩
theorem split2 {cs : List Value} {a b : Nat} (h : cs.length = a + b) : cs = (cs.drop 0).take a ++ (cs.drop a).take b := by
  rw [List.drop_zero, List.take_of_length_le (l := cs.drop a) (by simp; omega), List.take_append_drop]
theorem split3 {cs : List Value} {a b c : Nat} (h : cs.length = a + b + c) : cs = (cs.drop 0).take a ++ ((cs.drop a).take b ++ (cs.drop (a + b)).take c) := by
  have h1 := split2 (cs := cs) (a := a) (b := b + c) (by omega)
  have h2 : (cs.drop a).take (b + c) = (cs.drop a).take b ++ (cs.drop (a + b)).take c := by
    rw [List.take_add, List.drop_drop]
  rw [← h2]; exact h1
/-! ### Tables -/
theorem tab_rd {w : World} {name : String} {zs : List Int} {g m : Nat} {y : Nat → W} (h : Lib.TabIs P w name .u32 zs) (hg : P.globalNamed name = some g) (hz : zs.length = m) (hy : ∀ j, j < m → zs.getD j 0 = ((y j).toNat : Int)) : RdNP (fun b => w.heap[b]?) g 0 (wa m y) := by
  intro j v hj
  have hlt : j < m := by have := (List.getElem?_eq_some_iff.1 hj).1; rwa [wa_len] at this
  rw [wa_at hlt] at hj
  obtain rfl := Option.some.inj hj
  have h1 := h.cell hg j (by omega)
  rw [hy j hlt] at h1
  rw [Nat.zero_add]
  exact RdP.heap h1
theorem laid_tail {x : String × DataW Unit} {rest : List (String × DataW Unit)} {W : World} (h : laidMet P (x :: rest) W) : laidMet P rest W := by
  obtain ⟨ps, ⟨g', t', cs, fuel, p, q, hg', ht', hvar, hd, hr, he⟩, hn, hb⟩ := h
  subst he
  exact ⟨q, hr, (List.nodup_append.1 hn).2.1, fun b off hm => hb b off (List.mem_append_right _ hm)⟩
end Go.Tan
