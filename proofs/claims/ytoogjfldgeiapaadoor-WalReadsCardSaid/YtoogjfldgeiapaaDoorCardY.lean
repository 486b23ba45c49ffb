/- The arguments opened, the tables that are laid. No condition. -/
import Derived.Test.YtoogjfldgeiapaaDoorSealW
import Derived.Test.YtoogjfldgeiapaaDoorTanK
import Derived.Test.YtoogjfldgeiapaaDoorCards
import Derived.Test.YtoogjfldgeiapaaDoorTie
import Derived.WalkKit
import Derived.ProofKit
import Derived.OpenShut
import Derived.Deep.DeepHandedRow
import Derived.Deep.CondSized
namespace Go.Proofs.YtoogjfldgeiapaaDoor
set_option linter.unusedSimpArgs false
set_option linter.unusedVariables false
open Go.Tan Go.RowKit
set_option maxRecDepth 100000
namespace Fx
theorem co24 : Tryd.prog.cellsOf 24 = 64 := by kernel_rfl
theorem co22 : Tryd.prog.cellsOf 22 = 32 := by kernel_rfl
theorem co5 : Tryd.prog.cellsOf 5 = 1 := by kernel_rfl
theorem co29 : Tryd.prog.cellsOf 29 = 77 := by kernel_rfl
theorem co26 : Tryd.prog.cellsOf 26 = 12 := by kernel_rfl
theorem co27 : Tryd.prog.cellsOf 27 = 1 := by kernel_rfl
theorem by5 : Tryd.prog.bytesOf 5 = 1 := by kernel_rfl
theorem co69 : Tryd.prog.cellsOf 69 = 1 := by kernel_rfl
theorem co127 : Tryd.prog.cellsOf 127 = 64 := by kernel_rfl
end Fx
section
variable {H : Type} {R : Nat} {enc : TypeId × Value → H} {W : World} {cs : List Value}
theorem key_of (h : Rg R enc Tryd.prog W 24 cs) : ∃ (e m : Nat → Y), cs = ba 32 e ++ ba 32 m := by
  have hl := h.len Tryd.underlying24
  rw [Fx.co24] at hl
  obtain ⟨e, he⟩ := (h.fld Tryd.underlying24 0 22 0 rfl Fx.co22).ba Tryd.underlying22 Tryd.underlying5 Fx.co5 Fx.co22
  obtain ⟨m, hm⟩ := (h.fld Tryd.underlying24 1 22 32 rfl Fx.co22).ba Tryd.underlying22 Tryd.underlying5 Fx.co5 Fx.co22
  exact ⟨e, m, by rw [split2 (cs := cs) (a := 32) (b := 32) hl, he, hm]⟩
theorem with_of (h : Rg R enc Tryd.prog W 29 cs) : ∃ (e m n : Nat → Y) (ha : Sh) (ad : List Y), cs = withC e m n (ha.val ad.length) ∧ SlR (fun b => W.heap[b]?) 1 encY ha ad ∧ ad.length ≤ R := by
  have hl := h.len Tryd.underlying29
  rw [Fx.co29] at hl
  obtain ⟨e, m, hk⟩ := key_of (h.fld Tryd.underlying29 0 24 0 rfl Fx.co24)
  obtain ⟨n, hn⟩ := (h.fld Tryd.underlying29 1 26 64 rfl Fx.co26).ba Tryd.underlying26 Tryd.underlying5 Fx.co5 Fx.co26
  obtain ⟨ha, ad, h1, h2, h3, h4⟩ := (h.fld Tryd.underlying29 2 27 76 rfl Fx.co27).bsl Tryd.underlying27 Tryd.underlying5 Fx.co5 Fx.by5
  exact ⟨e, m, n, ha, ad, by rw [split3 (cs := cs) (a := 64) (b := 12) (c := 1) hl, hk, hn, h1]; rfl, h2, h4⟩
theorem agg_of {t : TypeId} {fs : Array Field} {base : Nat} {v : Value} (ht : Tryd.prog.underlying t = some (.struct fs)) (h : Value.okWide Tryd.prog W .any base t v) {l : List Value} (hl : v.cells.toList = l) : v = .agg l.toArray := by
  unfold Value.okWide at h
  rw [ht] at h
  obtain ⟨c, rfl, _⟩ := h
  rw [← hl]; rfl
theorem arr_of {t n e : Nat} {base : Nat} {v : Value} (ht : Tryd.prog.underlying t = some (.array n e)) (h : Value.okWide Tryd.prog W .any base t v) {l : List Value} (hl : v.cells.toList = l) : v = .agg l.toArray := by
  unfold Value.okWide at h
  rw [ht] at h
  obtain ⟨c, rfl, _⟩ := h
  rw [← hl]; rfl
theorem one_of {v u : Value} (h : v.cells.toList = [u]) (hu : u.oneCell' = true) (hn : ∀ c, v ≠ .agg c) : v = u := by
  cases v <;> first | (exact absurd rfl (hn _)) | (simp [Value.cells] at h; exact h)
theorem sl_of {t e : TypeId} {base : Nat} {v u : Value} (ht : Tryd.prog.underlying t = some (.slice e)) (h : Value.okWide Tryd.prog W .any base t v) (hl : v.cells.toList = [u]) (hu : u.oneCell' = true) : v = u := by
  refine one_of hl hu fun c hc => ?_
  subst hc
  unfold Value.okWide at h
  rw [ht] at h
  simp [Cell.okWide, ht, Cell.ok] at h
end
theorem tanOwn : ownKnob Tryd.prog.godebug = none := by kernel_rfl
theorem tanLaid : laidOutB Tryd.prog = true := by kernel_rfl
theorem gC : Tryd.prog.globalNamed "tantalus/sha.constants" = some 1 := by kernel_rfl
theorem gCT : (Tryd.prog.globals[1]?).map (·.type) = some 127 := by kernel_rfl
theorem gR : Tryd.prog.globalNamed "tantalus/tantalusref03.K" = some 0 := by kernel_rfl
theorem gRT : (Tryd.prog.globals[0]?).map (·.type) = some 127 := by kernel_rfl
def kInts : List Int := [1116352408, 1899447441, 3049323471, 3921009573, 961987163, 1508970993, 2453635748, 2870763221, 3624381080, 310598401, 607225278, 1426881987, 1925078388, 2162078206, 2614888103, 3248222580, 3835390401, 4022224774, 264347078, 604807628, 770255983, 1249150122, 1555081692, 1996064986, 2554220882, 2821834349, 2952996808, 3210313671, 3336571891, 3584528711, 113926993, 338241895, 666307205, 773529912, 1294757372, 1396182291, 1695183700, 1986661051, 2177026350, 2456956037, 2730485921, 2820302411, 3259730800, 3345764771, 3516065817, 3600352804, 4094571909, 275423344, 430227734, 506948616, 659060556, 883997877, 958139571, 1322822218, 1537002063, 1747873779, 1955562222, 2024104815, 2227730452, 2361852424, 2428436474, 2756734187, 3204031479, 3329325298]
theorem kInts_at : ∀ j, j < 64 → kInts.getD j 0 = ((kW j).toNat : Int) := by decide
theorem tabC {W : World} {rest : List (String × DataW Unit)} (h : laidMet Tryd.prog (("tantalus/sha.constants", Rows.laid_tantalus_sha_constants) :: rest) W) : RdNP (fun b => W.heap[b]?) 1 0 (wa 64 kW) :=
  tab_rd (Lib.tabIs_of_head (zs := kInts) (rest := rest) gC gCT Tryd.underlying127 Tryd.underlying69 Fx.co69 Fx.co127 h) gC rfl kInts_at
theorem tabR {W : World} {x : String × DataW Unit} {rest : List (String × DataW Unit)} (h : laidMet Tryd.prog (x :: ("tantalus/tantalusref03.K", Rows.laid_tantalus_tantalusref03_K) :: rest) W) : RdNP (fun b => W.heap[b]?) 0 0 (wa 64 kW) :=
  tab_rd (Lib.tabIs_of_head (zs := kInts) (rest := rest) gR gRT Tryd.underlying127 Tryd.underlying69 Fx.co69 Fx.co127 (laid_tail h)) gR rfl kInts_at
def kCells : Array Value := #[.int .u32 1116352408, .int .u32 1899447441, .int .u32 3049323471, .int .u32 3921009573, .int .u32 961987163, .int .u32 1508970993, .int .u32 2453635748, .int .u32 2870763221, .int .u32 3624381080, .int .u32 310598401, .int .u32 607225278, .int .u32 1426881987, .int .u32 1925078388, .int .u32 2162078206, .int .u32 2614888103, .int .u32 3248222580, .int .u32 3835390401, .int .u32 4022224774, .int .u32 264347078, .int .u32 604807628, .int .u32 770255983, .int .u32 1249150122, .int .u32 1555081692, .int .u32 1996064986, .int .u32 2554220882, .int .u32 2821834349, .int .u32 2952996808, .int .u32 3210313671, .int .u32 3336571891, .int .u32 3584528711, .int .u32 113926993, .int .u32 338241895, .int .u32 666307205, .int .u32 773529912, .int .u32 1294757372, .int .u32 1396182291, .int .u32 1695183700, .int .u32 1986661051, .int .u32 2177026350, .int .u32 2456956037, .int .u32 2730485921, .int .u32 2820302411, .int .u32 3259730800, .int .u32 3345764771, .int .u32 3516065817, .int .u32 3600352804, .int .u32 4094571909, .int .u32 275423344, .int .u32 430227734, .int .u32 506948616, .int .u32 659060556, .int .u32 883997877, .int .u32 958139571, .int .u32 1322822218, .int .u32 1537002063, .int .u32 1747873779, .int .u32 1955562222, .int .u32 2024104815, .int .u32 2227730452, .int .u32 2361852424, .int .u32 2428436474, .int .u32 2756734187, .int .u32 3204031479, .int .u32 3329325298]
def setO : Obj → Obj
  | .cells _ t frozen => .cells kCells t frozen
  | o => o
/-- a world for the witnesses: the settled one, the tables as they are laid -/
noncomputable def laidWorld (os : Os) : World :=
  { World.holding Tryd.prog os ⟨#[], #[], []⟩ with heap := ((World.holding Tryd.prog os ⟨#[], #[], []⟩).heap.modify 0 setO).modify 1 setO }
end Go.Proofs.YtoogjfldgeiapaaDoor
