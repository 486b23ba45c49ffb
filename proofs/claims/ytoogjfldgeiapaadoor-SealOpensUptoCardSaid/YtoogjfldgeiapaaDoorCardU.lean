/- What the bound of the second form gives: no slice, no text and no map that is met is longer than so much. No condition. -/
import Derived.Test.YtoogjfldgeiapaaDoorCardY
namespace Go.Proofs.YtoogjfldgeiapaaDoor
open Go.Tan Go.RowKit
set_option maxRecDepth 100000
namespace Fx
theorem co40 : Tryd.prog.cellsOf 40 = 2 := by kernel_rfl
theorem co39 : Tryd.prog.cellsOf 39 = 1 := by kernel_rfl
end Fx
section
variable {H : Type} {M : Nat}
theorem wt_mul {a b c M : Nat} (h : a ≤ b * M) (hb : b ≤ c) : a ≤ c * M := Nat.le_trans h (Nat.mul_le_mul_right M hb)
theorem bulk_one (d : DataW H) : 1 ≤ Rows.uptoBulk d := by
  cases d with
  | lit l => cases l <;> simp [Rows.uptoBulk]
  | nil => simp [Rows.uptoBulk]
  | ptr d => simp [Rows.uptoBulk]
  | slice elems spare => simp [Rows.uptoBulk]
  | agg parts => simp [Rows.uptoBulk]
  | iface t d => simp [Rows.uptoBulk]
  | map entries => simp [Rows.uptoBulk]
  | held h => simp [Rows.uptoBulk]
theorem bulk_len (l : List (DataW H)) : l.length ≤ Rows.uptoBulkAll l := by
  induction l with
  | nil => simp [Rows.uptoBulkAll]
  | cons x r ih => have := bulk_one x; simp only [Rows.uptoBulkAll, List.length_cons]; omega
theorem bulk_entries (l : List (Lit × DataW H)) : l.length ≤ Rows.uptoBulkEntries l := by
  induction l with
  | nil => simp [Rows.uptoBulkEntries]
  | cons x r ih =>
    obtain ⟨k, d⟩ := x
    have h1 := bulk_one d
    have : 1 ≤ Rows.uptoBulkEntry (k, d) := by cases k <;> simp [Rows.uptoBulkEntry]
    simp only [Rows.uptoBulkEntries, List.length_cons]; omega
theorem bulk_part {d : DataW H} {l : List (DataW H)} (h : d ∈ l) : Rows.uptoBulk d ≤ Rows.uptoBulkAll l := by
  induction l with
  | nil => cases h
  | cons x r ih =>
    simp only [Rows.uptoBulkAll]
    cases List.mem_cons.1 h with
    | inl e => subst e; omega
    | inr e => have := ih e; omega
structure TyOk (M : Nat) : Prop where
  ptr : ∀ t e, t < 145 → Tryd.prog.underlying t = some (.pointer e) → e < 145
  sl : ∀ t e, t < 145 → Tryd.prog.underlying t = some (.slice e) → e < 145 ∧ Tryd.prog.bytesOf e ≤ M
  ar : ∀ t q e, t < 145 → Tryd.prog.underlying t = some (.array q e) → e < 145
  st : ∀ t fs, t < 145 → Tryd.prog.underlying t = some (.struct fs) → ∀ u ∈ fs.toList.map (·.type), u < 145
  mp : ∀ t k e, t < 145 → Tryd.prog.underlying t = some (.map k e) → e < 145 ∧ Tryd.prog.bytesOf k + Tryd.prog.bytesOf e ≤ 2 * M
noncomputable def tyOne (t : Nat) : Bool := match Tryd.prog.underlying t with
  | some (.pointer e) => Nat.blt e 145
  | some (.slice e) => Nat.blt e 145 && Nat.ble (Tryd.prog.bytesOf e) 100000
  | some (.array _ e) => Nat.blt e 145
  | some (.struct fs) => fs.toList.all fun f => Nat.blt f.type 145
  | some (.map k e) => Nat.blt e 145 && Nat.ble (Tryd.prog.bytesOf k + Tryd.prog.bytesOf e) 200000
  | _ => true
theorem tyAll : ((List.range 145).all tyOne) = true := by kernel_rfl
theorem blt_lt {a b : Nat} (h : Nat.blt a b = true) : a < b := Nat.le_of_ble_eq_true h
theorem tyOk : TyOk 100000 := by
  have key : ∀ t, t < 145 → tyOne t = true := fun t ht => List.all_eq_true.1 tyAll t (List.mem_range.2 ht)
  refine ⟨fun t e ht hu => ?_, fun t e ht hu => ?_, fun t q e ht hu => ?_, fun t fs ht hu u hm => ?_, fun t k e ht hu => ?_⟩ <;> have h := key t ht <;> unfold tyOne at h <;> rw [hu] at h <;> simp only [Bool.and_eq_true] at h
  · exact blt_lt h
  · exact ⟨blt_lt h.1, Nat.le_of_ble_eq_true h.2⟩
  · exact blt_lt h
  · obtain ⟨f, hf, rfl⟩ := List.mem_map.1 hm
    exact blt_lt (List.all_eq_true.1 h f hf)
  · exact ⟨blt_lt h.1, Nat.le_of_ble_eq_true h.2⟩
mutual
theorem wt (hM : TyOk M) (h1 : 1 ≤ M) : ∀ (d : DataW H) (t n : Nat), t < 145 → n ∈ d.weights Tryd.prog t → n ≤ Rows.uptoBulk d * (2 * M)
  | .lit (.string bytes), t, n, ht, h => by
    simp only [DataW.weights, List.mem_singleton] at h
    subst h
    simp only [Rows.uptoBulk]
    exact Nat.le_trans (by omega) (Nat.le_mul_of_pos_right _ (by omega))
  | .lit (.bool _), t, n, ht, h => by simp [DataW.weights] at h
  | .lit (.int ..), t, n, ht, h => by simp [DataW.weights] at h
  | .lit (.float ..), t, n, ht, h => by simp [DataW.weights] at h
  | .nil, t, n, ht, h => by simp [DataW.weights] at h
  | .ptr d, t, n, ht, h => by
    simp only [DataW.weights] at h
    split at h
    · rename_i e hu
      exact wt_mul (wt hM h1 d _ n (hM.ptr t e ht hu) h) (by simp [Rows.uptoBulk])
    · cases h
  | .slice elems spare, t, n, ht, h => by
    simp only [DataW.weights] at h
    split at h
    · rename_i e hu
      obtain ⟨he, hb⟩ := hM.sl t e ht hu
      rcases List.mem_cons.1 h with rfl | h
      · have l1 := bulk_len elems
        have l2 := bulk_len spare
        simp only [Rows.uptoBulk]
        exact Nat.mul_le_mul (by omega) (Nat.le_trans hb (by omega))
      · rcases List.mem_append.1 h with h | h
        · exact wt_mul (wtAll hM h1 elems _ n he h) (by simp only [Rows.uptoBulk]; omega)
        · exact wt_mul (wtAll hM h1 spare _ n he h) (by simp only [Rows.uptoBulk]; omega)
    · cases h
  | .agg parts, t, n, ht, h => by
    simp only [DataW.weights] at h
    split at h
    · rename_i fs hu
      exact wt_mul (wtEach hM h1 parts _ n (hM.st t fs ht hu) h) (by simp only [Rows.uptoBulk]; omega)
    · rename_i q e hu
      exact wt_mul (wtAll hM h1 parts _ n (hM.ar t q e ht hu) h) (by simp only [Rows.uptoBulk]; omega)
    · cases h
  | .iface _ _, t, n, ht, h => by simp [DataW.weights] at h
  | .map entries, t, n, ht, h => by
    simp only [DataW.weights] at h
    split at h
    · rename_i k e hu
      obtain ⟨he, hb⟩ := hM.mp t k e ht hu
      rcases List.mem_cons.1 h with rfl | h
      · have l1 := bulk_entries entries
        simp only [Rows.uptoBulk]
        exact Nat.mul_le_mul (by omega) hb
      · exact wt_mul (wtEntries hM h1 entries _ n he h) (by simp only [Rows.uptoBulk]; omega)
    · cases h
  | .held _, t, n, ht, h => by simp [DataW.weights] at h
theorem wtAll (hM : TyOk M) (h1 : 1 ≤ M) : ∀ (l : List (DataW H)) (e n : Nat), e < 145 → n ∈ DataW.weightsAll Tryd.prog e l → n ≤ Rows.uptoBulkAll l * (2 * M)
  | [], e, n, ht, h => by simp [DataW.weightsAll] at h
  | d :: r, e, n, ht, h => by
    simp only [DataW.weightsAll, List.mem_append] at h
    rcases h with h | h
    · exact wt_mul (wt hM h1 d _ n ht h) (by simp only [Rows.uptoBulkAll]; omega)
    · exact wt_mul (wtAll hM h1 r _ n ht h) (by simp only [Rows.uptoBulkAll]; omega)
theorem wtEach (hM : TyOk M) (h1 : 1 ≤ M) : ∀ (l : List (DataW H)) (ts : List Nat) (n : Nat), (∀ t ∈ ts, t < 145) → n ∈ DataW.weightsEach Tryd.prog ts l → n ≤ Rows.uptoBulkAll l * (2 * M)
  | [], ts, n, ht, h => by cases ts <;> simp [DataW.weightsEach] at h
  | d :: r, [], n, ht, h => by simp [DataW.weightsEach] at h
  | d :: r, t :: ts, n, ht, h => by
    simp only [DataW.weightsEach, List.mem_append] at h
    rcases h with h | h
    · exact wt_mul (wt hM h1 d _ n (ht t (List.mem_cons_self ..)) h) (by simp only [Rows.uptoBulkAll]; omega)
    · exact wt_mul (wtEach hM h1 r _ n (fun t hm => ht t (List.mem_cons_of_mem _ hm)) h) (by simp only [Rows.uptoBulkAll]; omega)
theorem wtEntries (hM : TyOk M) (h1 : 1 ≤ M) : ∀ (l : List (Lit × DataW H)) (e n : Nat), e < 145 → n ∈ DataW.weightsEntries Tryd.prog e l → n ≤ Rows.uptoBulkEntries l * (2 * M)
  | [], e, n, ht, h => by simp [DataW.weightsEntries] at h
  | (k, d) :: r, e, n, ht, h => by
    simp only [DataW.weightsEntries, List.mem_append] at h
    rcases h with h | h
    · have hd : ∀ n, n ∈ d.weights Tryd.prog e → n ≤ Rows.uptoBulk d * (2 * M) := fun n h => wt hM h1 d e n ht h
      have h2 : n ≤ Rows.uptoBulkEntry (k, d) * (2 * M) := by
        cases k with
        | string bytes =>
          simp only [DataW.weightsEntry, List.mem_cons] at h
          rcases h with rfl | h
          · simp only [Rows.uptoBulkEntry]; exact Nat.le_trans (by omega) (Nat.le_mul_of_pos_right _ (by omega))
          · exact wt_mul (hd n h) (by simp only [Rows.uptoBulkEntry]; omega)
        | _ => simp only [DataW.weightsEntry] at h; exact wt_mul (hd n h) (by simp only [Rows.uptoBulkEntry]; omega)
      exact wt_mul h2 (by simp only [Rows.uptoBulkEntries]; omega)
    · exact wt_mul (wtEntries hM h1 r _ n ht h) (by simp only [Rows.uptoBulkEntries]; omega)
end
/-- an argument's reading, small -/
theorem Rg.argU {enc : TypeId × Value → H} {W : World} {t : TypeId} {v : Value} {d : DataW H} {ps : List MemPlace} {ds : List (DataW H)} {i : Nat} (h : DataW.Trod enc Tryd.prog W 0 (fun _ => true) true t v d ps) (hup : Rows.uptoSmall H ds = true) (hd : ds[i]? = some d) (ht : t < 145 := by decide) : Rg 209715200000 enc Tryd.prog W t v.cells.toList := by
  obtain ⟨fuel, h⟩ := h
  refine ⟨fuel, _, h, fun n hn => ?_⟩
  have h1 : Rows.uptoBulkAll ds ≤ 1048576 := of_decide_eq_true hup
  have h2 := bulk_part (List.mem_of_getElem? hd)
  have h3 := wt tyOk (by decide) d t n ht hn
  exact Nat.le_trans h3 (Nat.le_trans (Nat.mul_le_mul_right _ (Nat.le_trans h2 h1)) (by decide))
end
end Go.Proofs.YtoogjfldgeiapaaDoor
