/- From a contract to a row: the arguments opened by their readings; shut by 'below the old heap nothing has turned'. No condition. -/
import Derived.Test.YtoogjfldgeiapaaDoorTanE
import Derived.ProofKit
namespace Go.Tan
open Go.RowKit Go.ChangeShapes
section
variable {H : Type} {R : Nat} {enc : TypeId × Value → H} {P : Program} {w : World} {base : Nat} {sp : Nat → Bool} {held : Bool} {fuel : Nat} {t : TypeId} {cs : List Value} {x : DataW H × List MemPlace}

theorem trod_array {n : Nat} {e : TypeId} (ht : P.underlying t = some (.array n e)) (h : DataW.trod enc P w base sp held fuel t cs = some x) :
    ∃ (xs : List (DataW H × List MemPlace)) (m : Nat), fuel = m + 1 ∧ x = (.agg (xs.map (·.1)), xs.flatMap (·.2)) ∧ cs.length = P.cellsOf t ∧ xs.length = n ∧
      ∀ i, i < n → DataW.trod enc P w base sp held m e ((cs.drop (i * P.cellsOf e)).take (P.cellsOf e)) = xs[i]? := by
  cases fuel with
  | zero => simp [DataW.trod] at h
  | succ m =>
    unfold DataW.trod at h
    rw [ht] at h
    split at h <;> simp_all
    obtain ⟨hl, xs, hp, hd⟩ := h
    exact ⟨xs, hd.symm, by simpa using mapM_some_length hp, fun i hi => mapM_some_get hp i i (by simp [hi])⟩

theorem weightsEach_mem {ts : List TypeId} {ds : List (DataW H)} {i : Nat} {d : DataW H} {t : TypeId} (ht : ts[i]? = some t) (hd : ds[i]? = some d) {n : Nat} (hn : n ∈ d.weights P t) : n ∈ DataW.weightsEach P ts ds := by
  induction i generalizing ts ds with
  | zero =>
    cases ts with
    | nil => simp at ht
    | cons a r =>
      cases ds with
      | nil => simp at hd
      | cons b q =>
        simp only [List.getElem?_cons_zero, Option.some.injEq] at ht hd
        subst ht; subst hd
        simp only [DataW.weightsEach, List.mem_append]; exact .inl hn
  | succ i ih =>
    cases ts with
    | nil => simp at ht
    | cons a r =>
      cases ds with
      | nil => simp at hd
      | cons b q =>
        simp only [List.getElem?_cons_succ] at ht hd
        simp only [DataW.weightsEach, List.mem_append]; exact .inr (ih ht hd)
theorem weightsAll_mem {e : TypeId} {ds : List (DataW H)} {i : Nat} {d : DataW H} (hd : ds[i]? = some d) {n : Nat} (hn : n ∈ d.weights P e) : n ∈ DataW.weightsAll P e ds := by
  induction i generalizing ds with
  | zero =>
    cases ds with
    | nil => simp at hd
    | cons b q =>
      simp only [List.getElem?_cons_zero, Option.some.injEq] at hd
      subst hd
      simp only [DataW.weightsAll, List.mem_append]; exact .inl hn
  | succ i ih =>
    cases ds with
    | nil => simp at hd
    | cons b q =>
      simp only [List.getElem?_cons_succ] at hd
      simp only [DataW.weightsAll, List.mem_append]; exact .inr (ih hd)

/-- Cells read at a type, and all that is met weighs what can be. -/
def Rg (R : Nat) (enc : TypeId × Value → H) (P : Program) (w : World) (t : TypeId) (cs : List Value) : Prop :=
  ∃ fuel x, DataW.trod enc P w 0 (fun _ => true) true fuel t cs = some x ∧ ∀ n ∈ x.1.weights P t, n ≤ R

theorem Rg.len {fs : Array Field} (ht : P.underlying t = some (.struct fs)) (h : Rg R enc P w t cs) : cs.length = P.cellsOf t := by
  obtain ⟨fuel, x, h, _⟩ := h
  obtain ⟨xs, n, _, _, hl, _⟩ := DataW.trod_struct ht h
  exact hl
theorem Rg.fld {fs : Array Field} (ht : P.underlying t = some (.struct fs)) (h : Rg R enc P w t cs) (i T o : Nat) (hf0 : (fs[i]?).map (fun f => (f.type, f.offset)) = some (T, o)) {sz : Nat} (hsz : P.cellsOf T = sz) : Rg R enc P w T ((cs.drop o).take sz) := by
  obtain ⟨f, hf, he⟩ := Option.map_eq_some_iff.1 hf0
  obtain ⟨rfl, rfl⟩ := Prod.mk.inj he
  obtain ⟨fuel, x, h, hw⟩ := h
  obtain ⟨xs, n, rfl, rfl, hl, hxs, hall⟩ := DataW.trod_struct ht h
  have hi : i < xs.length := by rw [hxs]; exact (Array.getElem?_eq_some_iff.1 hf).1
  have h1 := hall i f hf
  rw [List.getElem?_eq_getElem hi] at h1
  rw [← hsz]
  refine ⟨n, _, h1, fun k hk => hw k ?_⟩
  simp only [DataW.weights, ht]
  refine weightsEach_mem (i := i) (t := f.type) (d := xs[i].1) ?_ ?_ hk
  · simp [hf]
  · simp [List.getElem?_eq_getElem hi]
theorem Rg.elm {n : Nat} {e : TypeId} (ht : P.underlying t = some (.array n e)) (h : Rg R enc P w t cs) {i : Nat} (hi : i < n) {sz : Nat} (hsz : P.cellsOf e = sz) : Rg R enc P w e ((cs.drop (i * sz)).take sz) := by
  obtain ⟨fuel, x, h, hw⟩ := h
  obtain ⟨xs, m, rfl, rfl, hl, hxs, hall⟩ := trod_array ht h
  have h1 := hall i hi
  rw [List.getElem?_eq_getElem (by omega)] at h1
  rw [← hsz]
  refine ⟨m, _, h1, fun k hk => hw k ?_⟩
  simp only [DataW.weights, ht]
  exact weightsAll_mem (i := i) (by simp [List.getElem?_eq_getElem (show i < xs.length by omega)]) hk
theorem Rg.int {k : IntKind} (ht : P.underlying t = some (.int k)) (h : Rg R enc P w t cs) : ∃ n, cs = [.int k n] ∧ k.min ≤ n ∧ n ≤ k.max := by
  obtain ⟨fuel, x, h, _⟩ := h
  obtain ⟨n, rfl, _, hw⟩ := DataW.trod_int ht h
  simp only [Lit.wf, Bool.and_eq_true, decide_eq_true_eq] at hw
  exact ⟨n, rfl, hw⟩
theorem Rg.bool (ht : P.underlying t = some .bool) (h : Rg R enc P w t cs) : ∃ b, cs = [.bool b] := by
  obtain ⟨fuel, x, h, _⟩ := h
  obtain ⟨b, rfl, _⟩ := DataW.trod_bool ht h
  exact ⟨b, rfl⟩
theorem Rg.str (ht : P.underlying t = some .string) (h : Rg R enc P w t cs) : ∃ s : ByteArray, cs = [.string s] ∧ s.size ≤ R := by
  obtain ⟨fuel, x, h, hw⟩ := h
  obtain ⟨s, rfl, rfl, _⟩ := DataW.trod_string ht h
  refine ⟨s, rfl, ?_⟩
  have := hw s.data.toList.length (by simp [DataW.weights])
  have e : s.data.toList.length = s.size := Array.length_toList
  rw [e] at this
  exact this
theorem take1 {l : List Value} {o : Nat} {v : Value} (h : (l.drop o).take 1 = [v]) : l[o]? = some v := by
  have h1 : ((l.drop o).take 1)[0]? = some v := by rw [h]; rfl
  rw [List.getElem?_take] at h1
  simpa [List.getElem?_drop] using h1
theorem take_at {l : List Value} {o n j : Nat} {v : Value} (h : ((l.drop o).take n)[j]? = some v) : l[o + j]? = some v := by
  rw [List.getElem?_take] at h
  split at h
  · simpa [List.getElem?_drop] using h
  · cases h
theorem Rg.intAt {fs : Array Field} {k : IntKind} (ht : P.underlying t = some (.struct fs)) (h : Rg R enc P w t cs) (i T o : Nat) (hf : (fs[i]?).map (fun f => (f.type, f.offset)) = some (T, o)) (hu : P.underlying T = some (.int k)) (hsz : P.cellsOf T = 1) : ∃ n, cs[o]? = some (.int k n) ∧ k.min ≤ n ∧ n ≤ k.max := by
  obtain ⟨n, h1, h2⟩ := (h.fld ht i T o hf hsz).int hu
  exact ⟨n, take1 h1, h2⟩
theorem Rg.strAt {fs : Array Field} (ht : P.underlying t = some (.struct fs)) (h : Rg R enc P w t cs) (i T o : Nat) (hf : (fs[i]?).map (fun f => (f.type, f.offset)) = some (T, o)) (hu : P.underlying T = some .string) (hsz : P.cellsOf T = 1) : ∃ s : ByteArray, cs[o]? = some (.string s) ∧ s.size ≤ R := by
  obtain ⟨n, h1, h2⟩ := (h.fld ht i T o hf hsz).str hu
  exact ⟨n, take1 h1, h2⟩
theorem Rg.ints {n : Nat} {e : TypeId} {k : IntKind} (ht : P.underlying t = some (.array n e)) (h : Rg R enc P w t cs) (hu : P.underlying e = some (.int k)) (hsz : P.cellsOf e = 1) : ∃ r : Nat → Int, ∀ j, j < n → cs[j]? = some (.int k (r j)) ∧ k.min ≤ r j ∧ r j ≤ k.max := by
  have : ∀ j, ∃ m : Int, j < n → cs[j]? = some (.int k m) ∧ k.min ≤ m ∧ m ≤ k.max := by
    intro j
    by_cases hj : j < n
    · obtain ⟨m, h1, h2⟩ := (h.elm ht hj hsz).int hu
      exact ⟨m, fun _ => ⟨by have := take1 h1; simpa using this, h2⟩⟩
    · exact ⟨0, fun h => absurd h hj⟩
  exact ⟨fun j => Classical.choose (this j), fun j hj => Classical.choose_spec (this j) hj⟩
theorem list_eq {l l' : List Value} (hl : l.length = l'.length) (h : ∀ i, i < l'.length → l[i]? = l'[i]?) : l = l' := by
  refine List.ext_getElem? fun i => ?_
  by_cases hi : i < l'.length
  · exact h i hi
  · rw [List.getElem?_eq_none (by omega), List.getElem?_eq_none (by omega)]
theorem cells?_len {a : Addr} {n : Nat} (h : w.cells? base a n = some cs) : cs.length = n ∧ ∀ j, j < n → w.cell? (a.add j) = cs[j]? := by
  unfold World.cells? at h
  split at h
  · exact ⟨by simpa using mapM_some_length h, fun j hj => mapM_some_get h j j (by simp [hj])⟩
  · cases h
theorem RdP.heap {a : Addr} {v : Value} (h : w.cell? a = some v) : RdP (fun b => w.heap[b]?) a v := by
  intro w' hs
  unfold World.cell? at h ⊢
  cases ho : w.heap[a.block]? with
  | none => rw [ho] at h; cases h
  | some o =>
    rw [hs a.block o ho]
    rw [ho] at h
    exact h
theorem spot_none {a : Addr} {v : Value} (h : w.cell? a = some v) : a.spot = none := by
  unfold World.cell? at h
  split at h
  · split at h
    · cases h
    · rename_i hs; simpa using hs
  · cases h
/-- A slice whose elements can be read. -/
theorem Rg.sl {e : TypeId} {sz by' : Nat} {α : Type} (en : α → List Value) (Q : α → Prop) (ht : P.underlying t = some (.slice e)) (h : Rg R enc P w t cs) (hsz : P.cellsOf e = sz) (h0 : 0 < sz) (hby : P.bytesOf e = by')
    (hel : ∀ cs', Rg R enc P w e cs' → ∃ a, cs' = en a ∧ Q a) : ∃ (hd : Sh) (l : List α), cs = [hd.val l.length] ∧ SlR (fun b => w.heap[b]?) sz en hd l ∧ hd.cap * by' ≤ R ∧ ∀ a ∈ l, Q a := by
  obtain ⟨fuel, x, h, hw⟩ := h
  rcases DataW.trod_slice ht h with ⟨rfl, rfl⟩ | ⟨a, len, cap, elems, rest, n, rfl, rfl, rfl, _, hlc, _, hlen, hall, hrest, _⟩
  · exact ⟨⟨none, 0⟩, [], rfl, SlR.nul, by simp, fun a ha => by cases ha⟩
  · have hcap : (elems.length + rest.length) * by' ≤ R := by
      have := hw ((elems.length + rest.length) * by') (by simp [DataW.weights, ht, hby])
      simpa using this
    rw [(hrest rfl).1, hlen, show len + (cap - len) = cap by omega] at hcap
    have hel' : ∀ i, i < len → ∃ m : α, w.cells? 0 (a.add (i * sz)) sz = some (en m) ∧ Q m := by
      intro i hi
      have h1 := hall i hi
      rw [List.getElem?_eq_getElem (by omega), hsz, Option.bind_eq_some_iff] at h1
      obtain ⟨cs', h2, h3⟩ := h1
      obtain ⟨m, rfl, hm⟩ := hel cs' ⟨n, _, h3, fun k hk => hw k (by
        simp only [DataW.weights, ht, List.mem_cons, List.mem_append]
        exact .inr (.inl (weightsAll_mem (i := i) (by simp [List.getElem?_eq_getElem (show i < elems.length by omega)]) hk)))⟩
      exact ⟨m, h2, hm⟩
    have hspot : 0 < len → a.spot = none := by
      intro hpos
      obtain ⟨m, h1, _⟩ := hel' 0 hpos
      obtain ⟨h2, h3⟩ := cells?_len h1
      have h4 := h3 0 h0
      rw [List.getElem?_eq_getElem (by omega)] at h4
      exact spot_none (a := a) (by simpa [Addr.add] using h4)
    rcases Nat.eq_zero_or_pos len with hz | hpos
    · refine ⟨⟨some a, cap⟩, [], by rw [hz]; rfl, ⟨fun h => absurd rfl h, by simp, fun i y hy => by simp at hy⟩, hcap, fun y hy => by cases hy⟩
    · have hne : Nonempty α := ⟨Classical.choose (hel' 0 hpos)⟩
      have hch : ∀ i, ∃ m : α, i < len → w.cells? 0 (a.add (i * sz)) sz = some (en m) ∧ Q m := by
        intro i
        by_cases hi : i < len
        · obtain ⟨m, hm⟩ := hel' i hi; exact ⟨m, fun _ => hm⟩
        · exact ⟨Classical.choice hne, fun h => absurd h hi⟩
      obtain ⟨M, hM⟩ : ∃ M : Nat → α, ∀ i, i < len → w.cells? 0 (a.add (i * sz)) sz = some (en (M i)) ∧ Q (M i) := ⟨fun i => Classical.choose (hch i), fun i => Classical.choose_spec (hch i)⟩
      refine ⟨⟨some a, cap⟩, (List.range len).map M, by simp [Sh.val], ⟨fun _ => ?_, by simpa using hlc, fun i y hy j v hj => ?_⟩, hcap, fun y hy => ?_⟩
      · have := hspot hpos
        show some a = some ⟨a.block, a.off, none⟩
        cases a; simp_all
      · have hi : i < len := by
          have := (List.getElem?_eq_some_iff.1 hy).1
          simpa using this
        have hy' : y = M i := by
          simp [hi] at hy; exact hy.symm
        subst hy'
        obtain ⟨h1, _⟩ := hM i hi
        obtain ⟨h2, h3⟩ := cells?_len h1
        have hjl : j < sz := by rw [← h2]; exact (List.getElem?_eq_some_iff.1 hj).1
        have h4 := h3 j hjl
        rw [hj] at h4
        have h5 := RdP.heap h4
        have hadd : (a.add (i * sz)).add j = ⟨a.block, a.off + i * sz + j, none⟩ := by
          have hs := hspot hpos
          cases a with
          | mk b o s =>
            simp only at hs; subst hs
            by_cases hz1 : i * sz = 0 <;> by_cases hz2 : j = 0 <;> simp [Addr.add, hz1, hz2]
        rw [hadd] at h5
        exact h5
      · obtain ⟨i, hi, rfl⟩ := List.mem_map.1 hy
        exact (hM i (by simpa using hi)).2

/-! ### Shutting -/
theorem trodAll_stays {W W' : World} {sp' : Nat → Bool} (hl : laidOutB P = true) : ∀ {ts : List TypeId} {vs : List Value} {ds : List (DataW H)} {ps : List MemPlace}, (∀ t ∈ ts, P.readableRec t = true ∧ t < P.types.size) →
    DataW.TrodAll enc P W 0 (fun _ => true) true ts vs ds ps → (∀ p ∈ ps, W.sameAt W' p) → (∀ p ∈ ps, sp' p.block = true) → DataW.TrodAll enc P W' 0 sp' true ts vs ds ps
  | [], _, _, _, _, h, _, _ => by
    obtain ⟨rfl, rfl, rfl⟩ := trodAll_nil h
    rfl
  | t :: ts, _, _, _, ht, h, hs, hp => by
    obtain ⟨v, vs1, d, ds1, a, b, rfl, rfl, rfl, h1, h2⟩ := trodAll_cons h
    obtain ⟨hr, hrow⟩ := ht t (List.mem_cons_self ..)
    exact ⟨a, b, WideElems.Trod_stays hl hr hrow h1 (fun p hp' => hs p (List.mem_append_left _ hp')) (fun p hp' => hp p (List.mem_append_left _ hp')),
      trodAll_stays hl (fun u hu => ht u (List.mem_cons_of_mem _ hu)) h2 (fun p hp' => hs p (List.mem_append_right _ hp')) (fun p hp' => hp p (List.mem_append_right _ hp')), rfl⟩
theorem post_true {fn : Func} {s : ChangeSpec} {apart fresh handsOn again : Bool} {W W' : World} {args : Array Value} {ds gs : List (DataW H)} {before : List MemPlace} {T : TypeId} (hl : laidOutB P = true)
    (hW : DataW.Whole enc P fn.params.toList s.vars apart W args.toList ds gs before) (hv : s.vars = []) (hpar : ∀ t ∈ fn.params.toList, P.readableRec t = true ∧ t < P.types.size)
    (hfn : s.fn H (ds ++ gs) = { results := [.lit (.bool true)], args := ds }) (hr : fn.resultTypes = #[T]) (hT : P.underlying T = some .bool) (hb : Below W.heap.size W W') :
    s.post enc P fn apart fresh handsOn again W args (.bool true) W' := by
  have hlt := hW.lt
  have hW2 := hW
  obtain ⟨p, q, hA, hV, rfl, hz, hn⟩ := hW
  have hq : q = [] := by rw [hv] at hV; exact (trodVars_none hV).2
  subst hq
  have hres : ∀ (b : Nat) (sp : Nat → Bool) (hd : Bool), DataW.TrodAll enc P W' b sp hd fn.resultTypes.toList ((Value.bool true).resultList fn.resultTypes.size) [.lit (.bool true)] [] := by
    intro b sp hd
    rw [hr]
    exact trodAll_mk1 (shut_bool hT true)
  have hargs : ∀ sp : Nat → Bool, (∀ x ∈ p, sp x.block = true) → DataW.TrodAll enc P W' 0 sp true fn.params.toList args.toList ds p := fun sp hsp =>
    trodAll_stays hl hpar hA (fun x hx => hb.same (hlt x (List.mem_append_left _ hx))) hsp
  have hvars : ∀ sp : Nat → Bool, DataW.TrodVars enc P W' sp s.vars ([] : List (DataW H)) [] := fun sp => by rw [hv]; rfl
  refine ⟨ds, gs, p ++ [], [], p, [], hW2, ?_, ?_, ?_, hb.frame _, fun _ => ⟨?_, _, [], p ++ [], ⟨[] ++ p, [], trodAll_append (hargs _ fun _ _ => rfl) (hres _ _ _), hvars _, by simp, ?_, ?_⟩, ?_⟩⟩
  · rw [hfn]; exact hres _ _ _
  · rw [hfn]; exact hargs _ (fun x hx => by simpa using hlt x (List.mem_append_left _ hx))
  · rw [hfn]; exact hvars _
  · rw [hr]
    intro j t r hj hrr
    match j, hj, hrr with
    | 0, hj, hrr =>
      simp [Value.resultList] at hj hrr
      subst hj; subst hrr
      simp [Value.okWide, hT, Cell.okWide, Cell.ok]
  · intro b off hp
    rw [hb.frozen (p := ⟨b, off, none⟩) (hlt _ hp)]
    exact hz b off hp
  · intro ha; exact hn ha
  · intro x hx _; exact hx
/-- The road from a law's contract to the row. -/
theorem of_ct {f : FuncId} {fn : Func} {s : ChangeSpec} {apart fresh handsOn again : Bool} {W : World} {args : Array Value} {ds gs : List (DataW H)} {before : List MemPlace} {T : TypeId} (hl : laidOutB P = true)
    (hW : DataW.Whole enc P fn.params.toList s.vars apart W args.toList ds gs before) (hv : s.vars = []) (hpar : ∀ t ∈ fn.params.toList, P.readableRec t = true ∧ t < P.types.size)
    (hfn : s.fn H (ds ++ gs) = { results := [.lit (.bool true)], args := ds }) (hr : fn.resultTypes = #[T]) (hT : P.underlying T = some .bool)
    (hc : Ct P f args (fun b => W.heap[b]?) [] fun _ μ' u => μ' = [] ∧ u = .bool true) :
    Calls P f args W fun e W' => ∃ v, e = .returned v ∧ s.post enc P fn apart fresh handsOn again W args v W' := by
  refine (hc W ⟨fun b o h => h, (fun r hr => nomatch hr), (fun b hb => nomatch hb), List.nodup_nil⟩).mono fun e W' ⟨v, G', μ', he, htr, hμ, hv'⟩ => ?_
  subst hv'
  refine ⟨_, he, post_true hl hW hv hpar hfn hr hT ⟨htr.os, htr.tape, htr.output, htr.size, fun k hk => (htr.old k hk (by simp [keys])).1⟩⟩
/-- An argument's reading, with its weights. -/
theorem Rg.arg {W : World} {v : Value} {d : DataW H} {ps : List MemPlace} {ts : List TypeId} {ds : List (DataW H)} {i : Nat} (h : DataW.Trod enc P W 0 (fun _ => true) true t v d ps) (hw : (DataW.weightsEach P ts ds).all (· ≤ reachBytes) = true) (ht : ts[i]? = some t) (hd : ds[i]? = some d) : Rg 140737488351232 enc P W t v.cells.toList := by
  obtain ⟨fuel, h⟩ := h
  refine ⟨fuel, _, h, fun n hn => ?_⟩
  have := List.all_eq_true.1 hw n (weightsEach_mem ht hd hn)
  have h2 : n ≤ reachBytes := by simpa using this
  exact h2
end
end Go.Tan
