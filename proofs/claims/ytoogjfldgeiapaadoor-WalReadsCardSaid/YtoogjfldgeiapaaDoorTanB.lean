/- Statements that leave their order open: one order, walked, stands for all of them, under a check on the operations' edges. No condition: proved for every program. -/
import Derived.Test.YtoogjfldgeiapaaDoorTanA
namespace Go.Tan
open Go.RowKit

section
variable {P : Program} {n : Nat} {l : List Oper} {K : Env → PM → Mem → Prop} {dr : Bool} {mc : Md}

def KOk (K : Env → PM → Mem → Prop) : Prop :=
  (∀ ρ ρ' G μ, (∀ i, look ρ i = look ρ' i) → K ρ G μ → K ρ' G μ) ∧ (∀ ρ G μ μ', μ.Perm μ' → K ρ G μ → K ρ G μ')

theorem Gd.congr {ρ ρ' : Env} {g : Option (Nat × Bool)} {c : Bool} (h : Gd l ρ g c) (e : ∀ j t w, g = some (j, w) → (nth l j).bind (·.dst) = some t → look ρ t = look ρ' t) : Gd l ρ' g c := by
  cases h with
  | no => exact .no
  | t h hl => exact .t h ((e _ _ _ rfl h) ▸ hl)
  | f h hl => exact .f h ((e _ _ _ rfl h) ▸ hl)
  | tc h hl => exact .tc h ((e _ _ _ rfl h) ▸ hl)
  | fc h hl => exact .fc h ((e _ _ _ rfl h) ▸ hl)
theorem Ag.congr {ρ ρ' : Env} {a : Act} (h : Ag n ρ' a) (e : ∀ i, look ρ i = look ρ' i) : Ag n ρ a := h.sub fun i _ hl => (e i) ▸ hl
theorem look_lay_congr {ρ ρ' : Env} (e : ∀ i, look ρ i = look ρ' i) (d : Option Nat) (c : Bool) (v : Value) : ∀ i, look (lay ρ d c v) i = look (lay ρ' d c v) i := by
  intro i
  cases d with
  | none => exact e i
  | some d => simp only [lay, look_cons, e i]

theorem Wo.congr (hK : KOk K) {σ : List Nat} {ρ : Env} {G : PM} {μ : Mem} (H : Wo dr mc P n l K σ ρ G μ) : ∀ {ρ' : Env}, (∀ i, look ρ i = look ρ' i) → Wo dr mc P n l K σ ρ' G μ := by
  induction H with
  | nil h => exact fun e => .nil (hK.1 _ _ _ _ e h)
  | pure ho hk hg hr _ ih => exact fun e => .pure ho hk (hg.congr fun _ t _ _ _ => e t) (fun hc a w ha => hr hc a w (ha.congr e)) (ih (look_lay_congr e _ _ _))
  | read ho hk hg hr _ ih => exact fun e => .read ho hk (hg.congr fun _ t _ _ _ => e t) (fun hc a w ha => hr hc a w (ha.congr e)) (ih (look_lay_congr e _ _ _))
  | make ho hk hg hr _ ih => exact fun e => .make ho hk hg hr (fun b => ih b (look_lay_congr e _ _ _))
  | box ho hk hg hr _ ih => exact fun e => .box ho hk hg (fun a w ha => hr a w (ha.congr e)) (fun b => ih b (look_lay_congr e _ _ _))
  | callv ho hk hg hr hf _ ih => exact fun e => .callv ho hk (hg.congr fun _ t _ _ _ => e t) (fun hc a w ha => hr hc a w (ha.congr e)) hf (ih (look_lay_congr e _ _ _))
  | call ho hk hg hr hf _ ih => exact fun e => .call ho hk (hg.congr fun _ t _ _ _ => e t) (fun a w ha => hr a w (ha.congr e)) hf (fun v G' μ' hle hp => ih v G' μ' hle hp (look_lay_congr e _ _ _))
  | callg hd ho hg hr hf _ ih => exact fun e => .callg hd ho (hg.congr fun _ t _ _ _ => e t) (fun a w ha => hr a w (ha.congr e)) hf (fun v G' μ' hle hp => ih v G' μ' hle hp (look_lay_congr e _ _ _))
  | fresh ho hk hg hp hr hw _ ih => exact fun e => .fresh ho hk hg hp (fun a w ha => hr a w (ha.congr e)) hw (fun v G' μa μb hle hq => ih v G' μa μb hle hq (look_lay_congr e _ _ _))
  | act ho hk hg hp hr _ ih => exact fun e => .act ho hk (hg.congr fun _ t _ _ _ => e t) hp (fun a w ha => hr a w (ha.congr e)) (fun v G' μ' hle hq => ih v G' μ' hle hq (look_lay_congr e _ _ _))

theorem Wo.perm (hK : KOk K) {σ : List Nat} {ρ : Env} {G : PM} {μ : Mem} (H : Wo dr mc P n l K σ ρ G μ) : ∀ {μ' : Mem}, μ.Perm μ' → Wo dr mc P n l K σ ρ G μ' := by
  induction H with
  | nil h => exact fun p => .nil (hK.2 _ _ _ _ p h)
  | pure ho hk hg hr _ ih => exact fun p => .pure ho hk hg hr (ih p)
  | read ho hk hg hr _ ih => exact fun p => .read ho hk hg (fun hc a w ha hs => hr hc a w ha (hs.perm p.symm)) (ih p)
  | make ho hk hg hr _ ih => exact fun p => .make ho hk hg hr (fun b => ih b (p.cons _))
  | box ho hk hg hr _ ih => exact fun p => .box ho hk hg hr (fun b => ih b (p.cons _))
  | callv ho hk hg hr hf _ ih => exact fun p => .callv ho hk hg hr (fun hc w hs => hf hc w (hs.perm p.symm)) (ih p)
  | call ho hk hg hr hf _ ih => exact fun p => .call ho hk hg hr hf (fun v G' μ' hle hp => ih v G' μ' hle hp (p.append_left _))
  | callg hd ho hg hr hf _ ih => exact fun p => .callg hd ho hg hr hf (fun v G' μ' hle hp => ih v G' μ' hle hp (p.append_left _))
  | fresh ho hk hg hp hr hw h _ => exact fun p => .fresh ho hk hg (p.symm.trans hp) hr hw h
  | act ho hk hg hp hr h _ => exact fun p => .act ho hk hg (p.symm.trans hp) hr h

/-! ### Taking a value out of the frame, or laying one into it, where an operation does not look at it -/

theorem Ag.unput {ρ : Env} {a : Act} {d : Option Nat} {c : Bool} {v : Value} (hd : dstOk n d) (h : Ag n (lay ρ d c v) a) :
    ∃ a0, Ag n ρ a0 ∧ ∀ o : Oper, (∀ cs b, o.op ≠ .select cs b) → (∀ e, d = some e → e ∉ o.looksAt l.toArray) → execOp a0.eval o = execOp a.eval o := by
  cases d with
  | none => exact ⟨a, h, fun _ _ _ => rfl⟩
  | some d =>
    cases hl : look ρ d with
    | none =>
      refine ⟨a, h.sub fun i cv hi => ?_, fun _ _ _ => rfl⟩
      simp only [lay, look_cons]
      rw [if_neg (fun e => by subst e; rw [hl] at hi; cases hi)]
      exact hi
    | some cv =>
      obtain ⟨c0, v0⟩ := cv
      refine ⟨a.put (some d) (cond c0 v0 undef), ⟨by simp [Act.put, h.size], by simp [Act.put, h.defers], fun i c' v' hi => ?_⟩, fun o hs ho => execOp_put o hs a (some d) _ ho⟩
      simp only [Act.put]
      by_cases e : d = i
      · subst e
        rw [hl] at hi
        simp only [Option.some.injEq, Prod.mk.injEq] at hi
        obtain ⟨rfl, rfl⟩ := hi
        simp [h.size, show d < n from hd]
      · rw [Array.getElem?_setIfInBounds_ne e]
        refine h.get i c' v' ?_
        simp only [lay, look_cons, if_neg e]
        exact hi

theorem keep_put {ρ : Env} {d : Option Nat} {c : Bool} {v : Value} (hd : dstOk n d) {o : Oper} (hs : ∀ cs b, o.op ≠ .select cs b) (ho : ∀ e, d = some e → e ∉ o.looksAt l.toArray)
    {Φ : Sem Next → Prop} (h : ∀ a, Ag n ρ a → Φ (execOp a.eval o)) : ∀ a, Ag n (lay ρ d c v) a → Φ (execOp a.eval o) := by
  intro a ha
  obtain ⟨a0, h0, he⟩ := Ag.unput (l := l) hd ha
  rw [← he o hs ho]
  exact h a0 h0
theorem drop_put {ρ : Env} {d : Option Nat} {c : Bool} {v : Value} (hd : dstOk n d) {o : Oper} (hs : ∀ cs b, o.op ≠ .select cs b) (ho : ∀ e, d = some e → e ∉ o.looksAt l.toArray)
    {Φ : Sem Next → Prop} (h : ∀ a, Ag n (lay ρ d c v) a → Φ (execOp a.eval o)) : ∀ a, Ag n ρ a → Φ (execOp a.eval o) := by
  intro a ha
  have := h _ (ha.laid hd c v)
  rwa [execOp_put o hs a d _ ho] at this
theorem look_other {ρ : Env} {d : Option Nat} {c : Bool} {v : Value} {t : Nat} (h : d ≠ some t) : look (lay ρ d c v) t = look ρ t := by
  cases d with
  | none => rfl
  | some d => simp only [lay, look_cons]; rw [if_neg (fun e => h (by rw [e]))]
theorem guard_looks {o : Oper} {j t : Nat} {w : Bool} (hg : o.guard = some (j, w)) (ht : (nth l j).bind (·.dst) = some t) : t ∈ o.looksAt l.toArray := by
  unfold Oper.looksAt
  rw [hg]
  refine List.mem_append_right _ ?_
  simp only [nth_eq, ht]
  simp
theorem gd_put {ρ : Env} {d : Option Nat} {c c' : Bool} {v : Value} {o : Oper} (ho : ∀ e, d = some e → e ∉ o.looksAt l.toArray) (h : Gd l ρ o.guard c') : Gd l (lay ρ d c v) o.guard c' :=
  h.congr fun _ t _ hg ht => (look_other fun e => ho t e (guard_looks hg ht)).symm
theorem gd_drop {ρ : Env} {d : Option Nat} {c c' : Bool} {v : Value} {o : Oper} (ho : ∀ e, d = some e → e ∉ o.looksAt l.toArray) (h : Gd l (lay ρ d c v) o.guard c') : Gd l ρ o.guard c' :=
  h.congr fun _ t _ hg ht => look_other fun e => ho t e (guard_looks hg ht)
theorem look_swap {ρ : Env} {d e : Option Nat} {c c' : Bool} {v v' : Value} (h : ∀ x, d = some x → e ≠ some x) :
    ∀ i, look (lay (lay ρ d c v) e c' v') i = look (lay (lay ρ e c' v') d c v) i := by
  intro i
  cases d with
  | none => rfl
  | some d =>
    cases e with
    | none => rfl
    | some e =>
      have hne : e ≠ d := fun he => h d rfl (by rw [he])
      simp only [lay, look_cons]
      by_cases h1 : e = i
      · subst h1; rw [if_pos rfl, if_neg (fun x => hne x.symm), if_pos rfl]
      · rw [if_neg h1]
        by_cases h2 : d = i
        · rw [if_pos h2, if_pos h2]
        · rw [if_neg h2, if_neg h2, if_neg h1]

/-! ### Two operations change places -/

structure Apart (l : List Oper) (oi oj : Oper) : Prop where
  si : ∀ cs b, oi.op ≠ .select cs b
  sj : ∀ cs b, oj.op ≠ .select cs b
  ij : ∀ d, oi.dst = some d → d ∉ oj.looksAt l.toArray
  dd : ∀ d, oi.dst = some d → oj.dst ≠ some d
  ji : ∀ d, oj.dst = some d → d ∉ oi.looksAt l.toArray

theorem apart_of {oi oj : Oper} {i j : Nat} (hs : Region.noSelect l.toArray = true) (hi : nth l i = some oi) (hj : nth l j = some oj) (h : oi.apart l.toArray oj = true) : Apart l oi oj := by
  obtain ⟨h1, h2, h3⟩ := Oper.apart_spec h
  exact ⟨fun cs b => Region.noSelect_spec hs i oi cs b (by rw [nth_eq]; exact hi), fun cs b => Region.noSelect_spec hs j oj cs b (by rw [nth_eq]; exact hj), h1, h2, h3⟩

/-- The rule of the later operation, brought ahead of a value that it does not look at. -/
theorem swap_det {i j : Nat} {σ : List Nat} {ρ : Env} {G : PM} {μ : Mem} {oi oj : Oper} {c : Bool} {v : Value} (hK : KOk K) (hds : ∀ j o, nth l j = some o → dstOk n o.dst) (hoj : nth l j = some oj) (hap : Apart l oi oj)
    (hd : dstOk n oi.dst)
    (again : ∀ {ρ' : Env} {G' : PM} {μ' : Mem} {d : Option Nat} {c' : Bool} {v' : Value}, d = oj.dst → dstOk n d → PM.le G G' → (μ' = μ ∨ kindOf mc oj.op ≠ .act ∧ (∀ w, Sat G' μ' w → Sat G' μ w) ∨ kindOf mc oi.op = .pure) →
      ρ' = lay ρ d c' v' → Wo dr mc P n l K σ (lay ρ' oi.dst c v) G' μ' → Wo dr mc P n l K (i :: σ) ρ' G' μ')
    (hdr : dr = true) (hkj : kindOf mc oj.op ≠ .act ∨ kindOf mc oi.op = .pure)
    (H : Wo dr mc P n l K (j :: σ) (lay ρ oi.dst c v) G μ) : Wo dr mc P n l K (j :: i :: σ) ρ G μ := by
  have hnd : ∀ {k : Kind}, kindOf mc oj.op = k ∨ dr = false → kindOf mc oj.op = k := fun h => h.resolve_right (by simp [hdr])
  cases H with
  | @pure _ _ _ _ _ o cj vj ho hk hg hr h =>
    obtain rfl : oj = o := Option.some.inj (hoj.symm.trans ho)
    refine .pure hoj hk (gd_drop hap.ij hg) (fun hc a w ha => drop_put hd hap.sj hap.ij (Φ := fun s => s.run P w = .ok (.value vj) w) (fun a ha => hr hc a w ha) a ha) ?_
    exact again rfl (hds j _ hoj) (PM.le.refl G) (.inl rfl) rfl (h.congr hK (look_swap hap.dd))
  | @read _ _ _ _ _ o cj vj ho hk hg hr h =>
    obtain rfl : oj = o := Option.some.inj (hoj.symm.trans ho)
    refine .read hoj hk (gd_drop hap.ij hg) (fun hc a w ha hs => drop_put hd hap.sj hap.ij (Φ := fun s => s.run P w = .ok (.value vj) w) (fun a ha => hr hc a w ha hs) a ha) ?_
    exact again rfl (hds j _ hoj) (PM.le.refl G) (.inl rfl) rfl (h.congr hK (look_swap hap.dd))
  | @make _ _ _ _ _ o ob mkv ho hk hg hr h =>
    obtain rfl : oj = o := Option.some.inj (hoj.symm.trans ho)
    refine .make hoj hk hg hr fun b => ?_
    exact again rfl (hds j _ hoj) (PM.le.refl G) (.inr (.inl ⟨by rw [hnd hk]; simp, fun w hs => Sat.left (ν := [.blk b ob]) (hs.perm (List.perm_append_comm (l₁ := [Res.blk b ob])))⟩)) rfl ((h b).congr hK (look_swap hap.dd))
  | @box _ _ _ _ _ o ob mkv ho hk hg hr h =>
    obtain rfl : oj = o := Option.some.inj (hoj.symm.trans ho)
    refine .box hoj hk hg (fun a w ha => drop_put hd hap.sj hap.ij (Φ := fun s => s.run P w = .ok (.value (mkv w.heap.size)) (w.alloc ob)) (fun a ha => hr a w ha) a ha) fun b => ?_
    exact again rfl (hds j _ hoj) (PM.le.refl G) (.inr (.inl ⟨by rw [hnd hk]; simp, fun w hs => Sat.left (ν := [.blk b ob]) (hs.perm (List.perm_append_comm (l₁ := [Res.blk b ob])))⟩)) rfl ((h b).congr hK (look_swap hap.dd))
  | @callv _ _ _ _ _ o cj f args vj Gp ho hk hg hr hf h =>
    obtain rfl : oj = o := Option.some.inj (hoj.symm.trans ho)
    refine .callv hoj hk (gd_drop hap.ij hg) (fun hc a w ha => drop_put hd hap.sj hap.ij (Φ := fun s => s.run P w = .ok (.enter f args) w) (fun a ha => hr hc a w ha) a ha) hf ?_
    exact again rfl (hds j _ hoj) (PM.le.refl G) (.inl rfl) rfl (h.congr hK (look_swap hap.dd))
  | @call _ _ _ _ _ o f args post ho hk hg hr hf h =>
    obtain rfl : oj = o := Option.some.inj (hoj.symm.trans ho)
    refine .call hoj hk (gd_drop hap.ij hg) (fun a w ha => drop_put hd hap.sj hap.ij (Φ := fun s => s.run P w = .ok (.enter f args) w) (fun a ha => hr a w ha) a ha) hf fun v' G' μ' hle hp => ?_
    refine again rfl (hds j _ hoj) hle ?_ rfl ((h v' G' μ' hle hp).congr hK (look_swap hap.dd))
    rcases hkj with hk' | hk'
    · exact .inr (.inl ⟨hk', fun w hs => Sat.left (hs.perm List.perm_append_comm)⟩)
    · exact .inr (.inr hk')
  | callg hdf _ _ _ _ _ => exact absurd hdf (by simp [hdr])
  | @fresh _ _ _ _ _ o μ₁ μ₂ post ho hk hg hp hr hw h =>
    obtain rfl : oj = o := Option.some.inj (hoj.symm.trans ho)
    refine .fresh hoj hk hg hp (fun a w ha hs => drop_put hd hap.sj hap.ij (Φ := fun s => ∃ v w' G' μa μb, s.run P w = .ok (.value v) w' ∧ Tr G (keys μ₁) w G' (μa ++ μb) w' ∧ post G' μa μb v) (fun a ha => hr a w ha hs) a ha) hw fun v' G' μa μb hle hq => ?_
    refine again rfl (hds j _ hoj) hle ?_ rfl ((h v' G' μa μb hle hq).congr hK (look_swap hap.dd))
    exact .inr (.inl ⟨by rw [hnd hk]; simp, fun w hs => ((hw v' G' μa μb hq).of (hs.perm (perm_abc μa μb μ₂).symm)).perm hp.symm⟩)
  | @act _ _ _ _ _ o μ₁ μ₂ post ho hk hg hp hr h =>
    obtain rfl : oj = o := Option.some.inj (hoj.symm.trans ho)
    have hpure : kindOf mc oi.op = .pure := hkj.resolve_left (by rw [hnd hk]; simp)
    refine .act hoj hk (gd_drop hap.ij hg) hp (fun a w ha hs => drop_put hd hap.sj hap.ij (Φ := fun s => (∃ v w' G' μ', (s.run P w = .ok (.value v) w' ∨ s.run P w = .ok .skip w' ∧ v = undef) ∧ Tr G (keys μ₁) w G' μ' w' ∧ post G' μ' v) ∨
        (∃ f args, s.run P w = .ok (.enter f args) w ∧ Ct P f args G μ₁ post)) (fun a ha => hr a w ha hs) a ha) fun v' G' μ' hle hq => ?_
    exact again rfl (hds j _ hoj) hle (.inr (.inr hpure)) rfl ((h v' G' μ' hle hq).congr hK (look_swap hap.dd))

theorem Sat.mono {G G' : PM} {μ : Mem} {w : World} (h : Sat G' μ w) (hle : PM.le G G') : Sat G μ w := by
  refine ⟨fun b o hb => h.sub b o (hle b o hb), h.own, fun b hb => ?_, h.nodup⟩
  cases hG : G b with
  | none => rfl
  | some o => have := hle b o hG; rw [h.apart b hb] at this; cases this

theorem alloc_inj {w : World} {x y : Obj} (h : w.alloc x = w.alloc y) : x = y := by
  have h1 := heap_alloc_new w x
  rw [h, heap_alloc_new w y] at h1
  exact (Option.some.inj h1).symm
def sized (m : Nat) : World := { (default : World) with heap := Array.replicate m default }
theorem sized_size (m : Nat) : (sized m).heap.size = m := by simp [sized]

/-- An operation that makes a block whatever the frame is. -/
def Makes (P : Program) (o : Oper) : Prop := dstOk 0 none ∧ o.guard = none ∧ ∃ (ob : Obj) (mkv : Nat → Value), ∀ e w, (execOp e o).run P w = .ok (.value (mkv w.heap.size)) (w.alloc ob)

theorem inv_make {j : Nat} {σ : List Nat} {oj : Oper} {ρ : Env} {G : PM} {μ : Mem} (hdr : dr = true) (hoj : nth l j = some oj) (hm : kindOf mc oj.op = .make)
    {ob : Obj} {mkv : Nat → Value} (hr : ∀ e w, (execOp e oj).run P w = .ok (.value (mkv w.heap.size)) (w.alloc ob)) (H : Wo dr mc P n l K (j :: σ) ρ G μ) :
    ∀ b, Wo dr mc P n l K σ (lay ρ oj.dst true (mkv b)) G (.blk b ob :: μ) := by
  have hnd : ∀ {q k : Kind}, q = k ∨ dr = false → q = k := fun h => h.resolve_right (by simp [hdr])
  cases H with
  | @make _ _ _ _ _ o ob2 mkv2 ho hk hg hr2 h =>
    obtain rfl : oj = o := Option.some.inj (hoj.symm.trans ho)
    intro b
    have e1 : ob2 = ob := by
      have := (hr2 (fun _ => undef) (sized 0)).symm.trans (hr (fun _ => undef) (sized 0))
      simp only [Result.ok.injEq] at this
      exact alloc_inj this.2
    have e2 : mkv2 b = mkv b := by
      have := (hr2 (fun _ => undef) (sized b)).symm.trans (hr (fun _ => undef) (sized b))
      simp only [Result.ok.injEq, Next.value.injEq, sized_size] at this
      exact this.1
    have := h b
    rw [e1, e2] at this
    exact this
  | @pure _ _ _ _ _ o cj vj ho hk _ _ _ => obtain rfl : oj = o := Option.some.inj (hoj.symm.trans ho); have := hnd hk; rw [hm] at this; cases this
  | @read _ _ _ _ _ o cj vj ho hk _ _ _ => obtain rfl : oj = o := Option.some.inj (hoj.symm.trans ho); have := hnd hk; rw [hm] at this; cases this
  | @box _ _ _ _ _ o _ _ ho hk _ _ _ => obtain rfl : oj = o := Option.some.inj (hoj.symm.trans ho); have := hnd hk; rw [hm] at this; cases this
  | @callv _ _ _ _ _ o cj f args vj Gp ho hk _ _ _ _ => obtain rfl : oj = o := Option.some.inj (hoj.symm.trans ho); rcases hk with hk | hk | hk <;> simp_all
  | @call _ _ _ _ _ o f args post ho hk _ _ _ _ => obtain rfl : oj = o := Option.some.inj (hoj.symm.trans ho); rcases hk with hk | hk | hk <;> simp_all
  | callg hdf _ _ _ _ _ => exact absurd hdf (by simp [hdr])
  | @fresh _ _ _ _ _ o μ₁ μ₂ post ho hk _ _ _ _ _ => obtain rfl : oj = o := Option.some.inj (hoj.symm.trans ho); have := hnd hk; rw [hm] at this; cases this
  | @act _ _ _ _ _ o μ₁ μ₂ post ho hk _ _ _ _ => obtain rfl : oj = o := Option.some.inj (hoj.symm.trans ho); have := hnd hk; rw [hm] at this; cases this

theorem Wo.swap {i j : Nat} {σ : List Nat} {ρ : Env} {G : PM} {μ : Mem} {oi oj : Oper} (hK : KOk K) (hdr : dr = true) (hoi : nth l i = some oi) (hoj : nth l j = some oj) (hap : Apart l oi oj)
    (hds : ∀ j o, nth l j = some o → dstOk n o.dst) (hmk : kindOf mc oj.op = .make → Makes P oj)
    (hk : kindOf mc oi.op = .pure ∨ (kindOf mc oi.op = .read ∧ kindOf mc oj.op ≠ .act) ∨ kindOf mc oj.op = .make)
    (H : Wo dr mc P n l K (i :: j :: σ) ρ G μ) : Wo dr mc P n l K (j :: i :: σ) ρ G μ := by
  have hnd : ∀ {q k : Kind}, q = k ∨ dr = false → q = k := fun h => h.resolve_right (by simp [hdr])
  have hd := hds i oi hoi
  have hdj0 := hds j oj hoj
  cases H with
  | @pure _ _ _ _ _ o c v ho hk' hg hr h =>
    obtain rfl : oi = o := Option.some.inj (hoi.symm.trans ho)
    refine swap_det hK hds hoj hap hd ?_ hdr (.inr (hnd hk')) h
    intro ρ' G' μ' d c' v' hdd hdo hle hμ hρ H'
    subst hdd; subst hρ
    exact .pure hoi hk' (gd_put hap.ji hg) (fun hc a w ha => keep_put hdo hap.si hap.ji (Φ := fun s => s.run P w = .ok (.value v) w) (fun a ha => hr hc a w ha) a ha) H'
  | @read _ _ _ _ _ o c v ho hk' hg hr h =>
    obtain rfl : oi = o := Option.some.inj (hoi.symm.trans ho)
    have hri := hnd hk'
    have hja : kindOf mc oj.op ≠ .act := by
      rcases hk with hk | hk | hk
      · rw [hri] at hk; cases hk
      · exact hk.2
      · rw [hk]; simp
    refine swap_det hK hds hoj hap hd ?_ hdr (.inl hja) h
    intro ρ' G' μ' d c' v' hdd hdo hle hμ hρ H'
    subst hdd; subst hρ
    refine .read hoi hk' (gd_put hap.ji hg) (fun hc a w ha hs => keep_put hdo hap.si hap.ji (Φ := fun s => s.run P w = .ok (.value v) w) (fun a ha => hr hc a w ha ?_) a ha) H'
    rcases hμ with hμ | ⟨_, hμ⟩ | hμ
    · subst hμ; exact hs.mono hle
    · exact (hμ w hs).mono hle
    · rw [hri] at hμ; cases hμ
  | @make _ _ _ _ _ o ob mkv ho hk' hg hr h =>
    obtain rfl : oi = o := Option.some.inj (hoi.symm.trans ho)
    have hmi := hnd hk'
    have hmj : kindOf mc oj.op = .make := by rcases hk with hk | hk | hk <;> simp_all
    obtain ⟨_, hgj, ob', mkv', hrj⟩ := hmk hmj
    refine .make hoj (.inl hmj) hgj hrj fun b' => ?_
    refine .make hoi hk' hg hr fun b => ?_
    exact (((inv_make hdr hoj hmj hrj (h b)) b').congr hK (look_swap hap.dd)).perm hK (.swap ..)
  | @box _ _ _ _ _ o ob mkv ho hk' hg hr h =>
    obtain rfl : oi = o := Option.some.inj (hoi.symm.trans ho)
    have hmi := hnd hk'
    have hmj : kindOf mc oj.op = .make := by rcases hk with hk | hk | hk <;> simp_all
    obtain ⟨_, hgj, ob', mkv', hrj⟩ := hmk hmj
    refine .make hoj (.inl hmj) hgj hrj fun b' => ?_
    refine .box hoi hk' hg (fun a w ha => keep_put hdj0 hap.si hap.ji (Φ := fun s => s.run P w = .ok (.value (mkv w.heap.size)) (w.alloc ob)) (fun a ha => hr a w ha) a ha) fun b => ?_
    exact (((inv_make hdr hoj hmj hrj (h b)) b').congr hK (look_swap hap.dd)).perm hK (.swap ..)
  | @callv _ _ _ _ _ o c f args v Gp ho hk' hg hr hf h =>
    obtain rfl : oi = o := Option.some.inj (hoi.symm.trans ho)
    have hmj : kindOf mc oj.op = .make := by rcases hk' with hk' | hk' | hk' <;> rcases hk with hk | hk | hk <;> simp_all
    obtain ⟨_, hgj, ob', mkv', hrj⟩ := hmk hmj
    refine .make hoj (.inl hmj) hgj hrj fun b' => ?_
    exact .callv hoi hk' (gd_put hap.ji hg) (fun hc a w ha => keep_put hdj0 hap.si hap.ji (Φ := fun s => s.run P w = .ok (.enter f args) w) (fun a ha => hr hc a w ha) a ha) (fun hc w hs => hf hc w (Sat.left (ν := [.blk b' ob']) (hs.perm (List.perm_append_comm (l₁ := [Res.blk b' ob'])))))
      (((inv_make hdr hoj hmj hrj h) b').congr hK (look_swap hap.dd))
  | @call _ _ _ _ _ o f args post ho hk' hg hr hf h =>
    obtain rfl : oi = o := Option.some.inj (hoi.symm.trans ho)
    have hmj : kindOf mc oj.op = .make := by rcases hk' with hk' | hk' | hk' <;> rcases hk with hk | hk | hk <;> simp_all
    obtain ⟨_, hgj, ob', mkv', hrj⟩ := hmk hmj
    refine .make hoj (.inl hmj) hgj hrj fun b' => ?_
    refine .call hoi hk' (gd_put hap.ji hg) (fun a w ha => keep_put hdj0 hap.si hap.ji (Φ := fun s => s.run P w = .ok (.enter f args) w) (fun a ha => hr a w ha) a ha) hf fun v G' μ' hle hp => ?_
    exact (((inv_make hdr hoj hmj hrj (h v G' μ' hle hp)) b').congr hK (look_swap hap.dd)).perm hK List.perm_middle.symm
  | callg hdf _ _ _ _ _ => exact absurd hdf (by simp [hdr])
  | @fresh _ _ _ _ _ o μ₁ μ₂ post ho hk' hg hp hr hw h =>
    obtain rfl : oi = o := Option.some.inj (hoi.symm.trans ho)
    have hai := hnd hk'
    have hmj : kindOf mc oj.op = .make := by rcases hk with hk | hk | hk <;> simp_all
    obtain ⟨_, hgj, ob', mkv', hrj⟩ := hmk hmj
    refine .make hoj (.inl hmj) hgj hrj fun b' => ?_
    refine .fresh (post := post) (μ₁ := μ₁) (μ₂ := .blk b' ob' :: μ₂) hoi hk' hg ((hp.cons _).trans List.perm_middle.symm) (fun a w ha hs => ?_) hw fun v G' μa μb hle hq => ?_
    · refine keep_put hdj0 hap.si hap.ji (Φ := fun s => ∃ v w' G' μa μb, s.run P w = .ok (.value v) w' ∧ Tr G (keys μ₁) w G' (μa ++ μb) w' ∧ post G' μa μb v) (fun a ha => hr a w ha ?_) a ha
      exact Sat.left (ν := [.blk b' ob']) (hs.perm (List.perm_middle.trans (List.perm_append_comm (l₁ := [Res.blk b' ob']))))
    · exact (((inv_make hdr hoj hmj hrj (h v G' μa μb hle hq)) b').congr hK (look_swap hap.dd)).perm hK List.perm_middle.symm
  | @act _ _ _ _ _ o μ₁ μ₂ post ho hk' hg hp hr h =>
    obtain rfl : oi = o := Option.some.inj (hoi.symm.trans ho)
    have hai := hnd hk'
    have hmj : kindOf mc oj.op = .make := by rcases hk with hk | hk | hk <;> simp_all
    obtain ⟨_, hgj, ob', mkv', hrj⟩ := hmk hmj
    refine .make hoj (.inl hmj) hgj hrj fun b' => ?_
    refine .act (post := post) (μ₁ := μ₁) (μ₂ := .blk b' ob' :: μ₂) hoi hk' (gd_put hap.ji hg) ((hp.cons _).trans List.perm_middle.symm) (fun a w ha hs => ?_) fun v G' μ' hle hq => ?_
    · refine keep_put hdj0 hap.si hap.ji (Φ := fun s => (∃ v w' G' μ', (s.run P w = .ok (.value v) w' ∨ s.run P w = .ok .skip w' ∧ v = undef) ∧ Tr G (keys μ₁) w G' μ' w' ∧ post G' μ' v) ∨
        (∃ f args, s.run P w = .ok (.enter f args) w ∧ Ct P f args G μ₁ post)) (fun a ha => hr a w ha ?_) a ha
      exact Sat.left (ν := [.blk b' ob']) (hs.perm (List.perm_middle.trans (List.perm_append_comm (l₁ := [Res.blk b' ob']))))
    · exact (((inv_make hdr hoj hmj hrj (h v G' μ' hle hq)) b').congr hK (look_swap hap.dd)).perm hK List.perm_middle.symm

/-- What holds of the rest holds behind the head. -/
theorem Wo.map {i : Nat} {σ σ' : List Nat} {ρ : Env} {G : PM} {μ : Mem} (hm : ∀ ρ G μ, Wo dr mc P n l K σ ρ G μ → Wo dr mc P n l K σ' ρ G μ) (H : Wo dr mc P n l K (i :: σ) ρ G μ) :
    Wo dr mc P n l K (i :: σ') ρ G μ := by
  cases H with
  | pure ho hk hg hr h => exact .pure ho hk hg hr (hm _ _ _ h)
  | read ho hk hg hr h => exact .read ho hk hg hr (hm _ _ _ h)
  | make ho hk hg hr h => exact .make ho hk hg hr fun b => hm _ _ _ (h b)
  | box ho hk hg hr h => exact .box ho hk hg hr fun b => hm _ _ _ (h b)
  | callv ho hk hg hr hf h => exact .callv ho hk hg hr hf (hm _ _ _ h)
  | call ho hk hg hr hf h => exact .call ho hk hg hr hf fun v G' μ' a b => hm _ _ _ (h v G' μ' a b)
  | callg hd ho hg hr hf h => exact .callg hd ho hg hr hf fun v G' μ' a b => hm _ _ _ (h v G' μ' a b)
  | fresh ho hk hg hp hr hw h => exact .fresh ho hk hg hp hr hw fun v G' μa μb a b => hm _ _ _ (h v G' μa μb a b)
  | act ho hk hg hp hr h => exact .act ho hk hg hp hr fun v G' μ' a b => hm _ _ _ (h v G' μ' a b)

/-! ### The check -/

theorem any_iff {es : Array Edge} {p : Edge → Bool} : es.any p = true ↔ ∃ e, e ∈ es ∧ p e = true := by
  rw [← Array.any_toList, List.any_eq_true]; simp
def edge (oj : Oper) (i : Nat) : Bool := oj.after.any fun e => Region.binds .any e && e.on == i
def rdy (l : List Oper) (listed : Array Bool) : List Nat := Region.ready .any l.toArray listed
/-- Does an operation wait for another one, directly or through others? -/
def dep (l : List Oper) : Nat → Nat → Nat → Bool
  | 0, _, _ => false
  | f + 1, j, i => match nth l j with | some oj => oj.after.any fun e => Region.binds .any e && (e.on == i || dep l f e.on i) | none => false
def okHead (mc : Md) (l : List Oper) (i : Nat) (oi : Oper) (σ : List Nat) (listed : Array Bool) : Bool :=
  match kindOf mc oi.op with
  | .pure => σ.all fun j => match nth l j with | some oj => dep l l.length j i || oi.apart l.toArray oj | none => false
  | .read => σ.all fun j => match nth l j with | some oj => dep l l.length j i || (oi.apart l.toArray oj && (kindOf mc oj.op != .act)) | none => false
  | _ => (rdy l listed).all fun j => j == i || match nth l j with
      | some oj => (kindOf mc oj.op == .make) && oi.apart l.toArray oj && (List.range l.length).all fun k => match nth l k with | some ok => !edge ok j || edge ok i | none => true
      | none => false
def okOrd (mc : Md) (l : List Oper) : List Nat → Array Bool → Bool
  | [], listed => (rdy l listed).isEmpty
  | i :: σ, listed => (rdy l listed).contains i && (match nth l i with | some oi => okHead mc l i oi σ listed | none => false) && okOrd mc l σ (listed.setIfInBounds i true)

theorem rdy_iff {j : Nat} {listed : Array Bool} : j ∈ rdy l listed ↔ listed.getD j true = false ∧ ∃ o, nth l j = some o ∧ ∀ e ∈ o.after, Region.binds .any e = true → listed.getD e.on false = true := by
  unfold rdy; rw [mem_ready]; simp only [nth_eq]
theorem rdy_mono {i j : Nat} {listed : Array Bool} (hj : j ∈ rdy l listed) (hne : j ≠ i) : j ∈ rdy l (listed.setIfInBounds i true) := ready_mono hj hne
theorem okOrd_mem : ∀ {σ : List Nat} {listed : Array Bool} {j : Nat}, okOrd mc l σ listed = true → j ∈ rdy l listed → j ∈ σ
  | [], listed, j, h, hj => by simp only [okOrd, List.isEmpty_iff] at h; rw [h] at hj; cases hj
  | i :: σ, listed, j, h, hj => by
    simp only [okOrd, Bool.and_eq_true] at h
    by_cases e : j = i
    · subst e; exact List.mem_cons_self ..
    · exact List.mem_cons_of_mem _ (okOrd_mem h.2 (rdy_mono hj e))
theorem not_edge {i j : Nat} {oj : Oper} {listed : Array Bool} (hi : i ∈ rdy l listed) (hoj : nth l j = some oj) (hj : j ∈ rdy l listed) : edge oj i = false := by
  obtain ⟨_, o, ho, hall⟩ := rdy_iff.1 hj
  obtain rfl : oj = o := Option.some.inj (hoj.symm.trans ho)
  have hun := (rdy_iff.1 hi).1
  unfold edge
  rw [Bool.eq_false_iff]
  intro h
  obtain ⟨e, he, hb⟩ := any_iff.1 h
  simp only [Bool.and_eq_true, beq_iff_eq] at hb
  have h1 := hall e he hb.1
  rw [hb.2] at h1
  rcases Nat.lt_or_ge i listed.size with h' | h'
  · simp [h'] at hun h1; rw [hun] at h1; cases h1
  · simp [Array.getElem?_eq_none h'] at h1

/-- What becomes ready behind a block's making waits for the head all the same. -/
theorem rdy_back {i j k : Nat} {listed : Array Bool} {oj : Oper} (hi : listed.getD i true = false) (hne : j ≠ i)
    (hdep : ((List.range l.length).all fun k => match nth l k with | some ok => !edge ok j || edge ok i | none => true) = true)
    (hk : k ∈ rdy l (listed.setIfInBounds j true)) (_ : nth l j = some oj) : k ∈ rdy l listed := by
  obtain ⟨hun, o, ho, hall⟩ := rdy_iff.1 hk
  have hkj : j ≠ k := fun e => by
    subst e
    rcases Nat.lt_or_ge j listed.size with h' | h'
    · simp [h'] at hun
    · simp [h'] at hun
  rw [getD_set_ne true hkj] at hun
  refine rdy_iff.2 ⟨hun, o, ho, fun e he hb => ?_⟩
  have h1 := hall e he hb
  by_cases ej : j = e.on
  · exfalso
    have hlt : k < l.length := by
      have := (nth_eq l k).trans ho
      exact (by simpa using (Array.getElem?_eq_some_iff.1 this).1)
    have := List.all_eq_true.1 hdep k (List.mem_range.2 hlt)
    simp only [ho, Bool.or_eq_true, Bool.not_eq_true'] at this
    rcases this with h2 | h2
    · have h3 : edge o j = true := any_iff.2 ⟨e, he, by simp [hb, ej]⟩
      rw [h3] at h2; cases h2
    · obtain ⟨e', he', hb'⟩ := any_iff.1 h2
      simp only [Bool.and_eq_true, beq_iff_eq] at hb'
      have h4 := hall e' he' hb'.1
      rw [hb'.2, getD_set_ne false hne] at h4
      rcases Nat.lt_or_ge i listed.size with h' | h'
      · simp [h'] at hi h4; rw [hi] at h4; cases h4
      · simp [Array.getElem?_eq_none h'] at h4
  · rw [getD_set_ne false ej] at h1; exact h1

/-- What is done waits for nothing. -/
def Closed (l : List Oper) (listed : Array Bool) : Prop := ∀ k, listed.getD k false = true → ∀ ok, nth l k = some ok → ∀ e ∈ ok.after, Region.binds .any e = true → listed.getD e.on false = true
theorem unl {listed : Array Bool} {i : Nat} (hi : listed.getD i true = false) : listed.getD i false = false := by
  rcases Nat.lt_or_ge i listed.size with h' | h'
  · simp [h'] at hi ⊢; exact hi
  · simp [Array.getElem?_eq_none h']
theorem dep_listed {listed : Array Bool} {i : Nat} (hc : Closed l listed) (hi : listed.getD i true = false) : ∀ (f k : Nat), listed.getD k false = true → dep l f k i = false
  | 0, _, _ => rfl
  | f + 1, k, hk => by
    unfold dep
    cases ho : nth l k with
    | none => rfl
    | some ok =>
      simp only
      rw [Bool.eq_false_iff]
      intro h
      obtain ⟨e, he, hb⟩ := any_iff.1 h
      simp only [Bool.and_eq_true, Bool.or_eq_true, beq_iff_eq] at hb
      have h1 := hc k hk ok ho e he hb.1
      rcases hb.2 with h2 | h2
      · rw [h2, unl hi] at h1; cases h1
      · rw [dep_listed hc hi f e.on h1] at h2; cases h2
theorem not_dep {listed : Array Bool} {i j : Nat} (hc : Closed l listed) (hi : listed.getD i true = false) (hj : j ∈ rdy l listed) : ∀ f, dep l f j i = false
  | 0 => rfl
  | f + 1 => by
    obtain ⟨_, o, ho, hall⟩ := rdy_iff.1 hj
    unfold dep
    rw [ho]
    simp only
    rw [Bool.eq_false_iff]
    intro h
    obtain ⟨e, he, hb⟩ := any_iff.1 h
    simp only [Bool.and_eq_true, Bool.or_eq_true, beq_iff_eq] at hb
    have h1 := hall e he hb.1
    rcases hb.2 with h2 | h2
    · rw [h2, unl hi] at h1; cases h1
    · rw [dep_listed hc hi f e.on h1] at h2; cases h2
theorem set_true {listed : Array Bool} {j x : Nat} (h : listed.getD x false = true) : (listed.setIfInBounds j true).getD x false = true := by
  by_cases e : j = x
  · subst e
    rcases Nat.lt_or_ge j listed.size with h' | h'
    · simp [h']
    · simp [Array.getElem?_eq_none h'] at h
  · rw [getD_set_ne false e]; exact h
theorem Closed.set {listed : Array Bool} {j : Nat} (hc : Closed l listed) (hj : j ∈ rdy l listed) : Closed l (listed.setIfInBounds j true) := by
  intro k hk ok hok e he hb
  by_cases ej : j = k
  · subst ej
    obtain ⟨_, o, ho, hall⟩ := rdy_iff.1 hj
    obtain rfl : ok = o := Option.some.inj (hok.symm.trans ho)
    exact set_true (hall e he hb)
  · rw [getD_set_ne false ej] at hk
    exact set_true (hc k hk ok hok e he hb)
theorem Closed.none (m : Nat) : Closed l (Array.replicate m false) := by
  intro k hk
  rcases Nat.lt_or_ge k m with h' | h'
  · simp [h'] at hk
  · simp [h'] at hk
theorem front (hK : KOk K) (hdr : dr = true) (hs : Region.noSelect l.toArray = true) (hmk : ∀ j oj, nth l j = some oj → kindOf mc oj.op = .make → Makes P oj) (hds : ∀ j oj, nth l j = some oj → dstOk n oj.dst) {j : Nat} {post : List Nat} :
    ∀ (pre : List Nat) (listed : Array Bool), Closed l listed → j ∉ pre → okOrd mc l (pre ++ j :: post) listed = true → j ∈ rdy l listed →
      okOrd mc l (pre ++ post) (listed.setIfInBounds j true) = true ∧ ∀ ρ G μ, Wo dr mc P n l K (pre ++ j :: post) ρ G μ → Wo dr mc P n l K (j :: (pre ++ post)) ρ G μ
  | [], listed, _, _, hok, _ => by
    simp only [List.nil_append, okOrd, Bool.and_eq_true] at hok ⊢
    exact ⟨hok.2, fun _ _ _ h => h⟩
  | i :: pre, listed, hcl, hnp, hok, hj => by
    have hne : j ≠ i := fun e => hnp (by rw [e]; exact List.mem_cons_self ..)
    simp only [List.cons_append, okOrd, Bool.and_eq_true] at hok ⊢
    obtain ⟨⟨hri, hh⟩, hrest⟩ := hok
    have hri' : i ∈ rdy l listed := by simpa using hri
    have hj' := rdy_mono hj hne
    obtain ⟨ih1, ih2⟩ := front hK hdr hs hmk hds pre (listed.setIfInBounds i true) (hcl.set hri') (fun h => hnp (List.mem_cons_of_mem _ h)) hrest hj'
    obtain ⟨_, oj, hoj, _⟩ := rdy_iff.1 hj
    obtain ⟨hiun, oi, hoi, _⟩ := rdy_iff.1 hri'
    simp only [hoi] at hh ⊢
    have hnoe := not_dep hcl hiun hj l.length
    have hjm : j ∈ pre ++ j :: post := List.mem_append_right _ (List.mem_cons_self ..)
    have sub : ∀ x, x ∈ pre ++ post → x ∈ pre ++ j :: post := fun x hx => by
      rcases List.mem_append.1 hx with h | h
      · exact List.mem_append_left _ h
      · exact List.mem_append_right _ (List.mem_cons_of_mem _ h)
    -- the pair that changes places, and the head's check afterwards
    have key : (Apart l oi oj ∧ (kindOf mc oi.op = .pure ∨ (kindOf mc oi.op = .read ∧ kindOf mc oj.op ≠ .act) ∨ kindOf mc oj.op = .make)) ∧
        okHead mc l i oi (pre ++ post) (listed.setIfInBounds j true) = true := by
      have last : ((rdy l listed).all fun j => j == i || match nth l j with
          | some oj => (kindOf mc oj.op == .make) && oi.apart l.toArray oj && (List.range l.length).all fun k => match nth l k with | some ok => !edge ok j || edge ok i | none => true
          | none => false) = true →
          (Apart l oi oj ∧ kindOf mc oj.op = .make) ∧ ((rdy l (listed.setIfInBounds j true)).all fun j => j == i || match nth l j with
          | some oj => (kindOf mc oj.op == .make) && oi.apart l.toArray oj && (List.range l.length).all fun k => match nth l k with | some ok => !edge ok j || edge ok i | none => true
          | none => false) = true := by
        intro hh
        have h1 := List.all_eq_true.1 hh j hj
        simp only [hoj, Bool.or_eq_true, beq_iff_eq, hne, false_or, Bool.and_eq_true] at h1
        refine ⟨⟨apart_of hs hoi hoj h1.1.2, h1.1.1⟩, List.all_eq_true.2 fun k hk => ?_⟩
        exact List.all_eq_true.1 hh k (rdy_back hiun hne h1.2 hk hoj)
      unfold okHead at hh ⊢
      cases hki : kindOf mc oi.op with
      | pure =>
        simp only [hki] at hh ⊢
        have h1 := List.all_eq_true.1 hh j hjm
        simp only [hoj, hnoe, Bool.false_or] at h1
        exact ⟨⟨apart_of hs hoi hoj h1, .inl trivial⟩, List.all_eq_true.2 fun x hx => List.all_eq_true.1 hh x (sub x hx)⟩
      | read =>
        simp only [hki] at hh ⊢
        have h1 := List.all_eq_true.1 hh j hjm
        simp only [hoj, hnoe, Bool.false_or, Bool.and_eq_true, bne_iff_ne] at h1
        exact ⟨⟨apart_of hs hoi hoj h1.1, .inr (.inl ⟨trivial, h1.2⟩)⟩, List.all_eq_true.2 fun x hx => List.all_eq_true.1 hh x (sub x hx)⟩
      | call => simp only [hki] at hh ⊢; obtain ⟨⟨a, b⟩, c⟩ := last hh; exact ⟨⟨a, .inr (.inr b)⟩, c⟩
      | make => simp only [hki] at hh ⊢; obtain ⟨⟨a, b⟩, c⟩ := last hh; exact ⟨⟨a, .inr (.inr b)⟩, c⟩
      | act => simp only [hki] at hh ⊢; obtain ⟨⟨a, b⟩, c⟩ := last hh; exact ⟨⟨a, .inr (.inr b)⟩, c⟩
    refine ⟨⟨⟨by simpa using rdy_mono hri' (Ne.symm hne), key.2⟩, by rw [Array.setIfInBounds_comm _ _ hne]; exact ih1⟩, fun ρ G μ H => ?_⟩
    exact Wo.swap hK hdr hoi hoj key.1.1 hds (hmk j oj hoj) key.1.2 (H.map ih2)

theorem first_mem {j : Nat} : ∀ {σ : List Nat}, j ∈ σ → ∃ pre post, σ = pre ++ j :: post ∧ j ∉ pre
  | i :: σ, h => by
    by_cases e : j = i
    · exact ⟨[], σ, by rw [e]; rfl, by simp⟩
    · obtain ⟨pre, post, h1, h2⟩ := first_mem ((List.mem_cons.1 h).resolve_left e)
      exact ⟨i :: pre, post, by rw [h1]; rfl, by simp [e, h2]⟩
theorem Wo.any {Q : Exit → Act → World → Prop} {G0 : PM} {K0 : List Nat} {w0 : World} (hK : KOk K) (hdr : dr = true) (hs : Region.noSelect l.toArray = true)
    (hmk : ∀ j oj, nth l j = some oj → kindOf mc oj.op = .make → Makes P oj) (hds : ∀ j oj, nth l j = some oj → dstOk n oj.dst)
    (hQ : ∀ ρ G μ, K ρ G μ → ∀ a w, Ag n ρ a → Tr G0 K0 w0 G μ w → Q .normal a w) :
    ∀ (m : Nat) (σ : List Nat) (listed : Array Bool) (ρ : Env) (G : PM) (μ : Mem) (a : Act) (w : World), σ.length = m → Closed l listed → okOrd mc l σ listed = true → Wo dr mc P n l K σ ρ G μ → Ag n ρ a → Tr G0 K0 w0 G μ w →
      wpAny P .any l.toArray Q m listed a w
  | 0, σ, listed, ρ, G, μ, a, w, hlen, _, hok, H, ha, ht => by
    obtain rfl : σ = [] := List.eq_nil_of_length_eq_zero hlen
    simp only [okOrd, List.isEmpty_iff] at hok
    cases H with | nil h => exact ⟨hok, hQ _ _ _ h a w ha ht⟩
  | m + 1, σ, listed, ρ, G, μ, a, w, hlen, hcl, hok, H, ha, ht => by
    refine ⟨fun h0 => ?_, fun j hj => ?_⟩
    · cases σ with
      | nil => simp at hlen
      | cons i σ =>
        simp only [okOrd, Bool.and_eq_true] at hok
        have : i ∈ rdy l listed := by simpa using hok.1.1
        unfold rdy at this
        rw [h0] at this; cases this
    · have hj' : j ∈ rdy l listed := hj
      obtain ⟨pre, post, hσ, hnp⟩ := first_mem (okOrd_mem hok hj')
      subst hσ
      obtain ⟨h1, h2⟩ := front hK hdr hs hmk hds pre listed hcl hnp hok hj'
      obtain ⟨o, ho, h⟩ := (h2 ρ G μ H).head ha ht (next := wpAny P .any l.toArray Q m (listed.setIfInBounds j true)) (Q := Q) hds
        (fun ρ' G' μ' a' w' H' ha' ht' => Wo.any hK hdr hs hmk hds hQ m (pre ++ post) _ ρ' G' μ' a' w' (by simp at hlen ⊢; omega) (hcl.set hj') h1 H' ha' ht')
      simp only [wpOp, nth_eq, ho]
      split
      · rename_i hw; rw [if_pos hw] at h; exact .inl h
      · rename_i hw; rw [if_neg hw] at h; exact h
end
end Go.Tan
