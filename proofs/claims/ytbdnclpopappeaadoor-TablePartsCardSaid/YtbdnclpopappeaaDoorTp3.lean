/- Lemmas and contracts of functions, joined. -/
import Derived.Test.YtbdnclpopappeaaDoorTp2
import Derived.Test.YtbdnclpopappeaaDoorRows
import Derived.KernelRfl
set_option linter.unusedSimpArgs false
set_option linter.unusedVariables false
set_option linter.unusedSectionVars false
namespace Go.Tan
open Go.RowKit
section
variable {mc:Md} {P:Program} {n:Fm} {l:List Oper} {K:Env→PM→Mem→Prop} {i:Nat} {σ:List Nat} {ρ:Env} {G:PM} {μ:Mem}
variable {d t:Nat} {p:String} {af:Array Edge}
theorem kpc {f:FuncId} {xs:List Operand} {tys:Array TypeId} {vs:List Value} {post:PM→Mem→Value→Prop} {die:List PanicEntry→Prop} {dd:Option Nat} (ho:nth l i=some ⟨dd,.call { callee:=.value (.func f),args:=xs.toArray,argTypes:=tys },t,p,af,none⟩) (hf:goFn P f=true)
  (hv:∀ a,Ag n ρ a→true=true→xs.map a.eval=vs) (hk:Cp P f vs.toArray G [] post die) (hx:∀ ch G' ρ' μ',PM.le G G'→die ch→(∀ i,look ρ' i=look ρ i)→μ'.Perm μ→n.die ch ρ' G' μ')
  (h:∀ v G' μ',PM.le G G'→post G' μ' v→Wo false mc P n l K σ (lay ρ dd true v) G' (μ'++μ)):Wo false mc P n l K (i :: σ) ρ G μ :=
 .callp (μ₁:=[]) rfl ho .no (.refl _) (fun a w ha=>run_call hf (hv a ha rfl) _ _ _ _ _ w) hk hx h
theorem kpo {f:FuncId} {xs:List Operand} {tys:Array TypeId} {vs:List Value} {μ₁ μ₂:Mem} {post:PM→Mem→Value→Prop} {die:List PanicEntry→Prop} {dd:Option Nat} (ho:nth l i=some ⟨dd,.call { callee:=.value (.func f),args:=xs.toArray,argTypes:=tys },t,p,af,none⟩) (hf:goFn P f=true)
  (hv:∀ a,Ag n ρ a→true=true→xs.map a.eval=vs) (hp:μ.Perm (μ₁++μ₂)) (hk:Cp P f vs.toArray G μ₁ post die) (hx:∀ ch G' ρ' μ',PM.le G G'→die ch→(∀ i,look ρ' i=look ρ i)→μ'.Perm μ₂→n.die ch ρ' G' μ')
  (h:∀ v G' μ',PM.le G G'→post G' μ' v→Wo false mc P n l K σ (lay ρ dd true v) G' (μ'++μ₂)):Wo false mc P n l K (i :: σ) ρ G μ :=
 .callp rfl ho .no hp (fun a w ha=>run_call hf (hv a ha rfl) _ _ _ _ _ w) hk hx h
theorem pnc {x:Operand} {T:TypeId} {v:Value} {dd:Option Nat} (ho:nth l i=some ⟨dd,.panic x,t,p,af,none⟩) (hx:ev ρ x=some (true,.iface T v)) (hd:∀ ρ' μ',(∀ i,look ρ' i=look ρ i)→μ'.Perm μ→n.die [{ v:=.iface T v,recovered:=false }] ρ' G μ'):Wo false mc P n l K (i :: σ) ρ G μ :=
 .pan rfl ho .no (fun a w ha=>by simp [execOp,ha.eval hx rfl,Instr.panic,goPanic]) hd
end
theorem upon_mono {P:Program} {o:Oper} {a:Act} {next next':Act→World→Prop} {Q Q':Exit→Act→World→Prop} (h1:∀ a w,next a w→next' a w) (h2:∀ ch a w,Q (.panic ch) a w→Q' (.panic ch) a w) (h3:LetsOut Q→LetsOut Q') :
  ∀ r,o.upon P a next Q r→o.upon P a next' Q' r:=by
 intro r h
 unfold Oper.upon at h ⊢
 split at h
 ·exact h1 _ _ h
 ·exact h1 _ _ h
 ·exact h1 _ _ h
 ·refine h.mono fun e w' he=>?_
  cases e with
  | returned v=>exact h1 _ _ he
  | panicked ch=>exact h2 _ _ _ he
  | outgrown=>exact h3 he
 ·exact h.mono fun v w' he=>h1 _ _ he
 ·exact h2 _ _ _ h
 exact h.elim
theorem wpOps_append {P:Program} {ops:Array Oper} {Q:Exit→Act→World→Prop} {σ2:List Nat}:∀ {σ1:List Nat} {a:Act} {w:World},wpOps P ops (Exit.then (wpOps P ops Q σ2) Q) σ1 a w→wpOps P ops Q (σ1++σ2) a w
 | [],a,w,h=>h
 | i :: σ1,a,w,h=>by
  simp only [wpOps,List.cons_append] at h ⊢
  cases ho:ops[i]? with
  | none=>simp only [ho] at h; exact wpOps_append h
  | some o =>
   simp only [ho] at h
   dsimp only
   split at h
   ·rename_i hw
    rw [if_pos hw]
    rcases h with h | ⟨h,hl⟩
    ·exact .inl (upon_mono (fun a w h=>wpOps_append h) (fun ch a w h=>h) (fun h=>h) _ h)
    ·exact .inr ⟨h,hl⟩
   ·rename_i hw
    rw [if_neg hw]; exact wpOps_append h
def Cx.dfr (X:Cx) (d:Deferred) (die1:List PanicEntry→Env→PM→Mem→Prop)
  (ok1:∀ ch ρ G μ a w,die1 ch ρ G μ→Ag ⟨X.n.n,[d],die1⟩ ρ a→Tr X.G0 X.K0 X.w0 G μ w→Leaves X.P X.fn a.tmps (RR X.post X.die X.G0 X.K0 X.w0) a.defers (.panicking ch) w):Cx :=
 ⟨X.P,X.fn,⟨X.n.n,[d],die1⟩,X.G0,X.K0,X.w0,X.post,X.die,ok1⟩
theorem Qof_same {X Y:Cx} (h1:X.P=Y.P) (h2:X.fn=Y.fn) (h3:X.R=Y.R):∀ k,Qof X k=Qof Y k
 | []=>by simp only [Qof,h1,h2,h3]
 | .code c :: k=>by simp only [Qof,Qof_same h1 h2 h3 k,h1]
 | .blk id :: k=>by simp only [Qof,Qof_same h1 h2 h3 k]
 | .lp I :: k=>by simp only [Qof,Qof_same h1 h2 h3 k]
structure DefOp (P:Program) (n:Fm) (l:List Oper) (j:Nat) (d:Deferred) (ρ:Env):Prop where
 of:∃ o,nth l j=some o∧o.guard=none∧o.dst=none∧∀ a w,Ag n ρ a→(execOp a.eval o).run P w=.ok (.defer d) w
theorem Wk.defer {X:Cx} {k:List KI} {ρ:Env} {G:PM} {μ:Mem} {id:Nat} {l:List Oper} (σ1:List Nat) (j:Nat) (d:Deferred) (die1:List PanicEntry→Env→PM→Mem→Prop)
  (ok1:∀ ch ρ G μ a w,die1 ch ρ G μ→Ag ⟨X.n.n,[d],die1⟩ ρ a→Tr X.G0 X.K0 X.w0 G μ w→Leaves X.P X.fn a.tmps (RR X.post X.die X.G0 X.K0 X.w0) a.defers (.panicking ch) w)
  (hσ:List.range l.length=σ1++[j]) (hds:dstAll X.n l=true) (h0:X.n.ds=[])
  (h:Wo false ⟨false,false⟩ X.P X.n l (fun ρ G μ=>DefOp X.P X.n l j d ρ∧We (X.dfr d die1 ok1) .normal k ρ G μ) σ1 ρ G μ):Wk X (.region id l.toArray false) k ρ G μ:=by
 refine ⟨fun a w ha ht=>wp_region ?_⟩
 have hr:List.range l.toArray.size=σ1++[j]:=by simpa using hσ
 rw [hr]
 refine wpOps_append ?_
 refine Wo.run (Q:=Exit.then (wpOps X.P l.toArray (Qof X k) [j]) (Qof X k)) (dstAll_ok hds) (fun _=>Qof_panic X k) (fun ρ G μ hK a w ha ht=>?_) _ _ _ _ a w h ha ht
 obtain ⟨⟨o,ho,hg,hdst,hrun⟩,hwe⟩:=hK
 show wpOps X.P l.toArray (Qof X k) [j] a w
 simp only [wpOps,nth_eq,ho]
 rw [if_pos (by simp [Region.wanted,hg])]
 refine .inl ?_
 unfold Oper.wp
 rw [hrun a w ha]
 simp only [Oper.upon,wpOps,hdst,Act.put]
 have:=hwe.out { a with defers:=d :: a.defers } w ⟨ha.size,by show d :: a.defers=[d]; rw [ha.defers,h0],ha.get⟩ ht
 rwa [Qof_same (X:=X.dfr d die1 ok1) (Y:=X) rfl rfl rfl k] at this
theorem We.finD {X:Cx} {ρ:Env} {G:PM} {μ:Mem} (h:∀ a w,Ag X.n ρ a→Tr X.G0 X.K0 X.w0 G μ w→Leaves X.P X.fn a.tmps X.R X.n.ds .returning w):We X .ret [] ρ G μ :=
 ⟨fun a w ha ht=>by
  show Leaves X.P X.fn a.tmps X.R a.defers .returning w
  rw [ha.defers]; exact h a w ha ht⟩
def ifT (P:Program) (T:TypeId):Bool:=match P.underlying T with | some (.interface _)=>true | _=>false
theorem ifT_some {P:Program} {T:TypeId} (h:ifT P T=true):∃ q,P.underlying T=some (.interface q):=by
 unfold ifT at h
 split at h
 ·rename_i q hq; exact ⟨q,hq⟩
 ·cases h
def dfc (f:FuncId) (args:List Value):Deferred:={ target:=.fn (.func f) #[],args:=args.toArray }
theorem We.finR {X:Cx} {ρ:Env} {G:PM} {μ μ':Mem} {vs:List Value} {rs:List ResultVar} {f:FuncId} {args:List Value} (hf:goFn X.P f=true) (hds:X.n.ds=[dfc f args])
  (hq:∀ w,CallsD X.P f args.toArray .returning w (fun e u' w'=>(∃ v,e=.returned v)∧u'=.returning∧w'=w)) (hr:X.fn.results=rs.toArray) (h:Rs X.P ρ G μ rs vs) (hM:MSub μ' μ) (hp:X.post G μ' (tup vs)):We X .ret [] ρ G μ :=
 We.finD fun a w ha ht=>by
  rw [hds]
  refine leaves_cons (by simp) (f:=f) (args:=args.toArray) (by simp [invoke,run_callFunc hf]) ((hq w).mono ?_)
  rintro e u' w' ⟨⟨v,rfl⟩,rfl,rfl⟩
  exact ⟨_,results_run (by rw [hr]; exact h) ha ht.sat,.inl ⟨_,G,μ',rfl,hM.tr ht,hp⟩⟩
theorem wk_dfr {X:Cx} {k:List KI} {ρ:Env} {G:PM} {μ:Mem} {id:Nat} {l:List Oper} {f:FuncId} {x:Operand} {tys:Array TypeId} {v:Value} {t:Nat} {p:String} {af:Array Edge}
  (hl:l=[⟨none,.defer { callee:=.value (.func f),args:=#[x],argTypes:=tys },t,p,af,none⟩]) (h0:X.n.ds=[]) (hx:ev ρ x=some (true,v))
  (h:We (X.dfr (dfc f [v]) (fun _ _ _ _=>False) (fun _ _ _ _ _ _ hq=>hq.elim)) .normal k ρ G μ):Wk X (.region id l.toArray false) k ρ G μ:=by
 subst hl
 refine Wk.defer [] 0 (dfc f [v]) (fun _ _ _ _=>False) (fun _ _ _ _ _ _ hq=>hq.elim) rfl rfl h0 (.nil ⟨⟨_,rfl,rfl,rfl,fun a w ha=>?_⟩,h⟩)
 have hv:a.eval x=v:=ha.eval hx rfl
 have hfn:a.eval (.func f)=.func (.func f) #[] #[]:=rfl
 simp [execOp,resolve,Deferred.ofValue,hv,hfn,dfc]
theorem Rs.congr {P:Program} {ρ ρ':Env} {G:PM} {μ:Mem} {rs:List ResultVar} {vs:List Value} (h:Rs P ρ G μ rs vs) (e:∀ i,look ρ' i=look ρ i):Rs P ρ' G μ rs vs:=by
 induction h with
 | nil=>exact .nil
 | tmp h _ ih=>exact .tmp ((e _).trans h) ih
 | cell h hw _ ih=>exact .cell ((e _).trans h) hw ih
def dieC (P:Program) (pn:List PanicEntry) (b T:Nat) (v0:Value) (D:Prop) (rs:List ResultVar) (vs:List Value):List PanicEntry→Env→PM→Mem→Prop:=fun ch ρ G μ =>
 (ch=pn∧D)∧∃ x μ',μ.Perm (.blk b (cl [x] T) :: μ')∧Rs P ρ G (.blk b (cl [v0] T) :: μ') rs vs
theorem die_of {P:Program} {pn:List PanicEntry} {b T:Nat} {v0 x:Value} {D:Prop} {rs:List ResultVar} {vs:List Value} {ch:List PanicEntry} {ρ ρ':Env} {G:PM} {μ' μ₂ μ3:Mem} (hd:ch=pn∧D) (he:∀ i,look ρ' i=look ρ i) (hm:μ'.Perm μ₂)
  (ht:MTake μ₂ (.blk b (cl [x] T)) μ3) (hR:Rs P ρ G (.blk b (cl [v0] T) :: μ3) rs vs):dieC P pn b T v0 D rs vs ch ρ' G μ' :=
 ⟨hd,x,μ3,hm.trans ht.perm,hR.congr he⟩
theorem dieC_ok {X:Cx} {f:FuncId} {b T:Nat} {pn pn':List PanicEntry} {v0:Value} {D:Prop} {rs:List ResultVar} {vs:List Value} (hf:goFn X.P f=true) (hr:X.fn.results=rs.toArray)
  (hc:∀ w x,w.heap[b]? = some (cl [x] T)→CallsD X.P f #[.pointer (some ⟨b,0,none⟩)] (.panicking pn) w (fun e u' w'=>(∃ v,e=.returned v)∧u'=.panicking pn'∧w'=w.setRow b #[v0])) (hs:settle (.panicking pn')=.returning)
  (hp:D→∀ G',X.post G' [] (tup vs)) :
  ∀ ch ρ G μ a w,dieC X.P pn b T v0 D rs vs ch ρ G μ→Ag ⟨X.n.n,[dfc f [.pointer (some ⟨b,0,none⟩)]],dieC X.P pn b T v0 D rs vs⟩ ρ a→Tr X.G0 X.K0 X.w0 G μ w→Leaves X.P X.fn a.tmps (RR X.post X.die X.G0 X.K0 X.w0) a.defers (.panicking ch) w:=by
 rintro ch ρ G μ a w ⟨⟨rfl,hD⟩,x,μ',hm,hR⟩ ha ht
 rw [ha.defers]
 have ht':Tr X.G0 X.K0 X.w0 G ([.blk b (cl [x] T)]++μ') w:=ht.perm hm
 have hb:w.heap[b]? = some (cl [x] T):=ht'.sat.own _ (List.mem_append_left _ (List.mem_singleton.2 rfl))
 have ht2:=ht'.step (Tr.setRow (cs':=[v0]) ht'.sat.left)
 refine leaves_cons (by simp) (f:=f) (args:=#[.pointer (some ⟨b,0,none⟩)]) (by simp [invoke,run_callFunc hf]) ((hc w x hb).mono ?_)
 rintro e u' w' ⟨⟨v,rfl⟩,rfl,rfl⟩
 show Leaves X.P X.fn a.tmps _ [] (settle (.panicking pn')) _
 rw [hs]
 exact ⟨_,results_run (by rw [hr]; exact hR) ha ht2.sat,.inl ⟨_,G,[],rfl,mN.tr ht2,hp hD G⟩⟩
theorem wk_dfrP {X:Cx} {k:List KI} {ρ:Env} {G:PM} {μ:Mem} {id:Nat} {l:List Oper} {f:FuncId} {x:Operand} {tys:Array TypeId} {t:Nat} {p:String} {af:Array Edge} {b T:Nat} {pn pn':List PanicEntry} {v0:Value} (D:Prop) {rs:List ResultVar} (vs:List Value)
  (hl:l=[⟨none,.defer { callee:=.value (.func f),args:=#[x],argTypes:=tys },t,p,af,none⟩]) (h0:X.n.ds=[]) (hx:ev ρ x=some (true,.pointer (some ⟨b,0,none⟩)))
  (hf:goFn X.P f=true) (hr:X.fn.results=rs.toArray)
  (hc:∀ w x,w.heap[b]? = some (cl [x] T)→CallsD X.P f #[.pointer (some ⟨b,0,none⟩)] (.panicking pn) w (fun e u' w'=>(∃ v,e=.returned v)∧u'=.panicking pn'∧w'=w.setRow b #[v0])) (hs:settle (.panicking pn')=.returning)
  (hp:D→∀ G',X.post G' [] (tup vs))
  (h:We (X.dfr (dfc f [.pointer (some ⟨b,0,none⟩)]) (dieC X.P pn b T v0 D rs vs) (dieC_ok hf hr hc hs hp)) .normal k ρ G μ):Wk X (.region id l.toArray false) k ρ G μ:=by
 subst hl
 refine Wk.defer [] 0 (dfc f [.pointer (some ⟨b,0,none⟩)]) _ (dieC_ok hf hr hc hs hp) rfl rfl h0 (.nil ⟨⟨_,rfl,rfl,rfl,fun a w ha=>?_⟩,h⟩)
 have hv:a.eval x=.pointer (some ⟨b,0,none⟩):=ha.eval hx rfl
 have hfn:a.eval (.func f)=.func (.func f) #[] #[]:=rfl
 simp [execOp,resolve,Deferred.ofValue,hv,hfn,dfc]
end Go.Tan
namespace Go.Proofs.YtbdnclpopappeaaDoor
open Go.Tan Go.RowKit
namespace FxTbA
theorem st9:strT Tryd.prog 9=true:=by kernel_rfl
theorem ag24:aggN Tryd.prog 24=some none:=by kernel_rfl
theorem ag5:aggN Tryd.prog 5=some none:=by kernel_rfl
theorem mix:Tryd.prog.follows .mixedOrders=true:=by kernel_rfl
theorem se36:slE Tryd.prog 36=some (5,1,1):=by kernel_rfl
theorem zv5:(Tryd.prog.info? 5).bind (·.zero)=some (.int .u8 0):=by kernel_rfl
theorem bs36_9:bsT Tryd.prog 36 9=true:=by kernel_rfl
theorem zq26:zrL Tryd.prog 26=some ([V 0#8,V 0#8,uv .u64 0#64,uv .u64 0#64,uv .u64 0#64]):=by kernel_rfl
theorem sz26:szT Tryd.prog 26=some 5:=by kernel_rfl
theorem ag26:aggN Tryd.prog 26=some (some 5):=by kernel_rfl
end FxTbA
namespace Fx
theorem fo43_0:fOff Tryd.prog 43 0=some 0:=by kernel_rfl
theorem ag9:aggN Tryd.prog 9=some none:=by kernel_rfl
theorem fo43_3:fOff Tryd.prog 43 3=some 3:=by kernel_rfl
theorem fo43_1:fOff Tryd.prog 43 1=some 1:=by kernel_rfl
theorem fo43_2:fOff Tryd.prog 43 2=some 2:=by kernel_rfl
theorem se31:slE Tryd.prog 31=some (43,4,48):=by kernel_rfl
theorem sn31:(slE Tryd.prog 31).isSome=true:=by kernel_rfl
theorem ag43:aggN Tryd.prog 43=some (some 4):=by kernel_rfl
theorem go40:goFn Tryd.prog 40=true:=by kernel_rfl
theorem go11:goFn Tryd.prog 11=true:=by kernel_rfl
theorem zr43:zrL Tryd.prog 43=some ([.string ByteArray.empty,.int .u64 0,.int .u8 0,.string ByteArray.empty]):=by kernel_rfl
theorem sz43:szT Tryd.prog 43=some 4:=by kernel_rfl
theorem fo38_0:fOff Tryd.prog 38 0=some 0:=by kernel_rfl
theorem fo38_1:fOff Tryd.prog 38 1=some 1:=by kernel_rfl
theorem fo38_2:fOff Tryd.prog 38 2=some 2:=by kernel_rfl
theorem fo38_3:fOff Tryd.prog 38 3=some 3:=by kernel_rfl
theorem bp26_0_1_2_3_4:bPl Tryd.prog 26 [0,1,2,3,4]=some ([V 0#8,V 0#8,uv .u64 0#64,uv .u64 0#64,uv .u64 0#64],[(0,1),(1,1),(2,1),(3,1),(4,1)]):=by kernel_rfl
end Fx
theorem eRight_ok (e:Ent) (G:PM):Ct Tryd.prog 11 ([e.val]:List Value).toArray G [] (fun _ μ' u=>μ'=[]∧u=.bool (rightE e)):=by
 refine Ct.of Tryd.func11 rfl Tryd.ntmps11 rfl fun w0 hs0=>?_
 refine .seq (rq2 rfl rfl ?_)
 refine bx rfl (.u rfl) rfl ?_; intro b1
 refine aS rfl rfl (.nil (.code (.seq (.block (.seq (.seq (rq5 rfl rfl (fz rfl .no Fx.fo43_0 (.u rfl) (ld rfl .no Fx.ag9 (.u rfl) (fun _=>Rd.own .here (by first|exact wap_f rfl|rfl)) ?_)))))))))
 refine ls rfl .no FxTbA.st9 (.u rfl) (cp rfl .no (.u rfl) (.u rfl) rfl (aS rfl rfl (.nil (.code (.cond rfl (fun c1=>?_) (fun c1=>?_))))))
 ·have c1k:=c1
  try simp only [qcA,qcC,qcB] at c1
  refine .skip (.code (Wk.condT rfl c1k ?_))
  refine .seq (rq1 rfl rfl (aS rfl rfl (.nil (.code (.ret (We.fin0 Tryd.results11 (.tmp rfl .nil) ?_))))))
  exact ⟨rfl,congrArg Value.bool (eR1 c1).symm⟩
 have c1k:=c1
 try simp only [qcA,qcC,qcB] at c1
 refine .seq (rq5 rfl rfl (fz rfl .no Fx.fo43_3 (.u rfl) (ld rfl .no Fx.ag9 (.u rfl) (fun _=>Rd.own .here (by first|exact wap_f rfl|rfl)) ?_)))
 refine ls rfl .no FxTbA.st9 (.u rfl) (cp rfl .no (.u rfl) (.u rfl) rfl (aS rfl rfl (.nil (.code (.cond rfl (fun c2=>?_) (fun c2=>?_))))))
 ·have c2k:=c2
  try simp only [qcA,qcC,qcB] at c2
  refine .skip (.code (Wk.condT rfl c2k ?_))
  refine .seq (rq1 rfl rfl (aS rfl rfl (.nil (.code (.ret (We.fin0 Tryd.results11 (.tmp rfl .nil) ?_))))))
  exact ⟨rfl,congrArg Value.bool (eR2 c2).symm⟩
 have c2k:=c2
 try simp only [qcA,qcC,qcB] at c2
 refine rq4 rfl rfl (fz rfl .no Fx.fo43_1 (.u rfl) (ld rfl .no FxTbA.ag24 (.u rfl) (fun _=>Rd.own .here (by first|exact wap_f rfl|rfl)) ?_))
 refine cp rfl .no (.u rfl) (.u rfl) rfl (aS rfl rfl (.nil (.code (.cond rfl (fun c3=>?_) (fun c3=>?_)))))
 ·have c3k:=c3
  try simp only [qcA,qcC,qcB] at c3
  refine .seq (rq1 rfl rfl (aS rfl rfl (.nil (.code (.ret (We.fin0 Tryd.results11 (.tmp rfl .nil) ?_))))))
  exact ⟨rfl,congrArg Value.bool (eR3 c3).symm⟩
 have c3k:=c3
 try simp only [qcA,qcC,qcB] at c3
 refine .seq (rq4 rfl rfl (fz rfl .no Fx.fo43_2 (.u rfl) (ld rfl .no FxTbA.ag5 (.u rfl) (fun _=>Rd.own .here (by first|exact wap_f rfl|rfl)) ?_)))
 refine cp rfl .no (.u rfl) (.u rfl) rfl (aS rfl rfl (.nil (.code (.cond rfl (fun c4=>?_) (fun c4=>?_)))))
 ·have c4k:=c4
  try simp only [qcA,qcC,qcB] at c4
  refine .seq (rq4 rfl rfl (fz rfl .no Fx.fo43_3 (.u rfl) (ld rfl .no Fx.ag9 (.u rfl) (fun _=>Rd.own .here (by first|exact wap_f rfl|rfl)) ?_)))
  refine cs rfl .no (.u rfl) (.u rfl) rfl (aS rfl rfl (.nil (.code (.ret (We.fin0 Tryd.results11 (.tmp rfl .nil) ?_)))))
  exact ⟨rfl,congrArg Value.bool (eR4 c1 c2 c3 c4).symm⟩
 have c4k:=c4
 try simp only [qcA,qcC,qcB] at c4
 refine .skip (.blk (.code (.seq (rq4 rfl rfl (fz rfl .no Fx.fo43_2 (.u rfl) (ld rfl .no FxTbA.ag5 (.u rfl) (fun _=>Rd.own .here (by first|exact wap_f rfl|rfl)) ?_))))))
 refine cp rfl .no (.u rfl) (.u rfl) rfl (aS rfl rfl (.nil (.code (.ret (We.fin0 Tryd.results11 (.tmp rfl .nil) ?_)))))
 exact ⟨rfl,congrArg Value.bool (eR5 c1 c2 c3 c4).symm⟩
theorem betw_ok (a b:ByteArray) (G:PM) (ha:a.size≤1000000):Ct Tryd.prog 26 ([.string a,.string b]:List Value).toArray G [] (fun _ μ' u=>μ'=[]∧u=.string (bstr (betwL (yb a) (yb b)))):=by
 refine Ct.of Tryd.func26 rfl Tryd.ntmps26 rfl fun w0 hs0=>?_
 refine .seq (rq1 rfl rfl (aS rfl rfl (.nil (.code (.seq (.seq (rq6 rfl rfl (mV rfl rfl (ls rfl .no FxTbA.st9 (.u rfl) (mV rfl rfl (ls rfl .no FxTbA.st9 (.u rfl) (mIn (a.size) (b.size) rfl .no (.u rfl) (.u rfl) (fun _=>by omega) (fun _=>by omega) ?_))))))))))))
 refine mV rfl rfl (.nil (.code (.block ?_)))
 refine Wk.lop (α:=Nat) (fun k=>[(11,true,.int .i64 (k:Int))]) (fun _=>[])
  (fun k Gl=>(k≤a.size∧k≤b.size)∧(∀ j,j<k→(yb a).getD j 0=(yb b).getD j 0)) (fun k=>a.size-k) 0 [(0,true,_),(1,true,_),(10,true,_)] []
  (esC rfl (by first|rfl|exact evi (by omega)) (esD rfl (esD rfl (esD rfl eZ))))
  mN ?_ ?_
 ·refine ⟨?_,?_⟩
  ·(try dsimp only)<;>(first|omega|rfl|assumption|(simp; done))
  (try dsimp only)<;>(exact fun j h=>absurd h (Nat.not_lt_zero _))
 intro k N0 Gl0 hN0 hGl0 hF0
 try dsimp only at hF0 hN0 ⊢
 obtain ⟨hk,hj⟩:=hF0
 refine .seq (rq1 rfl rfl (cp rfl .no (.u rfl) (.u rfl) rfl (.nil (.code (.seq (.cond rfl (fun c1=>?_) (fun c1=>?_)))))))
 ·have c1k:=c1
  try simp only [qcA,qcB] at c1
  refine .skip (.code (.seq (.block (.seq (rq2 rfl rfl (mV rfl rfl (aS rfl rfl (.nil (.code (.seq (.seq (Wk.draw (mc:=⟨false,false⟩) [0,1,2,3,4,5,6] FxTbA.mix (by kernel_rfl) ?_))))))))))))
  refine mV rfl rfl (mV rfl rfl (sI (k) rfl .no FxTbA.st9 (.u rfl) (.u rfl) (fun _=>by omega) (fun _=>by first|omega|(simp only [Bool.and_eq_true,decide_eq_true_eq] at hc; omega)) ?_))
  refine mV rfl rfl (mV rfl rfl (sI (k) rfl .no FxTbA.st9 (.u rfl) (.u rfl) (fun _=>by omega) (fun _=>by first|omega|(simp only [Bool.and_eq_true,decide_eq_true_eq] at hc; omega)) ?_))
  refine cp rfl .no (.u rfl) (.u rfl) rfl (.nil (.code (.cond rfl (fun c2=>?_) (fun c2=>?_))))
  ·have c2k:=c2
   try simp only [qcA,qcB] at c2
   refine .exit (.xcode (.xblk (.code (rq2 rfl rfl (arn (((k+1):Nat):Int) rfl .no (.u rfl) (.u rfl) rfl (fun _=>by omega) (fun _=>wrap_i64 (by omega) (by omega)) ?_)))))
   refine mV rfl rfl (.nil (We.lpo (k+1) ?_ ?_ ?_ ?_ ?_))
   ·exact (esC rfl (by first|rfl|exact evi (by omega)) (esD rfl (esD rfl (esD rfl eZ))))
   ·exact mN
   ·first|omega|(dsimp only; omega)
   ·exact hGl0
   refine ⟨?_,?_⟩
   ·(try dsimp only)<;>(first|omega|rfl|assumption|(simp; done))
   (try dsimp only)<;>(exact bt_snoc hj c2)
  have c2k:=c2
  try simp only [qcA,qcB] at c2
  refine .skip (.code (.seq (.seq (Wk.draw (mc:=⟨false,false⟩) [0,1,2,3,4,5,6,7,8,9,10,11,12,13,14,15,16] FxTbA.mix (by kernel_rfl) ?_))))
  refine mV rfl rfl (mV rfl rfl (sI (k) rfl .no FxTbA.st9 (.u rfl) (.u rfl) (fun _=>by omega) (fun _=>by first|omega|(simp only [Bool.and_eq_true,decide_eq_true_eq] at hc; omega)) ?_))
  refine mV rfl rfl (mV rfl rfl (sI (k) rfl .no FxTbA.st9 (.u rfl) (.u rfl) (fun _=>by omega) (fun _=>by first|omega|(simp only [Bool.and_eq_true,decide_eq_true_eq] at hc; omega)) ?_))
  refine cp rfl .no (.u rfl) (.u rfl) rfl (mV rfl rfl (mv rfl (.t rfl rfl) (.u rfl) (mv rfl (.t rfl rfl) (.u rfl) (sI (k) rfl (.t rfl rfl) FxTbA.st9 (.s rfl) (.s rfl) (fun hc=>by omega) (fun hc=>by first|omega|(simp only [Bool.and_eq_true,decide_eq_true_eq] at hc; omega)) ?_))))
  refine mv rfl (.t rfl rfl) (.u rfl) (mv rfl (.t rfl rfl) (.u rfl) (sI (k) rfl (.t rfl rfl) FxTbA.st9 (.s rfl) (.s rfl) (fun hc=>by omega) (fun hc=>by first|omega|(simp only [Bool.and_eq_true,decide_eq_true_eq] at hc; omega)) ?_))
  refine bw (k:=.u8) rfl (.t rfl rfl) rfl (.s rfl) (.s rfl) rfl (cp rfl (.t rfl rfl) (.s rfl) (.u rfl) rfl (pkA rfl .no (.u rfl) (.s rfl) (.nil (.code (.cond rfl (fun c3=>?_) (fun c3=>?_))))))
  ·have c3k:=c3
   try simp only [qcA,qcB] at c3
   refine .seq (Wk.draw (mc:=⟨false,false⟩) [0,1,2,3,4,5,6,7,8,9,10] FxTbA.mix (by kernel_rfl) ?_)
   refine mV rfl rfl (mV rfl rfl (sE (k) rfl .no FxTbA.st9 (.u rfl) (.u rfl) (fun _=>by omega) (fun _=>by omega) ?_))
   refine mV rfl rfl (mV rfl rfl (sI (k) rfl .no FxTbA.st9 (.u rfl) (.u rfl) (fun _=>by omega) (fun _=>by first|omega|(simp only [Bool.and_eq_true,decide_eq_true_eq] at hc; omega)) ?_))
   refine bw (k:=.u8) (b:=1#8) rfl .no rfl (.u rfl) (.u rfl) rfl ?_
   refine Go.Tan.b1 rfl FxTbA.se36 FxTbA.zv5 (.u rfl) rfl rfl (by decide) ?_; intro b45
   refine sB rfl .no FxTbA.bs36_9 (.u rfl) (fun _=>(Sc.one .here)) ?_
   refine sP rfl .no (.u rfl) (.u rfl) (fun _=>bt_room ha) ?_
   refine aS rfl rfl (.nil (.code (.ret (We.fin0 Tryd.results26 (.tmp rfl .nil) ?_))))
   exact ⟨rfl,congrArg Value.string (bt_yes (by omega) hj c3)⟩
  have c3k:=c3
  try simp only [qcA,qcB] at c3
  refine .skip (.code (.exit (.xnot rfl (.xcode (.xlp (.xblk (.code (.seq (rq2 rfl rfl (mV rfl rfl (aS rfl rfl (.nil (.code (.ret (We.fin0 Tryd.results26 (.tmp rfl .nil) ?_)))))))))))))))
  exact ⟨rfl,congrArg Value.string (bt_no (by omega) hj c2 c3k)⟩
 have c1k:=c1
 try simp only [qcA,qcB] at c1
 refine .exit (.xcode (.xlp (.xblk (.code (.seq (rq2 rfl rfl (mV rfl rfl (aS rfl rfl (.nil (.code (.ret (We.fin0 Tryd.results26 (.tmp rfl .nil) ?_))))))))))))
 exact ⟨rfl,congrArg Value.string (bt_end hk (by omega) hj)⟩
theorem idxE_ok (h:Sh) (l:List Ent) (G:PM) (hs:SlR G 4 Ent.cells h l) (hl:l.length≤100000000) (f:Nat) (hf:goFn Tryd.prog f=true) (vc:List Value) (p:Ent→Bool) (hc:∀ G',PM.le G G'→∀ m∈l,Ct Tryd.prog f ([m.val]++vc).toArray G' [] fun _ μ' u=>μ'=[]∧u=.bool (p m)):Ct Tryd.prog 40 ([h.val l.length,.func (.func f) #[] vc.toArray]:List Value).toArray G [] (fun _ μ' u=>μ'=[]∧u=.int .i64 (idxZ p l)):=by
 refine Ct.of Tryd.func40 rfl Tryd.ntmps40 rfl fun w0 hs0=>?_
 refine .seq (rq1 rfl rfl (aS rfl rfl (.nil (.code (.seq (.seq (rq3 rfl rfl (mV rfl rfl (ln rfl .no Fx.sn31 (.u rfl) (mV rfl rfl (.nil (.code (.block ?_)))))))))))))
 refine Wk.lop (α:=Nat) (fun k=>[(8,true,.int .i64 (k:Int))]) (fun _=>[])
  (fun k Gl=>(k≤l.length)∧(∀ j y,j<k→l[j]? = some y→p y=false)) (fun k=>l.length-k) 0 [(0,true,_),(1,true,_),(7,true,_)] []
  (esC rfl (by first|rfl|exact evi (by omega)) (esD rfl (esD rfl (esD rfl eZ))))
  mN ?_ ?_
 ·refine ⟨?_,?_⟩
  ·(try dsimp only)<;>(first|omega|rfl|assumption|(simp; done))
  (try dsimp only)<;>(exact fun j y h=>absurd h (Nat.not_lt_zero _))
 intro k N0 Gl0 hN0 hGl0 hF0
 try dsimp only at hF0 hN0 ⊢
 obtain ⟨hk,hno⟩:=hF0
 have hs:=hs.mono hGl0
 refine .seq (rq1 rfl rfl (cp rfl .no (.u rfl) (.u rfl) rfl (.nil (.code (.seq (.cond rfl (fun c1=>?_) (fun c1=>?_)))))))
 ·have c1k:=c1
  try simp only [qcA,qcB] at c1
  refine .skip (.code (.seq (.block (.seq (rq2 rfl rfl (mV rfl rfl (aS rfl rfl (.nil (.code (.seq (rq6 rfl rfl (mV rfl rfl (mV rfl rfl (mV rfl rfl (ih rfl .no Fx.se31 (.u rfl) (.u rfl) (fun _=>by omega) (fun _=>by omega) (fun _=>hs.nn (k:=k) (by first|omega|(simp only [Bool.and_eq_true,decide_eq_true_eq] at hc; omega)|(simp only [List.length_cons,List.length_nil]; omega))) ?_)))))))))))))))
  obtain ⟨x,ex⟩:=getx (k:=k) (xs:=l) (by omega)
  refine lA rfl .no Fx.ag43 (.u rfl) (fun _=>(hs.at (by omega) ex).rd) (fun _=>Ent.len _) ?_
  refine kf rfl .no (.u rfl) hf (Evc rfl Evn) (fun _=>hc _ hGl0 x (List.mem_of_getElem? ex)) ?_
  refine .nil (.code (.cond rfl (fun c2=>?_) (fun c2=>?_)))
  ·have c2k:=c2
   try simp only [qcA,qcB] at c2
   refine .seq (rq2 rfl rfl (mV rfl rfl (aS rfl rfl (.nil (.code (.ret (We.fin0 Tryd.results40 (.tmp rfl .nil) ?_)))))))
   exact ⟨rfl,idz_hit hno ex (by simpa using c2k)⟩
  have c2k:=c2
  try simp only [qcA,qcB] at c2
  refine .skip (.blk (.code (rq2 rfl rfl (arn (((k+1):Nat):Int) rfl .no (.u rfl) (.u rfl) rfl (fun _=>by omega) (fun _=>wrap_i64 (by omega) (by omega)) ?_))))
  refine mV rfl rfl (.nil (We.lpo (k+1) ?_ ?_ ?_ ?_ ?_))
  ·exact (esC rfl (by first|rfl|exact evi (by omega)) (esD rfl (esD rfl (esD rfl eZ))))
  ·exact mN
  ·first|omega|(dsimp only; omega)
  ·exact hGl0
  refine ⟨?_,?_⟩
  ·(try dsimp only)<;>(first|omega|rfl|assumption|(simp; done))
  (try dsimp only)<;>(exact idz_step hno ex (by simpa using c2k))
 have c1k:=c1
 try simp only [qcA,qcB] at c1
 refine .exit (.xcode (.xlp (.xblk (.code (.seq (rq1 rfl rfl (aS rfl rfl (.nil (.code (.ret (We.fin0 Tryd.results40 (.tmp rfl .nil) ?_)))))))))))
 exact ⟨rfl,idz_none hno (by omega)⟩
theorem contE_ok (h:Sh) (l:List Ent) (G:PM) (hs:SlR G 4 Ent.cells h l) (hl:l.length≤100000000) (f:Nat) (hf:goFn Tryd.prog f=true) (vc:List Value) (p:Ent→Bool) (hc:∀ G',PM.le G G'→∀ m∈l,Ct Tryd.prog f ([m.val]++vc).toArray G' [] fun _ μ' u=>μ'=[]∧u=.bool (p m)):Ct Tryd.prog 21 ([h.val l.length,.func (.func f) #[] vc.toArray]:List Value).toArray G [] (fun _ μ' u=>μ'=[]∧u=.bool (l.any p)):=by
 refine Ct.of Tryd.func21 rfl Tryd.ntmps21 rfl fun w0 hs0=>?_
 refine .seq (rq1 rfl rfl (aS rfl rfl (.nil (.code (.seq (rq5 rfl rfl (mV rfl rfl (mV rfl rfl (kv rfl .no Fx.go40 (Evc rfl (Evc rfl Evn)) (fun _=>idxE_ok h l _ hs hl f hf vc p hc) ?_)))))))))
 refine cp rfl .no (.u rfl) (.u rfl) rfl (aS rfl rfl (.nil (.code (.ret (We.fin0 Tryd.results21 (.tmp rfl .nil) ?_)))))
 exact ⟨rfl,congrArg Value.bool idz_ge⟩
theorem tBad_ok (e:Ent) (G:PM):Ct Tryd.prog 19 ([e.val]:List Value).toArray G [] (fun _ μ' u=>μ'=[]∧u=.bool (!rightE e)):=by
 refine Ct.of Tryd.func19 rfl Tryd.ntmps19 rfl fun w0 hs0=>?_
 refine .seq (rq2 rfl rfl ?_)
 refine bx rfl (.u rfl) rfl ?_; intro b1
 refine aS rfl rfl (.nil (.code (.seq (rq4 rfl rfl (lA rfl .no Fx.ag43 (.u rfl) (fun _=>RdN.own .here) (fun _=>(by first|rfl|exact Ent.len _)) ?_)))))
 refine kv rfl .no Fx.go11 (Evc rfl Evn) (fun _=>eRight_ok _ _) ?_
 refine nt rfl .no (.u rfl) (aS rfl rfl (.nil (.code (.ret (We.fin0 Tryd.results19 (.tmp rfl .nil) ?_)))))
 exact ⟨rfl,rfl⟩
theorem bBad_ok (e:Ent) (G:PM):Ct Tryd.prog 48 ([e.val]:List Value).toArray G [] (fun _ μ' u=>μ'=[]∧u=.bool (!rightE e)):=by
 refine Ct.of Tryd.func48 rfl Tryd.ntmps48 rfl fun w0 hs0=>?_
 refine .seq (rq2 rfl rfl ?_)
 refine bx rfl (.u rfl) rfl ?_; intro b1
 refine aS rfl rfl (.nil (.code (.seq (rq4 rfl rfl (lA rfl .no Fx.ag43 (.u rfl) (fun _=>RdN.own .here) (fun _=>(by first|rfl|exact Ent.len _)) ?_)))))
 refine kv rfl .no Fx.go11 (Evc rfl Evn) (fun _=>eRight_ok _ _) ?_
 refine nt rfl .no (.u rfl) (aS rfl rfl (.nil (.code (.ret (We.fin0 Tryd.results48 (.tmp rfl .nil) ?_)))))
 exact ⟨rfl,rfl⟩
theorem rises_ok (h:Sh) (l:List Ent) (G:PM) (hs:SlR G 4 Ent.cells h l) (hl:l.length≤10000000000000):Ct Tryd.prog 22 ([h.val l.length]:List Value).toArray G [] (fun _ μ' u=>μ'=[]∧u=.bool (risesE l)):=by
 refine Ct.of Tryd.func22 rfl Tryd.ntmps22 rfl fun w0 hs0=>?_
 refine .seq (rq1 rfl rfl (aS rfl rfl (.nil (.code (.seq (.seq (rq1 rfl rfl (aS rfl rfl (.nil (.code (.block ?_)))))))))))
 refine Wk.lop (α:=Nat) (fun k=>[(3,true,.int .i64 (k:Int))]) (fun _=>[])
  (fun k Gl=>(1≤k∧(k≤l.length∨l.length=0))∧(∀ j,j+1<k→aheadE (l.getD j Ent.zero) (l.getD (j+1) Ent.zero)=true)) (fun k=>l.length-k) 1 [(0,true,_)] []
  (esC rfl (by first|rfl|exact evi (by omega)) (esD rfl eZ))
  mN ?_ ?_
 ·refine ⟨?_,?_⟩
  ·(try dsimp only)<;>(first|omega|rfl|assumption|(simp; done))
  (try dsimp only)<;>(exact fun j h=>absurd h (by omega))
 intro k N0 Gl0 hN0 hGl0 hF0
 try dsimp only at hF0 hN0 ⊢
 obtain ⟨hk,hj⟩:=hF0
 have hs:=hs.mono hGl0
 refine .seq (.seq (rq4 rfl rfl (mV rfl rfl (mV rfl rfl (ln rfl .no Fx.sn31 (.u rfl) (cp rfl .no (.u rfl) (.u rfl) rfl (.nil (.code (.cond rfl (fun c1=>?_) (fun c1=>?_))))))))))
 ·have c1k:=c1
  try simp only [qcA,qcB] at c1
  refine .skip (.code (.seq (.block (.seq (Wk.mixp ⟨false,false⟩ FxTbA.mix (by kernel_rfl) ?_)))))
  refine Wp.one 0 (by kernel_rfl) ?_
  refine mV rfl rfl (.nil (Wp.one 1 (by kernel_rfl) ?_))
  refine mV rfl rfl (.nil (Wp.one 2 (by kernel_rfl) ?_))
  refine ar rfl .no (.u rfl) (.u rfl) rfl (fun _=>wrap_i64 (by omega) (by omega)) ?_
  refine .nil (Wp.one 3 (by kernel_rfl) ?_)
  refine ih rfl .no Fx.se31 (.u rfl) (.u rfl) (fun _=>by omega) (fun _=>by omega) (fun _=>hs.nn (k:=((((k:Nat):Int)-(1:Int))).toNat) (by first|omega|(simp only [Bool.and_eq_true,decide_eq_true_eq] at hc; omega)|(simp only [List.length_cons,List.length_nil]; omega))) ?_
  refine .nil (Wp.one 4 (by kernel_rfl) ?_)
  obtain ⟨x,ex⟩:=getx (k:=k-1) (xs:=l) (by omega)
  refine lA rfl .no Fx.ag43 (.u rfl) (fun _=>(hs.at (by omega) ex).rd) (fun _=>Ent.len _) ?_
  refine .nil (Wp.one 5 (by kernel_rfl) ?_)
  refine mV rfl rfl (.nil (Wp.one 6 (by kernel_rfl) ?_))
  refine mV rfl rfl (.nil (Wp.one 7 (by kernel_rfl) ?_))
  refine ih rfl .no Fx.se31 (.u rfl) (.u rfl) (fun _=>by omega) (fun _=>by omega) (fun _=>hs.nn (k:=k) (by first|omega|(simp only [Bool.and_eq_true,decide_eq_true_eq] at hc; omega)|(simp only [List.length_cons,List.length_nil]; omega))) ?_
  refine .nil (Wp.pr 8 (by kernel_rfl) ?_)
  obtain ⟨y,ey⟩:=getx (k:=k) (xs:=l) (by omega)
  refine lA rfl .no Fx.ag43 (.u rfl) (fun _=>(hs.at (by omega) ey).rd) (fun _=>Ent.len _) ?_
  refine .nil ⟨⟨rfl,rfl⟩,?_⟩
  refine Wp.b2 9 10 (by kernel_rfl) ?_ ?_
  ·refine al rfl Fx.zr43 ?_; intro b4
   refine .nil (Wp.b1 10 (by kernel_rfl) ?_)
   refine al rfl Fx.zr43 ?_; intro b5
   refine .nil (Wp.b1 11 (by kernel_rfl) ?_)
   refine sw rfl (.u rfl) (.u rfl) rfl Fx.sz43 tk1 (by first|rfl|exact Ent.len _) (Ent.one _) ?_
   refine .nil (Wp.b1 12 (by kernel_rfl) ?_)
   refine sw rfl (.u rfl) (.u rfl) rfl Fx.sz43 tk1 (by first|rfl|exact Ent.len _) (Ent.one _) ?_
   refine .nil (Wp.last (by kernel_rfl) ?_)
   refine .code (.seq (Wk.rg [0,1,2,3,4,5,6,7,8,9,10,11,12,13,14,15,16,17,18] rfl rfl (fz rfl .no Fx.fo43_0 (.u rfl) (ld rfl .no Fx.ag9 (.u rfl) (fun _=>Rd.own tk1 (by first|exact wap_f rfl|rfl)) ?_))))
   refine fz rfl .no Fx.fo43_0 (.u rfl) (ld rfl .no Fx.ag9 (.u rfl) (fun _=>Rd.own .here (by first|exact wap_f rfl|rfl)) ?_)
   refine cs rfl .no (.u rfl) (.u rfl) rfl (mV rfl rfl (fz rfl (.f rfl rfl) Fx.fo43_0 (.u rfl) (ld rfl (.f rfl rfl) Fx.ag9 (.s rfl) (fun hc=>Rd.own tk1 (by first|exact wap_f rfl|rfl)) ?_)))
   refine fz rfl (.f rfl rfl) Fx.fo43_0 (.u rfl) (ld rfl (.f rfl rfl) Fx.ag9 (.s rfl) (fun hc=>Rd.own .here (by first|exact wap_f rfl|rfl)) ?_)
   refine cs rfl (.f rfl rfl) (.s rfl) (.s rfl) rfl (mv rfl (.f rfl rfl) (.s rfl) (fz rfl (.tc rfl rfl) Fx.fo43_1 (.u rfl) (ld rfl (.tc rfl rfl) FxTbA.ag24 (.s rfl) (fun hc=>Rd.own tk1 (by first|exact wap_f rfl|rfl)) ?_)))
   refine fz rfl (.tc rfl rfl) Fx.fo43_1 (.u rfl) (ld rfl (.tc rfl rfl) FxTbA.ag24 (.s rfl) (fun hc=>Rd.own .here (by first|exact wap_f rfl|rfl)) ?_)
   refine cp rfl (.tc rfl rfl) (.s rfl) (.s rfl) rfl (pkA rfl (.f rfl rfl) (.s rfl) (.s rfl) (pkO rfl .no (.u rfl) (.s rfl) (.nil (.code (.cond rfl (fun c2=>?_) (fun c2=>?_))))))
   ·have c2k:=c2
    try simp only [qcA,qcB] at c2
    refine .seq (rq1 rfl rfl (aS rfl rfl (.nil (.code (.ret (We.fin0 Tryd.results22 (.tmp rfl .nil) ?_))))))
    exact ⟨rfl,congrArg Value.bool (ri_no hk.1 ex ey c2k).symm⟩
   have c2k:=c2
   try simp only [qcA,qcB] at c2
   refine .skip (.blk (.code (rq3 rfl rfl (mV rfl rfl (arn (((k+1):Nat):Int) rfl .no (.u rfl) (.u rfl) rfl (fun _=>by omega) (fun _=>wrap_i64 (by omega) (by omega)) ?_)))))
   refine aS rfl rfl (.nil (We.lpo (k+1) ?_ ?_ ?_ ?_ ?_))
   ·exact (esC rfl (by first|rfl|exact evi (by omega)) (esD rfl eZ))
   ·exact mN
   ·first|omega|(dsimp only; omega)
   ·exact hGl0
   refine ⟨?_,?_⟩
   ·(try dsimp only)<;>(first|omega|rfl|assumption|(simp; done))
   (try dsimp only)<;>(exact ri_step hk.1 hj ex ey c2k)
  refine al rfl Fx.zr43 ?_; intro b5
  refine .nil (Wp.b1 9 (by kernel_rfl) ?_)
  refine al rfl Fx.zr43 ?_; intro b4
  refine .nil (Wp.b1 11 (by kernel_rfl) ?_)
  refine sw rfl (.u rfl) (.u rfl) rfl Fx.sz43 .here (by first|rfl|exact Ent.len _) (Ent.one _) ?_
  refine .nil (Wp.b1 12 (by kernel_rfl) ?_)
  refine sw rfl (.u rfl) (.u rfl) rfl Fx.sz43 tk1 (by first|rfl|exact Ent.len _) (Ent.one _) ?_
  refine .nil (Wp.last (by kernel_rfl) ?_)
  refine .code (.seq (Wk.rg [0,1,2,3,4,5,6,7,8,9,10,11,12,13,14,15,16,17,18] rfl rfl (fz rfl .no Fx.fo43_0 (.u rfl) (ld rfl .no Fx.ag9 (.u rfl) (fun _=>Rd.own tk1 (by first|exact wap_f rfl|rfl)) ?_))))
  refine fz rfl .no Fx.fo43_0 (.u rfl) (ld rfl .no Fx.ag9 (.u rfl) (fun _=>Rd.own .here (by first|exact wap_f rfl|rfl)) ?_)
  refine cs rfl .no (.u rfl) (.u rfl) rfl (mV rfl rfl (fz rfl (.f rfl rfl) Fx.fo43_0 (.u rfl) (ld rfl (.f rfl rfl) Fx.ag9 (.s rfl) (fun hc=>Rd.own tk1 (by first|exact wap_f rfl|rfl)) ?_)))
  refine fz rfl (.f rfl rfl) Fx.fo43_0 (.u rfl) (ld rfl (.f rfl rfl) Fx.ag9 (.s rfl) (fun hc=>Rd.own .here (by first|exact wap_f rfl|rfl)) ?_)
  refine cs rfl (.f rfl rfl) (.s rfl) (.s rfl) rfl (mv rfl (.f rfl rfl) (.s rfl) (fz rfl (.tc rfl rfl) Fx.fo43_1 (.u rfl) (ld rfl (.tc rfl rfl) FxTbA.ag24 (.s rfl) (fun hc=>Rd.own tk1 (by first|exact wap_f rfl|rfl)) ?_)))
  refine fz rfl (.tc rfl rfl) Fx.fo43_1 (.u rfl) (ld rfl (.tc rfl rfl) FxTbA.ag24 (.s rfl) (fun hc=>Rd.own .here (by first|exact wap_f rfl|rfl)) ?_)
  refine cp rfl (.tc rfl rfl) (.s rfl) (.s rfl) rfl (pkA rfl (.f rfl rfl) (.s rfl) (.s rfl) (pkO rfl .no (.u rfl) (.s rfl) (.nil (.code (.cond rfl (fun c2=>?_) (fun c2=>?_))))))
  ·have c2k:=c2
   try simp only [qcA,qcB] at c2
   refine .seq (rq1 rfl rfl (aS rfl rfl (.nil (.code (.ret (We.fin0 Tryd.results22 (.tmp rfl .nil) ?_))))))
   exact ⟨rfl,congrArg Value.bool (ri_no hk.1 ex ey c2k).symm⟩
  have c2k:=c2
  try simp only [qcA,qcB] at c2
  refine .skip (.blk (.code (rq3 rfl rfl (mV rfl rfl (arn (((k+1):Nat):Int) rfl .no (.u rfl) (.u rfl) rfl (fun _=>by omega) (fun _=>wrap_i64 (by omega) (by omega)) ?_)))))
  refine aS rfl rfl (.nil (We.lpo (k+1) ?_ ?_ ?_ ?_ ?_))
  ·exact (esC rfl (by first|rfl|exact evi (by omega)) (esD rfl eZ))
  ·exact mN
  ·first|omega|(dsimp only; omega)
  ·exact hGl0
  refine ⟨?_,?_⟩
  ·(try dsimp only)<;>(first|omega|rfl|assumption|(simp; done))
  (try dsimp only)<;>(exact ri_step hk.1 hj ex ey c2k)
 have c1k:=c1
 try simp only [qcA,qcB] at c1
 refine .exit (.xcode (.xlp (.xblk (.code (.seq (rq1 rfl rfl (aS rfl rfl (.nil (.code (.ret (We.fin0 Tryd.results22 (.tmp rfl .nil) ?_)))))))))))
 exact ⟨rfl,congrArg Value.bool (ri_yes (by omega) hj).symm⟩
theorem cut_ok (h:Sh) (l:List Ent) (least:Int) (G:PM) (hs:SlR G 4 Ent.cells h l) (hw:wtE l≤100000000) (hl:l.length≤100000000):Ct Tryd.prog 24 ([h.val l.length,.int .i64 least]:List Value).toArray G [] (fun _ μ' u=>μ'=[]∧u=.int .i64 (cutA least 0 l:Int)):=by
 refine Ct.of Tryd.func24 rfl Tryd.ntmps24 rfl fun w0 hs0=>?_
 refine .seq (rq1 rfl rfl (aS rfl rfl (.nil (.code (.seq (rq1 rfl rfl (aS rfl rfl (.nil (.code (.seq (.seq (rq3 rfl rfl (mV rfl rfl (ln rfl .no Fx.sn31 (.u rfl) (mV rfl rfl (.nil (.code (.block ?_))))))))))))))))))
 refine Wk.lop (α:=Nat) (fun k=>[(5,true,.int .i64 (sumA l k)),(10,true,.int .i64 (k:Int))]) (fun _=>[])
  (fun k Gl=>(k≤l.length)∧(∀ j,j<k→sumA l (j+1)<least)) (fun k=>l.length-k) 0 [(0,true,_),(1,true,_),(8,true,_),(9,true,_)] []
  (esC rfl (by first|rfl|exact evi (by omega)) (esC rfl (by first|rfl|exact evi (by omega)) (esD rfl (esD rfl (esD rfl (esD rfl eZ))))))
  mN ?_ ?_
 ·refine ⟨?_,?_⟩
  ·(try dsimp only)<;>(first|omega|rfl|assumption|(simp; done))
  (try dsimp only)<;>(exact fun j h=>absurd h (Nat.not_lt_zero _))
 intro k N0 Gl0 hN0 hGl0 hF0
 try dsimp only at hF0 hN0 ⊢
 obtain ⟨hk,hj⟩:=hF0
 have hs:=hs.mono hGl0
 have h1:=sumA_le hw hl (k:=k) (by omega)
 refine .seq (rq1 rfl rfl (cp rfl .no (.u rfl) (.u rfl) rfl (.nil (.code (.seq (.cond rfl (fun c1=>?_) (fun c1=>?_)))))))
 ·have c1k:=c1
  try simp only [qcA,qcB] at c1
  refine .skip (.code (.seq (.block (.seq (rq6 rfl rfl (mV rfl rfl (ih rfl .no Fx.se31 (.u rfl) (.u rfl) (fun _=>by omega) (fun _=>by omega) (fun _=>hs.nn (k:=k) (by first|omega|(simp only [Bool.and_eq_true,decide_eq_true_eq] at hc; omega)|(simp only [List.length_cons,List.length_nil]; omega))) ?_)))))))
  obtain ⟨x,ex⟩:=getx (k:=k) (xs:=l) (by omega)
  refine lA rfl .no Fx.ag43 (.u rfl) (fun _=>(hs.at (by omega) ex).rd) (fun _=>Ent.len _) ?_
  refine al rfl Fx.zr43 ?_; intro b7
  refine aS rfl rfl (sw rfl (.u rfl) (.u rfl) rfl Fx.sz43 .here (by first|rfl|exact Ent.len _) (Ent.one _) ?_)
  refine .nil (.code (.seq (Wk.rg [0,1,2,3,4,5,6,7,8,9,10] rfl rfl (mV rfl rfl (fz rfl .no Fx.fo43_0 (.u rfl) (ld rfl .no Fx.ag9 (.u rfl) (fun _=>Rd.own .here (by first|exact wap_f rfl|rfl)) ?_))))))
  refine ls rfl .no FxTbA.st9 (.u rfl) (fz rfl .no Fx.fo43_3 (.u rfl) (ld rfl .no Fx.ag9 (.u rfl) (fun _=>Rd.own .here (by first|exact wap_f rfl|rfl)) ?_))
  refine ls rfl .no FxTbA.st9 (.u rfl) ?_
  have hn:=sumA_next ex
  have h2:=sumA_le hw hl (k:=k+1) (by omega)
  refine arn (((x.user.size+x.value.size):Nat):Int) rfl .no (.u rfl) (.u rfl) rfl (fun _=>by omega) (fun _=>wrap_i64 (by omega) (by omega)) ?_
  refine arn ((((x.user.size+x.value.size)+8):Nat):Int) rfl .no (.u rfl) (.u rfl) rfl (fun _=>by omega) (fun _=>wrap_i64 (by omega) (by omega)) ?_
  refine ar rfl .no (.u rfl) (.u rfl) rfl (fun _=>wrap_i64 (by omega) (by omega)) ?_
  refine aS rfl rfl (.nil (.code (.seq (rq3 rfl rfl (mV rfl rfl (mV rfl rfl (cp rfl .no (.u rfl) (.u rfl) rfl (.nil (.code (.cond rfl (fun c2=>?_) (fun c2=>?_)))))))))))
  ·have c2k:=c2
   try simp only [qcA,qcB] at c2
   refine .seq (rq3 rfl rfl (mV rfl rfl (arn (((k+1):Nat):Int) rfl .no (.u rfl) (.u rfl) rfl (fun _=>by omega) (fun _=>wrap_i64 (by omega) (by omega)) ?_)))
   refine aS rfl rfl (.nil (.code (.ret (We.fin0 Tryd.results24 (.tmp rfl .nil) ?_))))
   exact ⟨rfl,by rw [cutA_at least l 0 k (by omega) (fun j h=>by have:=hj j h; omega) (by omega)]; rfl⟩
  have c2k:=c2
  try simp only [qcA,qcB] at c2
  refine .skip (.blk (.code (rq2 rfl rfl (arn (((k+1):Nat):Int) rfl .no (.u rfl) (.u rfl) rfl (fun _=>by omega) (fun _=>wrap_i64 (by omega) (by omega)) ?_))))
  refine mV rfl rfl (.nil (We.lpo (k+1) ?_ ?_ ?_ ?_ ?_))
  ·exact (esC rfl (evi (by omega)) (esC rfl (by first|rfl|exact evi (by omega)) (esD rfl (esD rfl (esD rfl (esD rfl eZ))))))
  ·exact mN
  ·first|omega|(dsimp only; omega)
  ·exact hGl0
  refine ⟨?_,?_⟩
  ·(try dsimp only)<;>(first|omega|rfl|assumption|(simp; done))
  (try dsimp only)<;>(exact cut_snoc hj (by omega))
 have c1k:=c1
 try simp only [qcA,qcB] at c1
 refine .exit (.xcode (.xlp (.xblk (.code (.seq (rq3 rfl rfl (mV rfl rfl (ln rfl .no Fx.sn31 (.u rfl) (aS rfl rfl (.nil (.code (.ret (We.fin0 Tryd.results24 (.tmp rfl .nil) ?_)))))))))))))
 exact ⟨rfl,by rw [cutA_all least l 0 (fun j h=>by have:=hj j (by omega); omega)]; rfl⟩
theorem tHead_ok (m:Meta) (G:PM) (hw:m.wf):Ct Tryd.prog 16 ([m.val]:List Value).toArray G [] (fun _ μ' u=>μ'=[]∧u=.agg ((hdM m).cells).toArray):=by
 refine Ct.of Tryd.func16 rfl Tryd.ntmps16 rfl fun w0 hs0=>?_
 refine .seq (rq2 rfl rfl ?_)
 refine bx rfl (.u rfl) rfl ?_; intro b1
 refine al rfl FxTbA.zq26 ?_; intro b2
 refine .nil (.code (.seq (rq10 rfl rfl (fz rfl .no Fx.fo38_0 (.u rfl) (ld rfl .no FxTbA.ag5 (.u rfl) (fun _=>Rd.own tk1 (by first|exact wap_f rfl|rfl)) ?_)))))
 refine fz rfl .no Fx.fo38_1 (.u rfl) (ld rfl .no FxTbA.ag24 (.u rfl) (fun _=>Rd.own tk1 (by first|exact wap_f rfl|rfl)) ?_)
 refine fz rfl .no Fx.fo38_2 (.u rfl) (ld rfl .no FxTbA.ag24 (.u rfl) (fun _=>Rd.own tk1 (by first|exact wap_f rfl|rfl)) ?_)
 refine fz rfl .no Fx.fo38_3 (.u rfl) (ld rfl .no FxTbA.ag24 (.u rfl) (fun _=>Rd.own tk1 (by first|exact wap_f rfl|rfl)) ?_)
 refine bC rfl .no Fx.bp26_0_1_2_3_4 (.cons (.u rfl) rfl (.cons (.u rfl) rfl (.cons (.u rfl) rfl (.cons (.u rfl) rfl (.cons (.u rfl) rfl .nil))))) rfl ?_
 refine sw rfl (.u rfl) (.u rfl) rfl FxTbA.sz26 .here (by first|rfl|exact Meta.len _) (one5 rfl rfl rfl rfl rfl) ?_
 refine .nil (.code (.ret (We.fin0 Tryd.results16 (.cell rfl (fun w hw=>run_loadVarN FxTbA.ag26 (RdN.own .here) ((by first|rfl|exact Meta.len _)) hw) .nil) ?_)))
 exact ⟨rfl,by rw [← hd_cells hw]; rfl⟩
namespace Fx
theorem cv3_105:cvK Tryd.prog 3 105=some .u64:=by kernel_rfl
theorem go62:goFn Tryd.prog 62=true:=by kernel_rfl
end Fx
theorem rot_ok (x:W) (k:Int) (G:PM):Ct Tryd.prog 62 ([U x,.int .i64 k]:List Value).toArray G [] (fun _ μ' u=>μ'=[]∧u=U (rotI x k)):=by
 refine Ct.of Tryd.func62 rfl Tryd.ntmps62 rfl fun w0 hs0=>?_
 refine .seq (rq1 rfl rfl (aS rfl rfl (.nil (.code (.seq (rq4 rfl rfl (mV rfl rfl (ci rfl .no rfl Fx.cv3_105 (.u rfl) ?_))))))))
 refine bw (k:=.u64) (b:=31#64) rfl .no rfl (.u rfl) (.u rfl) rfl (aS rfl rfl (.nil (.code (.seq (rq9 rfl rfl (mV rfl rfl (mV rfl rfl (lw (k:=.u32) rfl .no rfl (.u rfl) (.u rfl) (fun _=>Int.natCast_nonneg _) ?_))))))))
 refine mV rfl rfl (mV rfl rfl (bw (k:=.u64) (a:=32#64) rfl .no rfl (.u rfl) (.u rfl) rfl (rw' (k:=.u32) rfl .no (.u rfl) (.u rfl) (fun _=>Int.natCast_nonneg _) ?_)))
 refine bw (k:=.u32) rfl .no rfl (.u rfl) (.u rfl) rfl (aS rfl rfl (.nil (.code (.ret (We.fin0 Tryd.results62 (.tmp rfl .nil) ?_)))))
 exact ⟨rfl,rfl⟩
theorem mix_ok (a b c d:W) (G:PM):Ct Tryd.prog 90 ([U a,U b,U c,U d]:List Value).toArray G [] (fun _ μ' u=>μ'=[]∧u=mixV (mixW a b c d)):=by
 refine Ct.of Tryd.func90 rfl Tryd.ntmps90 rfl fun w0 hs0=>?_
 refine .seq (rq4 rfl rfl (aS rfl rfl (aS rfl rfl (aS rfl rfl (aS rfl rfl (.nil (.code (.seq (rq4 rfl rfl (mV rfl rfl (mV rfl rfl (bw (k:=.u32) rfl .no rfl (.u rfl) (.u rfl) rfl (aS rfl rfl (.nil (.code (.seq (rq5 rfl rfl (mV rfl rfl (mV rfl rfl (bw (k:=.u32) rfl .no rfl (.u rfl) (.u rfl) rfl (kv rfl .no Fx.go62 (Evc rfl (Evc rfl Evn)) (fun _=>rot_ok _ _ _) ?_)))))))))))))))))))))
 refine aS rfl rfl (.nil (.code (.seq (rq4 rfl rfl (mV rfl rfl (mV rfl rfl (bw (k:=.u32) rfl .no rfl (.u rfl) (.u rfl) rfl (aS rfl rfl (.nil (.code (.seq (rq5 rfl rfl (mV rfl rfl (mV rfl rfl (bw (k:=.u32) rfl .no rfl (.u rfl) (.u rfl) rfl (kv rfl .no Fx.go62 (Evc rfl (Evc rfl Evn)) (fun _=>rot_ok _ _ _) ?_))))))))))))))))
 refine aS rfl rfl (.nil (.code (.seq (rq4 rfl rfl (mV rfl rfl (mV rfl rfl (bw (k:=.u32) rfl .no rfl (.u rfl) (.u rfl) rfl (aS rfl rfl (.nil (.code (.seq (rq5 rfl rfl (mV rfl rfl (mV rfl rfl (bw (k:=.u32) rfl .no rfl (.u rfl) (.u rfl) rfl (kv rfl .no Fx.go62 (Evc rfl (Evc rfl Evn)) (fun _=>rot_ok _ _ _) ?_))))))))))))))))
 refine aS rfl rfl (.nil (.code (.seq (rq4 rfl rfl (mV rfl rfl (mV rfl rfl (bw (k:=.u32) rfl .no rfl (.u rfl) (.u rfl) rfl (aS rfl rfl (.nil (.code (.seq (rq5 rfl rfl (mV rfl rfl (mV rfl rfl (bw (k:=.u32) rfl .no rfl (.u rfl) (.u rfl) rfl (kv rfl .no Fx.go62 (Evc rfl (Evc rfl Evn)) (fun _=>rot_ok _ _ _) ?_))))))))))))))))
 refine aS rfl rfl (.nil (.code (.seq (rq8 rfl rfl (mV rfl rfl (mV rfl rfl (mV rfl rfl (mV rfl rfl (aS rfl rfl (aS rfl rfl (aS rfl rfl (aS rfl rfl (.nil (.code (.ret (We.fin0 Tryd.results90 (.tmp rfl (.tmp rfl (.tmp rfl (.tmp rfl .nil)))) ?_))))))))))))))))
 exact ⟨rfl,rfl⟩
namespace Fx
theorem se168:slE Tryd.prog 168=some (126,1,4):=by kernel_rfl
theorem sn168:(slE Tryd.prog 168).isSome=true:=by kernel_rfl
theorem mix:Tryd.prog.follows .mixedOrders=true:=by kernel_rfl
theorem ag126:aggN Tryd.prog 126=some none:=by kernel_rfl
theorem se36:slE Tryd.prog 36=some (5,1,1):=by kernel_rfl
theorem ag5:aggN Tryd.prog 5=some none:=by kernel_rfl
theorem cv5_126:cvK Tryd.prog 5 126=some .u32:=by kernel_rfl
theorem sz126:szT Tryd.prog 126=some 1:=by kernel_rfl
theorem zq156:zrL Tryd.prog 156=some (ba 64 (fun _=>0#8)):=by kernel_rfl
theorem bp166_0_1_2_3:bPl Tryd.prog 166 [0,1,2,3]=some ([.int .u32 0,.int .u32 0,.int .u32 0,.int .u32 0,.int .u32 0,.int .u32 0,.int .u32 0,.int .u32 0,.int .u32 0,.int .u32 0,.int .u32 0,.int .u32 0,.int .u32 0,.int .u32 0,.int .u32 0,.int .u32 0],[(0,1),(1,1),(2,1),(3,1)]):=by kernel_rfl
theorem zr166:zrL Tryd.prog 166=some ([.int .u32 0,.int .u32 0,.int .u32 0,.int .u32 0,.int .u32 0,.int .u32 0,.int .u32 0,.int .u32 0,.int .u32 0,.int .u32 0,.int .u32 0,.int .u32 0,.int .u32 0,.int .u32 0,.int .u32 0,.int .u32 0]):=by kernel_rfl
theorem sz166:szT Tryd.prog 166=some 16:=by kernel_rfl
theorem ar166:arE Tryd.prog 166=some (16,126,1):=by kernel_rfl
theorem ar22:arE Tryd.prog 22=some (32,5,1):=by kernel_rfl
theorem go89:goFn Tryd.prog 89=true:=by kernel_rfl
theorem ar112:arE Tryd.prog 112=some (12,5,1):=by kernel_rfl
theorem ag166:aggN Tryd.prog 166=some (some 16):=by kernel_rfl
theorem go90:goFn Tryd.prog 90=true:=by kernel_rfl
theorem cv126_5:cvK Tryd.prog 126 5=some .u8:=by kernel_rfl
theorem ar156:arE Tryd.prog 156=some (64,5,1):=by kernel_rfl
theorem sz5:szT Tryd.prog 5=some 1:=by kernel_rfl
theorem ag156:aggN Tryd.prog 156=some (some 64):=by kernel_rfl
theorem sz156:szT Tryd.prog 156=some 64:=by kernel_rfl
end Fx
theorem words_ok (y:Nat→W) (f:Nat→Y) (m bt bk off n cap kn:Nat) (T T2:TypeId) (G:PM) (hm:off+n≤m) (hk4:4*n≤kn) (hn:n≤1000):Ct Tryd.prog 89 ([(Sh.mk (some ⟨bt,off,none⟩) cap).val n,(Sh.mk (some ⟨bk,0,none⟩) kn).val kn]:List Value).toArray G ([.blk bt (cl (wa m y) T),.blk bk (cl (ba kn f) T2)]:Mem) (fun G' μ' u=>μ'=[.blk bt (cl (wa m (setW y f off n)) T),.blk bk (cl (ba kn f) T2)]∧u=.tuple #[]):=by
 refine Ct.of Tryd.func89 rfl Tryd.ntmps89 rfl fun w0 hs0=>?_
 refine .seq (rq3 rfl rfl (mV rfl rfl (ln rfl .no Fx.sn168 (.u rfl) (mV rfl rfl (.nil (.code (.block ?_)))))))
 refine Wk.lop (α:=Nat) (fun i=>[(8,true,.int .i64 (i:Int))]) (fun i=>[.blk bt (cl (wa m (setW y f off i)) T)])
  (fun i Gl=>i≤n) (fun i=>n-i) 0 [(0,true,_),(1,true,_),(7,true,_)] [.blk bk _]
  (esD rfl (esD rfl (esD rfl (esD rfl eZ))))
  (mS .here rfl (mS .here rfl mN)) ?_ ?_
 ·show 0≤n; omega
 intro i N0 Gl0 hN0 hGl0 hF0
 try dsimp only at hF0 hN0 ⊢
 have hi:i≤n:=hF0
 refine .seq (rq1 rfl rfl (cp rfl .no (.u rfl) (.u rfl) rfl (.nil (.code (.seq (.cond rfl (fun c1=>?_) (fun c1=>?_)))))))
 ·have c1k:=c1
  try simp only [qcA] at c1
  refine .skip (.code (.seq (.block (.seq (rq2 rfl rfl (mV rfl rfl (aS rfl rfl (.nil (.code (.seq (rq1 rfl rfl (aS rfl rfl (.nil (.code (.block ?_)))))))))))))))
  refine Wk.lop (α:=Nat) (fun c=>[(5,true,.int .i64 (3-(c:Int)))]) (fun c=>[.blk bt (cl (wa m (upd (setW y f off i) (off+i) (shW (setW y f off i (off+i)) f i c))) T)])
   (fun c Gl=>c≤4) (fun c=>4-c) 0 [(0,true,_),(1,true,_),(4,true,_),(7,true,_),(8,true,_)] [.blk bk _]
   (esD rfl (esD rfl (esD rfl (esD rfl (esD rfl (esD rfl eZ))))))
   (mS .here ws_start (mS .here rfl mN)) ?_ ?_
  ·show 0≤4; omega
  intro c N1 Gl1 hN1 hGl1 hF1
  try dsimp only at hF1 hN1 ⊢
  have hc:c≤4:=hF1
  refine .seq (.seq (rq2 rfl rfl (mV rfl rfl (cp rfl .no (.u rfl) (.u rfl) rfl (.nil (.code (.cond rfl (fun c2=>?_) (fun c2=>?_))))))))
  ·have c2k:=c2
   try simp only [qcA] at c2
   refine .skip (.code (.seq (.block (Wk.draw (mc:=⟨false,false⟩) [0,1,2,3,4,5,6,7,8,9,10,11,12,13,14,15,16,17] Fx.mix (by kernel_rfl) ?_))))
   refine mV rfl rfl (mV rfl rfl (mV rfl rfl (mV rfl rfl (ih rfl .no Fx.se168 (.u rfl) (.u rfl) (fun _=>by omega) (fun _=>by omega) (fun _=>rfl) ?_))))
   refine ld rfl .no Fx.ag126 (.u rfl) (fun _=>Rd.own .here (wa_at1 (off+i) (by show off+_*1=off+i; omega) (by omega))) ?_
   refine lw (k:=.u32) rfl .no rfl (.u rfl) (.u rfl) (fun _=>by decide) ?_
   refine mV rfl rfl (mV rfl rfl (ar rfl .no (.u rfl) (.u rfl) rfl (fun _=>wrap_i64 (by omega) (by omega)) ?_))
   refine mV rfl rfl (ar rfl .no (.u rfl) (.u rfl) rfl (fun _=>wrap_i64 (by omega) (by omega)) ?_)
   refine ih rfl .no Fx.se36 (.u rfl) (.u rfl) (fun _=>by omega) (fun _=>by omega) (fun _=>rfl) ?_
   refine ld rfl .no Fx.ag5 (.u rfl) (fun _=>Rd.own tk1 (ba_at1 (4*i+(3-c)) (by show 0+_*1=_; omega) (by omega))) ?_
   refine cu (k:=.u8) rfl .no rfl Fx.cv5_126 (.u rfl) ?_
   refine bw (k:=.u32) rfl .no rfl (.u rfl) (.u rfl) rfl (ih rfl .no Fx.se168 (.u rfl) (.u rfl) (fun _=>by omega) (fun _=>by omega) (fun _=>rfl) ?_)
   refine s1 rfl (.u rfl) (.u rfl) rfl Fx.sz126 .here (by rw [wa_len]; show off+_*1<m; omega) (wa_set1 (off+i) (by show off+_*1=off+i; omega)) ?_
   refine .nil (.blk (.code (rq3 rfl rfl (mV rfl rfl (ar rfl .no (.u rfl) (.u rfl) rfl (fun _=>wrap_i64 (by omega) (by omega)) ?_)))))
   refine aS rfl rfl (.nil (We.lpo (c+1) ?_ ?_ ?_ ?_ ?_))
   ·exact (esC rfl (congrArg _ (by omega)) (esD rfl (esD rfl (esD rfl (esD rfl (esD rfl eZ))))))
   ·exact (mS .here (ws_step (by rw [upd_at]; rfl)) (mS .here rfl mN))
   ·first|omega|(dsimp only; omega)
   ·exact hGl1
   show c+1≤4; omega
  have c2k:=c2
  try simp only [qcA] at c2
  refine .exit (.xcode (.xlp (.xblk (.blk (.code (rq2 rfl rfl (ar rfl .no (.u rfl) (.u rfl) rfl (fun _=>wrap_i64 (by omega) (by omega)) ?_)))))))
  refine mV rfl rfl (.nil (We.lpo (i+1) ?_ ?_ ?_ ?_ ?_))
  ·exact (esD rfl (esD rfl (esD rfl (esD rfl eZ))))
  ·exact (mS .here (ws_end (by omega)) (mS .here rfl mN))
  ·first|omega|(dsimp only; omega)
  ·exact hGl0.trans hGl1
  show i+1≤n; omega
 have c1k:=c1
 try simp only [qcA] at c1
 refine .exit (.xcode (.xlp (.xblk (.nil (We.fin Tryd.results89 .nil (mS .here rfl (mS .here rfl mN)) ?_)))))
 obtain rfl:i=n:=by omega
 exact ⟨rfl,rfl⟩
theorem Block_ok (key nonce:Nat→Y) (count:W) (G:PM):Ct Tryd.prog 81 ([.agg (ba 32 key).toArray,.agg (ba 12 nonce).toArray,U count]:List Value).toArray G [] (fun _ μ' u=>μ'=[]∧u=.agg (ba 64 (chaB key nonce count)).toArray):=by
 refine Ct.of Tryd.func81 rfl Tryd.ntmps81 rfl fun w0 hs0=>?_
 refine .seq (rq3 rfl rfl ?_)
 refine bx rfl (.u rfl) rfl ?_; intro b3
 refine bx rfl (.u rfl) rfl ?_; intro b4
 refine al rfl Fx.zq156 ?_; intro b6
 refine .nil (.code (.seq (rq3 rfl rfl (bC rfl .no Fx.bp166_0_1_2_3 (.cons (.u rfl) rfl (.cons (.u rfl) rfl (.cons (.u rfl) rfl (.cons (.u rfl) rfl .nil)))) rfl ?_))))
 refine al rfl Fx.zr166 ?_; intro b7
 refine sw rfl (.u rfl) (.u rfl) rfl Fx.sz166 .here rfl (by decide) ?_
 refine .nil (.code (.seq (Wk.draw (mc:=⟨true,false⟩) [0,1,2] Fx.mix (by kernel_rfl) ?_)))
 refine sab rfl .no Fx.ar166 (.u rfl) (.u rfl) (.u rfl) (fun _=>by decide) (fun _=>by decide) (fun _=>by decide) (fun _=>by decide) ?_
 refine sa0 rfl .no Fx.ar22 (.u rfl) (ka rfl (.inl rfl) Fx.go89 (Evc rfl (Evc rfl Evn)) (take2 .here tk2) (words_ok (x0) key 16 b7 b3 4 8 12 32 166 22 _ (by decide) (by decide) (by decide)) ?_)
 rintro u G2 μ2 hG2 ⟨rfl,rfl⟩
 simp only [lay,List.cons_append,List.nil_append,setW_x1,setW_x2]
 refine .nil (.code (.seq (rq3 rfl rfl (mV rfl rfl (iA rfl .no Fx.ar166 (.u rfl) (.u rfl) (fun _=>by decide) (fun _=>by decide) ?_)))))
 refine s1 rfl (.u rfl) (.u rfl) rfl Fx.sz126 .here (by rw [wa_len]; decide) (wa_set1 12 rfl) ?_
 refine .nil (.code (.seq (Wk.draw (mc:=⟨true,false⟩) [0,1,2] Fx.mix (by kernel_rfl) ?_)))
 refine sal rfl .no Fx.ar166 (.u rfl) (.u rfl) (fun _=>by decide) (fun _=>by decide) ?_
 refine sa0 rfl .no Fx.ar112 (.u rfl) (ka rfl (.inl rfl) Fx.go89 (Evc rfl (Evc rfl Evn)) (take2 .here tk2) (words_ok (upd (x1 key 8) 12 count) nonce 16 b7 b4 13 3 3 12 166 112 _ (by decide) (by decide) (by decide)) ?_)
 rintro u G2 μ2 hG2 ⟨rfl,rfl⟩
 simp only [lay,List.cons_append,List.nil_append,setW_x1,setW_x2]
 refine .nil (.code (.seq (rq3 rfl rfl (lA rfl .no Fx.ag166 (.u rfl) (fun _=>RdN.own .here) (fun _=>rfl) ?_))))
 refine al rfl Fx.zr166 ?_; intro b8
 refine sw rfl (.u rfl) (.u rfl) rfl Fx.sz166 .here rfl (wa_one _ _) ?_
 refine .nil (.code (.seq (.seq (rq1 rfl rfl (mV rfl rfl (.nil (.code (.block ?_))))))))
 refine Wk.lop (α:=Nat) (fun r=>[(24,true,.int .i64 (r:Int))]) (fun r=>[.blk b8 (cl (wa 16 (rounds (x2 key nonce count 3) r)) 166)])
  (fun r Gl=>r≤10) (fun r=>10-r) 0 [(6,true,_),(7,true,_),(8,true,_)] [.blk b7 _,.blk b4 _,.blk b3 _,.blk b6 _]
  (esD rfl (esD rfl (esD rfl (esD rfl eZ))))
  (mS .here rfl (mS .here rfl (mS .here rfl (mS .here rfl (mS .here rfl mN))))) ?_ ?_
 ·show 0≤10; omega
 intro r N0 Gl0 hN0 hGl0 hF0
 try dsimp only at hF0 hN0 ⊢
 have hr:r≤10:=hF0
 refine .seq (rq1 rfl rfl (cp rfl .no (.u rfl) (.u rfl) rfl (.nil (.code (.seq (.cond rfl (fun c1=>?_) (fun c1=>?_)))))))
 ·have c1k:=c1
  try simp only [qcA] at c1
  refine .skip (.code (.seq (.block (.seq (.seq (rq1 rfl rfl (mV rfl rfl (.nil (.code (.block ?_))))))))))
  refine Wk.lop (α:=Nat) (fun q=>[(26,true,.int .i64 (q:Int))]) (fun q=>[.blk b8 (cl (wa 16 (colsM (rounds (x2 key nonce count 3) r) q)) 166)])
   (fun q Gl=>q≤4) (fun q=>4-q) 0 [(6,true,_),(7,true,_),(8,true,_),(24,true,_)] [.blk b7 _,.blk b4 _,.blk b3 _,.blk b6 _]
   (esD rfl (esD rfl (esD rfl (esD rfl (esD rfl eZ)))))
   (mS .here rfl (mS .here rfl (mS .here rfl (mS .here rfl (mS .here rfl mN))))) ?_ ?_
  ·show 0≤4; omega
  intro q N1 Gl1 hN1 hGl1 hF1
  try dsimp only at hF1 hN1 ⊢
  have hq:q≤4:=hF1
  refine .seq (rq1 rfl rfl (cp rfl .no (.u rfl) (.u rfl) rfl (.nil (.code (.seq (.cond rfl (fun c2=>?_) (fun c2=>?_)))))))
  ·have c2k:=c2
   try simp only [qcA] at c2
   refine .skip (.code (.seq (.block (.seq (rq2 rfl rfl (mV rfl rfl (aS rfl rfl (.nil (.code (Wk.draw (mc:=⟨false,false⟩) [0,1,2,3,4,5,6,7,8,9,10,11,12,13,14,15,16,17,18,19,20,21,22,23,24,25,26,27,28,29,30,31,32,33,34,35] Fx.mix (by kernel_rfl) ?_))))))))))
   refine mV rfl rfl (mV rfl rfl (ar rfl .no (.u rfl) (.u rfl) rfl (fun _=>wrap_i64 (by omega) (by omega)) ?_))
   refine mV rfl rfl (ar rfl .no (.u rfl) (.u rfl) rfl (fun _=>wrap_i64 (by omega) (by omega)) ?_)
   refine mV rfl rfl (ar rfl .no (.u rfl) (.u rfl) rfl (fun _=>wrap_i64 (by omega) (by omega)) ?_)
   refine mV rfl rfl (iA rfl .no Fx.ar166 (.u rfl) (.u rfl) (fun _=>by omega) (fun _=>by omega) ?_)
   refine ld rfl .no Fx.ag126 (.u rfl) (fun _=>Rd.own .here (wa_at1 q (by omega) (by omega))) ?_
   refine mV rfl rfl (ar rfl .no (.u rfl) (.u rfl) rfl (fun _=>wrap_i64 (by omega) (by omega)) ?_)
   refine iA rfl .no Fx.ar166 (.u rfl) (.u rfl) (fun _=>by omega) (fun _=>by omega) ?_
   refine ld rfl .no Fx.ag126 (.u rfl) (fun _=>Rd.own .here (wa_at1 (4+q) (by omega) (by omega))) ?_
   refine mV rfl rfl (ar rfl .no (.u rfl) (.u rfl) rfl (fun _=>wrap_i64 (by omega) (by omega)) ?_)
   refine iA rfl .no Fx.ar166 (.u rfl) (.u rfl) (fun _=>by omega) (fun _=>by omega) ?_
   refine ld rfl .no Fx.ag126 (.u rfl) (fun _=>Rd.own .here (wa_at1 (8+q) (by omega) (by omega))) ?_
   refine mV rfl rfl (ar rfl .no (.u rfl) (.u rfl) rfl (fun _=>wrap_i64 (by omega) (by omega)) ?_)
   refine iA rfl .no Fx.ar166 (.u rfl) (.u rfl) (fun _=>by omega) (fun _=>by omega) ?_
   refine ld rfl .no Fx.ag126 (.u rfl) (fun _=>Rd.own .here (wa_at1 (12+q) (by omega) (by omega))) ?_
   refine kv rfl .no Fx.go90 (Evc rfl (Evc rfl (Evc rfl (Evc rfl Evn)))) (fun _=>mix_ok _ _ _ _ _) ?_
   refine mV rfl rfl (ex rfl .no (.u rfl) rfl (ex rfl .no (.u rfl) rfl (ex rfl .no (.u rfl) rfl (ex rfl .no (.u rfl) rfl (iA rfl .no Fx.ar166 (.u rfl) (.u rfl) (fun _=>by omega) (fun _=>by omega) ?_)))))
   refine s1 rfl (.u rfl) (.u rfl) rfl Fx.sz126 .here (by rw [wa_len]; omega) (wa_set1 q (by omega)) ?_
   refine iA rfl .no Fx.ar166 (.u rfl) (.u rfl) (fun _=>by omega) (fun _=>by omega) ?_
   refine s1 rfl (.u rfl) (.u rfl) rfl Fx.sz126 .here (by rw [wa_len]; omega) (wa_set1 (4+q) (by omega)) ?_
   refine iA rfl .no Fx.ar166 (.u rfl) (.u rfl) (fun _=>by omega) (fun _=>by omega) ?_
   refine s1 rfl (.u rfl) (.u rfl) rfl Fx.sz126 .here (by rw [wa_len]; omega) (wa_set1 (8+q) (by omega)) ?_
   refine iA rfl .no Fx.ar166 (.u rfl) (.u rfl) (fun _=>by omega) (fun _=>by omega) ?_
   refine s1 rfl (.u rfl) (.u rfl) rfl Fx.sz126 .here (by rw [wa_len]; omega) (wa_set1 (12+q) (by omega)) ?_
   refine .nil (.blk (.code (rq2 rfl rfl (ar rfl .no (.u rfl) (.u rfl) rfl (fun _=>wrap_i64 (by omega) (by omega)) ?_))))
   refine mV rfl rfl (.nil (We.lpo (q+1) ?_ ?_ ?_ ?_ ?_))
   ·exact (esD rfl (esD rfl (esD rfl (esD rfl (esD rfl eZ)))))
   ·exact (mS .here rfl (mS .here rfl (mS .here rfl (mS .here rfl (mS .here rfl mN)))))
   ·first|omega|(dsimp only; omega)
   ·exact hGl1
   show q+1≤4; omega
  have c2k:=c2
  try simp only [qcA] at c2
  refine .exit (.xcode (.xlp (.xblk (.code (.seq (Wk.rg [0,1,2,3,4,5,6,7,8,9,10,11,12,13,14,15,16,17,18,19,20,21] rfl rfl ?_))))))
  obtain rfl:q=4:=by omega
  simp only [colsM_eq (rounds (x2 key nonce count 3) r) 4 (Nat.le_refl 4)]
  refine iA rfl .no Fx.ar166 (.u rfl) (.u rfl) (fun _=>by decide) (fun _=>by decide) ?_
  refine ld rfl .no Fx.ag126 (.u rfl) (fun _=>Rd.own .here (wa_at1 0 rfl (by decide))) ?_
  refine iA rfl .no Fx.ar166 (.u rfl) (.u rfl) (fun _=>by decide) (fun _=>by decide) ?_
  refine ld rfl .no Fx.ag126 (.u rfl) (fun _=>Rd.own .here (wa_at1 5 rfl (by decide))) ?_
  refine iA rfl .no Fx.ar166 (.u rfl) (.u rfl) (fun _=>by decide) (fun _=>by decide) ?_
  refine ld rfl .no Fx.ag126 (.u rfl) (fun _=>Rd.own .here (wa_at1 10 rfl (by decide))) ?_
  refine iA rfl .no Fx.ar166 (.u rfl) (.u rfl) (fun _=>by decide) (fun _=>by decide) ?_
  refine ld rfl .no Fx.ag126 (.u rfl) (fun _=>Rd.own .here (wa_at1 15 rfl (by decide))) ?_
  refine kv rfl .no Fx.go90 (Evc rfl (Evc rfl (Evc rfl (Evc rfl Evn)))) (fun _=>mix_ok _ _ _ _ _) ?_
  refine mV rfl rfl (ex rfl .no (.u rfl) rfl (ex rfl .no (.u rfl) rfl (ex rfl .no (.u rfl) rfl (ex rfl .no (.u rfl) rfl (iA rfl .no Fx.ar166 (.u rfl) (.u rfl) (fun _=>by decide) (fun _=>by decide) ?_)))))
  refine s1 rfl (.u rfl) (.u rfl) rfl Fx.sz126 .here (by rw [wa_len]; decide) (wa_set1 0 rfl) ?_
  refine iA rfl .no Fx.ar166 (.u rfl) (.u rfl) (fun _=>by decide) (fun _=>by decide) ?_
  refine s1 rfl (.u rfl) (.u rfl) rfl Fx.sz126 .here (by rw [wa_len]; decide) (wa_set1 5 rfl) ?_
  refine iA rfl .no Fx.ar166 (.u rfl) (.u rfl) (fun _=>by decide) (fun _=>by decide) ?_
  refine s1 rfl (.u rfl) (.u rfl) rfl Fx.sz126 .here (by rw [wa_len]; decide) (wa_set1 10 rfl) ?_
  refine iA rfl .no Fx.ar166 (.u rfl) (.u rfl) (fun _=>by decide) (fun _=>by decide) ?_
  refine s1 rfl (.u rfl) (.u rfl) rfl Fx.sz126 .here (by rw [wa_len]; decide) (wa_set1 15 rfl) ?_
  refine .nil (.code (.seq (Wk.rg [0,1,2,3,4,5,6,7,8,9,10,11,12,13,14,15,16,17,18,19,20,21] rfl rfl (iA rfl .no Fx.ar166 (.u rfl) (.u rfl) (fun _=>by decide) (fun _=>by decide) ?_))))
  refine ld rfl .no Fx.ag126 (.u rfl) (fun _=>Rd.own .here (wa_at1 1 rfl (by decide))) ?_
  refine iA rfl .no Fx.ar166 (.u rfl) (.u rfl) (fun _=>by decide) (fun _=>by decide) ?_
  refine ld rfl .no Fx.ag126 (.u rfl) (fun _=>Rd.own .here (wa_at1 6 rfl (by decide))) ?_
  refine iA rfl .no Fx.ar166 (.u rfl) (.u rfl) (fun _=>by decide) (fun _=>by decide) ?_
  refine ld rfl .no Fx.ag126 (.u rfl) (fun _=>Rd.own .here (wa_at1 11 rfl (by decide))) ?_
  refine iA rfl .no Fx.ar166 (.u rfl) (.u rfl) (fun _=>by decide) (fun _=>by decide) ?_
  refine ld rfl .no Fx.ag126 (.u rfl) (fun _=>Rd.own .here (wa_at1 12 rfl (by decide))) ?_
  refine kv rfl .no Fx.go90 (Evc rfl (Evc rfl (Evc rfl (Evc rfl Evn)))) (fun _=>mix_ok _ _ _ _ _) ?_
  refine mV rfl rfl (ex rfl .no (.u rfl) rfl (ex rfl .no (.u rfl) rfl (ex rfl .no (.u rfl) rfl (ex rfl .no (.u rfl) rfl (iA rfl .no Fx.ar166 (.u rfl) (.u rfl) (fun _=>by decide) (fun _=>by decide) ?_)))))
  refine s1 rfl (.u rfl) (.u rfl) rfl Fx.sz126 .here (by rw [wa_len]; decide) (wa_set1 1 rfl) ?_
  refine iA rfl .no Fx.ar166 (.u rfl) (.u rfl) (fun _=>by decide) (fun _=>by decide) ?_
  refine s1 rfl (.u rfl) (.u rfl) rfl Fx.sz126 .here (by rw [wa_len]; decide) (wa_set1 6 rfl) ?_
  refine iA rfl .no Fx.ar166 (.u rfl) (.u rfl) (fun _=>by decide) (fun _=>by decide) ?_
  refine s1 rfl (.u rfl) (.u rfl) rfl Fx.sz126 .here (by rw [wa_len]; decide) (wa_set1 11 rfl) ?_
  refine iA rfl .no Fx.ar166 (.u rfl) (.u rfl) (fun _=>by decide) (fun _=>by decide) ?_
  refine s1 rfl (.u rfl) (.u rfl) rfl Fx.sz126 .here (by rw [wa_len]; decide) (wa_set1 12 rfl) ?_
  refine .nil (.code (.seq (Wk.rg [0,1,2,3,4,5,6,7,8,9,10,11,12,13,14,15,16,17,18,19,20,21] rfl rfl (iA rfl .no Fx.ar166 (.u rfl) (.u rfl) (fun _=>by decide) (fun _=>by decide) ?_))))
  refine ld rfl .no Fx.ag126 (.u rfl) (fun _=>Rd.own .here (wa_at1 2 rfl (by decide))) ?_
  refine iA rfl .no Fx.ar166 (.u rfl) (.u rfl) (fun _=>by decide) (fun _=>by decide) ?_
  refine ld rfl .no Fx.ag126 (.u rfl) (fun _=>Rd.own .here (wa_at1 7 rfl (by decide))) ?_
  refine iA rfl .no Fx.ar166 (.u rfl) (.u rfl) (fun _=>by decide) (fun _=>by decide) ?_
  refine ld rfl .no Fx.ag126 (.u rfl) (fun _=>Rd.own .here (wa_at1 8 rfl (by decide))) ?_
  refine iA rfl .no Fx.ar166 (.u rfl) (.u rfl) (fun _=>by decide) (fun _=>by decide) ?_
  refine ld rfl .no Fx.ag126 (.u rfl) (fun _=>Rd.own .here (wa_at1 13 rfl (by decide))) ?_
  refine kv rfl .no Fx.go90 (Evc rfl (Evc rfl (Evc rfl (Evc rfl Evn)))) (fun _=>mix_ok _ _ _ _ _) ?_
  refine mV rfl rfl (ex rfl .no (.u rfl) rfl (ex rfl .no (.u rfl) rfl (ex rfl .no (.u rfl) rfl (ex rfl .no (.u rfl) rfl (iA rfl .no Fx.ar166 (.u rfl) (.u rfl) (fun _=>by decide) (fun _=>by decide) ?_)))))
  refine s1 rfl (.u rfl) (.u rfl) rfl Fx.sz126 .here (by rw [wa_len]; decide) (wa_set1 2 rfl) ?_
  refine iA rfl .no Fx.ar166 (.u rfl) (.u rfl) (fun _=>by decide) (fun _=>by decide) ?_
  refine s1 rfl (.u rfl) (.u rfl) rfl Fx.sz126 .here (by rw [wa_len]; decide) (wa_set1 7 rfl) ?_
  refine iA rfl .no Fx.ar166 (.u rfl) (.u rfl) (fun _=>by decide) (fun _=>by decide) ?_
  refine s1 rfl (.u rfl) (.u rfl) rfl Fx.sz126 .here (by rw [wa_len]; decide) (wa_set1 8 rfl) ?_
  refine iA rfl .no Fx.ar166 (.u rfl) (.u rfl) (fun _=>by decide) (fun _=>by decide) ?_
  refine s1 rfl (.u rfl) (.u rfl) rfl Fx.sz126 .here (by rw [wa_len]; decide) (wa_set1 13 rfl) ?_
  refine .nil (.code (Wk.rg [0,1,2,3,4,5,6,7,8,9,10,11,12,13,14,15,16,17,18,19,20,21] rfl rfl (iA rfl .no Fx.ar166 (.u rfl) (.u rfl) (fun _=>by decide) (fun _=>by decide) ?_)))
  refine ld rfl .no Fx.ag126 (.u rfl) (fun _=>Rd.own .here (wa_at1 3 rfl (by decide))) ?_
  refine iA rfl .no Fx.ar166 (.u rfl) (.u rfl) (fun _=>by decide) (fun _=>by decide) ?_
  refine ld rfl .no Fx.ag126 (.u rfl) (fun _=>Rd.own .here (wa_at1 4 rfl (by decide))) ?_
  refine iA rfl .no Fx.ar166 (.u rfl) (.u rfl) (fun _=>by decide) (fun _=>by decide) ?_
  refine ld rfl .no Fx.ag126 (.u rfl) (fun _=>Rd.own .here (wa_at1 9 rfl (by decide))) ?_
  refine iA rfl .no Fx.ar166 (.u rfl) (.u rfl) (fun _=>by decide) (fun _=>by decide) ?_
  refine ld rfl .no Fx.ag126 (.u rfl) (fun _=>Rd.own .here (wa_at1 14 rfl (by decide))) ?_
  refine kv rfl .no Fx.go90 (Evc rfl (Evc rfl (Evc rfl (Evc rfl Evn)))) (fun _=>mix_ok _ _ _ _ _) ?_
  refine mV rfl rfl (ex rfl .no (.u rfl) rfl (ex rfl .no (.u rfl) rfl (ex rfl .no (.u rfl) rfl (ex rfl .no (.u rfl) rfl (iA rfl .no Fx.ar166 (.u rfl) (.u rfl) (fun _=>by decide) (fun _=>by decide) ?_)))))
  refine s1 rfl (.u rfl) (.u rfl) rfl Fx.sz126 .here (by rw [wa_len]; decide) (wa_set1 3 rfl) ?_
  refine iA rfl .no Fx.ar166 (.u rfl) (.u rfl) (fun _=>by decide) (fun _=>by decide) ?_
  refine s1 rfl (.u rfl) (.u rfl) rfl Fx.sz126 .here (by rw [wa_len]; decide) (wa_set1 4 rfl) ?_
  refine iA rfl .no Fx.ar166 (.u rfl) (.u rfl) (fun _=>by decide) (fun _=>by decide) ?_
  refine s1 rfl (.u rfl) (.u rfl) rfl Fx.sz126 .here (by rw [wa_len]; decide) (wa_set1 9 rfl) ?_
  refine iA rfl .no Fx.ar166 (.u rfl) (.u rfl) (fun _=>by decide) (fun _=>by decide) ?_
  refine s1 rfl (.u rfl) (.u rfl) rfl Fx.sz126 .here (by rw [wa_len]; decide) (wa_set1 14 rfl) ?_
  refine .nil (.blk (.code (rq2 rfl rfl (ar rfl .no (.u rfl) (.u rfl) rfl (fun _=>wrap_i64 (by omega) (by omega)) ?_))))
  refine mV rfl rfl (.nil (We.lpo (r+1) ?_ ?_ ?_ ?_ ?_))
  ·exact (esD rfl (esD rfl (esD rfl (esD rfl eZ))))
  ·exact (mS .here (congrArg (fun z=>Res.blk b8 (cl (wa 16 z) 166)) (diagM_eq (cols (rounds (x2 key nonce count 3) r) 4))) (mS .here rfl (mS .here rfl (mS .here rfl (mS .here rfl mN)))))
  ·first|omega|(dsimp only; omega)
  ·exact hGl0.trans hGl1
  show r+1≤10; omega
 have c1k:=c1
 try simp only [qcA] at c1
 refine .exit (.xcode (.xlp (.xblk (.code (.seq (rq1 rfl rfl ?_))))))
 obtain rfl:r=10:=by omega
 refine al rfl Fx.zq156 ?_; intro b10
 refine .nil (.code (.seq (.seq (rq1 rfl rfl (mV rfl rfl (.nil (.code (.block ?_))))))))
 refine Wk.lop (α:=Nat) (fun i=>[(135,true,.int .i64 (i:Int))]) (fun i=>[.blk b10 (cl (ba 64 (outs (chaB key nonce count) (4*i))) 156)])
  (fun i Gl=>i≤16) (fun i=>16-i) 0 [(6,true,_),(7,true,_),(8,true,_),(10,true,_)] [.blk b8 _,.blk b7 _,.blk b4 _,.blk b3 _,.blk b6 _]
  (esD rfl (esD rfl (esD rfl (esD rfl (esD rfl eZ)))))
  (mS .here rfl (mS .here rfl (mS .here rfl (mS .here rfl (mS .here rfl (mS .here rfl mN)))))) ?_ ?_
 ·show 0≤16; omega
 intro i N2 Gl2 hN2 hGl2 hF2
 try dsimp only at hF2 hN2 ⊢
 have hi:i≤16:=hF2
 refine .seq (rq1 rfl rfl (cp rfl .no (.u rfl) (.u rfl) rfl (.nil (.code (.seq (.cond rfl (fun c3=>?_) (fun c3=>?_)))))))
 ·have c3k:=c3
  try simp only [qcA] at c3
  refine .skip (.code (.seq (.block (.seq (rq2 rfl rfl (mV rfl rfl (aS rfl rfl (.nil (.code (.seq (Wk.draw (mc:=⟨false,false⟩) [0,1,2,3,4,5,6,7] Fx.mix (by kernel_rfl) ?_)))))))))))
  refine mV rfl rfl (iA rfl .no Fx.ar166 (.u rfl) (.u rfl) (fun _=>by omega) (fun _=>by omega) ?_)
  refine ld rfl .no Fx.ag126 (.u rfl) (fun _=>Rd.own tk1 (wa_at1 i (by omega) (by omega))) ?_
  refine mV rfl rfl (iA rfl .no Fx.ar166 (.u rfl) (.u rfl) (fun _=>by omega) (fun _=>by omega) ?_)
  refine ld rfl .no Fx.ag126 (.u rfl) (fun _=>Rd.own tk2 (wa_at1 i (by omega) (by omega))) ?_
  refine bw (k:=.u32) rfl .no rfl (.u rfl) (.u rfl) rfl (aS rfl rfl (.nil (.code (.seq (rq1 rfl rfl (mV rfl rfl (.nil (.code (.block ?_)))))))))
  refine Wk.lop (α:=Nat) (fun c=>[(12,true,U (chaW key nonce count i >>> (8*c))),(145,true,.int .i64 (c:Int))]) (fun c=>[.blk b10 (cl (ba 64 (outs (chaB key nonce count) (4*i+c))) 156)])
   (fun c Gl=>c≤4) (fun c=>4-c) 0 [(6,true,_),(7,true,_),(8,true,_),(10,true,_),(11,true,_),(135,true,_)] [.blk b8 _,.blk b7 _,.blk b4 _,.blk b3 _,.blk b6 _]
   (esC rfl shr_zero' (esD rfl (esD rfl (esD rfl (esD rfl (esD rfl (esD rfl (esD rfl eZ))))))))
   (mS .here rfl (mS .here rfl (mS .here rfl (mS .here rfl (mS .here rfl (mS .here rfl mN)))))) ?_ ?_
  ·show 0≤4; omega
  intro c N3 Gl3 hN3 hGl3 hF3
  try dsimp only at hF3 hN3 ⊢
  have hc:c≤4:=hF3
  refine .seq (rq1 rfl rfl (cp rfl .no (.u rfl) (.u rfl) rfl (.nil (.code (.seq (.cond rfl (fun c4=>?_) (fun c4=>?_)))))))
  ·have c4k:=c4
   try simp only [qcA] at c4
   refine .skip (.code (.seq (.block (.seq (rq2 rfl rfl (mV rfl rfl (aS rfl rfl (.nil (.code (.seq (rq8 rfl rfl (mV rfl rfl (ar rfl .no (.u rfl) (.u rfl) rfl (fun _=>wrap_i64 (by omega) (by omega)) ?_)))))))))))))
   refine mV rfl rfl (ar rfl .no (.u rfl) (.u rfl) rfl (fun _=>wrap_i64 (by omega) (by omega)) ?_)
   refine mV rfl rfl (cu (k:=.u32) rfl .no rfl Fx.cv126_5 (.u rfl) ?_)
   refine iA rfl .no Fx.ar156 (.u rfl) (.u rfl) (fun _=>by omega) (fun _=>by omega) ?_
   refine s1 rfl (.u rfl) (.u rfl) rfl Fx.sz5 .here (by rw [ba_len]; omega) (ba_set1 (4*i+c) (by omega)) ?_
   refine .nil (.code (rq3 rfl rfl (mV rfl rfl (rw' (k:=.u32) rfl .no (.u rfl) (.u rfl) (fun _=>by decide) ?_))))
   refine aS rfl rfl (.nil (.blk (.code (rq2 rfl rfl (ar rfl .no (.u rfl) (.u rfl) rfl (fun _=>wrap_i64 (by omega) (by omega)) ?_)))))
   refine mV rfl rfl (.nil (We.lpo (c+1) ?_ ?_ ?_ ?_ ?_))
   ·exact (esC rfl shr_next (esD rfl (esD rfl (esD rfl (esD rfl (esD rfl (esD rfl (esD rfl eZ))))))))
   ·exact (mS .here (out_put (by omega)) (mS .here rfl (mS .here rfl (mS .here rfl (mS .here rfl (mS .here rfl mN))))))
   ·first|omega|(dsimp only; omega)
   ·exact hGl3
   show c+1≤4; omega
  have c4k:=c4
  try simp only [qcA] at c4
  refine .exit (.xcode (.xlp (.xblk (.blk (.code (rq2 rfl rfl (ar rfl .no (.u rfl) (.u rfl) rfl (fun _=>wrap_i64 (by omega) (by omega)) ?_)))))))
  refine mV rfl rfl (.nil ?_)
  obtain rfl:c=4:=by omega
  refine We.lpo (i+1) ?_ ?_ ?_ ?_ ?_
  ·exact (esD rfl (esD rfl (esD rfl (esD rfl (esD rfl eZ)))))
  ·exact (mS .here rfl (mS .here rfl (mS .here rfl (mS .here rfl (mS .here rfl (mS .here rfl mN))))))
  ·first|omega|(dsimp only; omega)
  ·exact hGl2.trans hGl3
  show i+1≤16; omega
 have c3k:=c3
 try simp only [qcA] at c3
 refine .exit (.xcode (.xlp (.xblk (.code (.seq (rq2 rfl rfl (lA rfl .no Fx.ag156 (.u rfl) (fun _=>RdN.own .here) (fun _=>rfl) ?_)))))))
 refine sw rfl (.u rfl) (.u rfl) rfl Fx.sz156 tk5 rfl (ba_one _ _) ?_
 refine .nil (.code (.ret (We.fin0 Tryd.results81 (.cell rfl (fun w hw=>run_loadVarN Fx.ag156 (RdN.own .here) rfl hw) .nil) ?_)))
 obtain rfl:i=16:=by omega
 exact ⟨rfl,by rw [ba_congr (fun i hi=>(outs_eq (chaB key nonce count) hi).symm)]; rfl⟩
namespace Fx
theorem zq162:zrL Tryd.prog 162=some (wa 64 (fun _=>0#32)):=by kernel_rfl
theorem sn36:(slE Tryd.prog 36).isSome=true:=by kernel_rfl
theorem ar162:arE Tryd.prog 162=some (64,126,1):=by kernel_rfl
theorem go85:goFn Tryd.prog 85=true:=by kernel_rfl
theorem fo132_0:fOff Tryd.prog 132 0=some 0:=by kernel_rfl
theorem ar130:arE Tryd.prog 130=some (8,126,1):=by kernel_rfl
theorem bp130_0_1_2_3_4_5_6_7:bPl Tryd.prog 130 [0,1,2,3,4,5,6,7]=some ([.int .u32 0,.int .u32 0,.int .u32 0,.int .u32 0,.int .u32 0,.int .u32 0,.int .u32 0,.int .u32 0],[(0,1),(1,1),(2,1),(3,1),(4,1),(5,1),(6,1),(7,1)]):=by kernel_rfl
end Fx
theorem right_ok (x:W) (k:Nat) (G:PM) (hk:k∈[2,6,7,11,13,17,18,19,22,25]):Ct Tryd.prog 85 ([U x,.int .i64 (k:Int)]:List Value).toArray G [] (fun _ μ' u=>μ'=[]∧u=U (rotr x k)):=by
 refine Ct.of Tryd.func85 rfl Tryd.ntmps85 rfl fun w0 hs0=>?_
 have hk2:k≤31:=by simp only [List.mem_cons,List.not_mem_nil,or_false] at hk; omega
 refine .seq (rq1 rfl rfl (aS rfl rfl (.nil (.code (.seq (rq5 rfl rfl (mV rfl rfl (mV rfl rfl (ng rfl .no (.u rfl) (fun _=>wrap_i64 (by omega) (by omega)) ?_)))))))))
 refine kv rfl .no Fx.go62 (Evc rfl (Evc rfl Evn)) (fun _=>rot_ok _ _ _) ?_
 refine aS rfl rfl (.nil (.code (.ret (We.fin0 Tryd.results85 (.tmp rfl .nil) ?_))))
 exact ⟨rfl,by rw [← rotI_neg hk]; rfl⟩
set_option maxHeartbeats 1000000 in
theorem block_ok (s:Nat→W) (xs:List Y) (h:Sh) (vp nn:Value) (bs:Nat) (G:PM) (hs:SlR G 1 encY h xs) (hK:RdNP G 0 0 (wa 64 kW)) (hl:64≤xs.length):Ct Tryd.prog 79 ([.pointer (some ⟨bs,0,none⟩),h.val xs.length]:List Value).toArray G [.blk bs (cl (wa 8 s++[vp,nn]) 132)] (fun _ μ' u=>μ'=[.blk bs (cl (wa 8 (shaC s (fun i=>xs.getD i 0))++[vp,nn]) 132)]∧u=.tuple #[]):=by
 refine Ct.of Tryd.func79 rfl Tryd.ntmps79 rfl fun w0 hs0=>?_
 refine .seq (rq1 rfl rfl ?_)
 refine al rfl Fx.zq162 ?_; intro b4
 refine .nil (.code (.seq (.seq (rq1 rfl rfl (mV rfl rfl (.nil (.code (.block ?_))))))))
 refine Wk.lop (α:=Nat×(Nat→W)) (fun gh=>[(24,true,.int .i64 (gh.1:Int))]) (fun gh=>[.blk b4 (cl (wa 64 gh.2) 162)])
  (fun gh Gl=>(gh.1≤16)∧(gh.2=w16 (fun i=>xs.getD i 0) gh.1)) (fun gh=>16-gh.1) (0,fun _=>0#32) [(0,true,_),(1,true,_),(4,true,_)] [_]
  (esC rfl (by first|rfl|exact evi (by omega)) (esD rfl (esD rfl (esD rfl eZ))))
  (mS .here rfl (mS .here rfl mN)) ?_ ?_
 ·refine ⟨?_,?_⟩
  ·(try dsimp only)<;>(first|omega|rfl|assumption|(simp; done))
  (try dsimp only)<;>(first|omega|rfl|assumption|(simp; done))
 intro gh N0 Gl0 hN0 hGl0 hF0
 obtain ⟨k,y⟩:=gh; dsimp only at hF0 hN0 ⊢
 obtain ⟨hk,ey⟩:=hF0
 have hs:=hs.mono hGl0
 have hK:=hK.mono hGl0
 refine .seq (rq1 rfl rfl (cp rfl .no (.u rfl) (.u rfl) rfl (.nil (.code (.seq (.cond rfl (fun c1=>?_) (fun c1=>?_)))))))
 ·have c1k:=c1
  try simp only [qcA,qcB] at c1
  refine .skip (.code (.seq (.block (.seq (rq2 rfl rfl (mV rfl rfl (aS rfl rfl (.nil (.code (.seq (rq9 rfl rfl (mV rfl rfl (mV rfl rfl (arn (((4*k):Nat):Int) rfl .no (.u rfl) (.u rfl) rfl (fun _=>by omega) (fun _=>wrap_i64 (by omega) (by omega)) ?_))))))))))))))
  refine mV rfl rfl (arn (((4*k):Nat):Int) rfl .no (.u rfl) (.u rfl) rfl (fun _=>by omega) (fun _=>wrap_i64 (by omega) (by omega)) ?_)
  refine arn ((((4*k)+4):Nat):Int) rfl .no (.u rfl) (.u rfl) rfl (fun _=>by omega) (fun _=>wrap_i64 (by omega) (by omega)) ?_
  refine kS ((4*k)) (((4*k)+4)) rfl .no Fx.se36 hs (.u rfl) (.u rfl) (.u rfl) (fun _=>by omega) (fun _=>by omega) (fun _=>by omega) (fun _=>by omega) ?_
  intro h33 L33 eL33 lL33 hs33
  have lL33:=lL33 rfl
  refine ln rfl .no Fx.sn36 (.u rfl) (mV rfl rfl (.nil (.code (.block ?_))))
  refine Wk.lop (α:=Nat×(Nat→W)) (fun gh=>[(35,true,.int .i64 (gh.1:Int))]) (fun gh=>[.blk b4 (cl (wa 64 gh.2) 162)])
   (fun gh Gl=>(gh.1≤4)∧(gh.2=upd y k (shB (fun i=>xs.getD i 0) k gh.1))) (fun gh=>4-gh.1) (0,y) [(0,true,_),(1,true,_),(4,true,_),(5,true,_),(24,true,_),(33,true,_),(34,true,_)] [_]
   (esC rfl (by first|rfl|exact evi (by omega)) (esD rfl (esD rfl (esD rfl (esD rfl (esD rfl (esD rfl (esD rfl eZ))))))))
   (mS .here rfl (mS .here rfl mN)) ?_ ?_
  ·refine ⟨?_,?_⟩
   ·(try dsimp only)<;>(first|omega|rfl|assumption|(simp; done))
   (try dsimp only)<;>(rw [ey]; exact (upd_w16 _ (Nat.le_refl k)).symm)
  intro gh N1 Gl1 hN1 hGl1 hF1
  obtain ⟨c,y2⟩:=gh; dsimp only at hF1 hN1 ⊢
  obtain ⟨hc,ey2⟩:=hF1
  have hK:=hK.mono hGl1
  have hs33:=hs33.mono hGl1
  refine .seq (rq1 rfl rfl (cp rfl .no (.u rfl) (.u rfl) rfl (.nil (.code (.seq (.cond rfl (fun c2=>?_) (fun c2=>?_)))))))
  ·have c2k:=c2
   try simp only [qcA,qcB] at c2
   refine .skip (.code (.seq (.block (.seq (rq3 rfl rfl (ih rfl .no Fx.se36 (.u rfl) (.u rfl) (fun _=>by omega) (fun _=>by omega) (fun _=>hs33.nn (k:=c) (by omega)) ?_))))))
   refine ld rfl .no Fx.ag5 (.u rfl) (fun _=>(hs33.yat (c) (by omega) (by omega)).rd) ?_
   refine aS rfl rfl (.nil (.code (rq10 rfl rfl (mV rfl rfl (mV rfl rfl (iA rfl .no Fx.ar162 (.u rfl) (.u rfl) (fun _=>by omega) (fun _=>by omega) ?_))))))
   refine ld rfl .no Fx.ag126 (.u rfl) (fun _=>Rd.own .here (by first|exact wa_at1 (k) (by omega) (by omega)|exact ba_at1 (k) (by omega) (by omega)|exact wap_at1 (k) (by omega) (by omega)|rfl)) ?_
   refine lw (k:=.u32) rfl .no rfl (.u rfl) (.u rfl) (fun _=>by decide) ?_
   refine mV rfl rfl (cu (k:=.u8) rfl .no rfl Fx.cv5_126 (.u rfl) ?_)
   refine bw (k:=.u32) rfl .no rfl (.u rfl) (.u rfl) rfl (iA rfl .no Fx.ar162 (.u rfl) (.u rfl) (fun _=>by omega) (fun _=>by omega) ?_)
   refine s1 rfl (.u rfl) (.u rfl) rfl Fx.sz126 .here (by first|decide|(simp only [wa_len,ba_len,qlA]; omega)) (by first|exact wa_set1 (k) (by omega)|exact ba_set1 (k) (by omega)|exact wap_set1 (k) (by omega) (by omega)|rfl) ?_
   refine .nil (.blk (.code (rq2 rfl rfl (arn (((c+1):Nat):Int) rfl .no (.u rfl) (.u rfl) rfl (fun _=>by omega) (fun _=>wrap_i64 (by omega) (by omega)) ?_))))
   refine mV rfl rfl (.nil (We.lpo (c+1,upd y2 k (y2 k <<< Int.toNat 8 ||| BitVec.setWidth 32 (L33.getD c 0))) ?_ ?_ ?_ ?_ ?_))
   ·exact (esC rfl (by first|rfl|exact evi (by omega)) (esD rfl (esD rfl (esD rfl (esD rfl (esD rfl (esD rfl (esD rfl eZ))))))))
   ·exact (mS .here rfl (mS .here rfl mN))
   ·first|omega|(dsimp only; omega)
   ·exact hGl1
   refine ⟨?_,?_⟩
   ·(try dsimp only)<;>(first|omega|rfl|assumption|(simp; done))
   (try dsimp only)<;>(rw [ey2,upd_at,upd_upd,shB,eL33,getD_part (by omega)]; rfl)
  have c2k:=c2
  try simp only [qcA,qcB] at c2
  refine .exit (.xcode (.xlp (.xblk (.blk (.code (rq2 rfl rfl (arn (((k+1):Nat):Int) rfl .no (.u rfl) (.u rfl) rfl (fun _=>by omega) (fun _=>wrap_i64 (by omega) (by omega)) ?_)))))))
  refine mV rfl rfl (.nil (We.lpo (k+1,y2) ?_ ?_ ?_ ?_ ?_))
  ·exact (esC rfl (by first|rfl|exact evi (by omega)) (esD rfl (esD rfl (esD rfl eZ))))
  ·exact (mS .here rfl (mS .here rfl mN))
  ·first|omega|(dsimp only; omega)
  ·exact (hGl0).trans hGl1
  refine ⟨?_,?_⟩
  ·(try dsimp only)<;>(first|omega|rfl|assumption|(simp; done))
  (try dsimp only)<;>(obtain rfl:c=4:=(by omega); rw [ey2,ey,shB_four]; rfl)
 have c1k:=c1
 try simp only [qcA,qcB] at c1
 refine .exit (.xcode (.xlp (.xblk (.code (.seq (.seq ?_))))))
 obtain rfl:k=16:=by omega
 refine rq1 rfl rfl (aS rfl rfl (.nil (.code (.block ?_))))
 refine Wk.lop (α:=Nat×(Nat→W)) (fun gh=>[(8,true,.int .i64 ((16+gh.1:Nat):Int))]) (fun gh=>[.blk b4 (cl (wa 64 gh.2) 162)])
  (fun gh Gl=>(gh.1≤48)∧(gh.2=sched (fun i=>xs.getD i 0) gh.1)) (fun gh=>48-gh.1) (0,_) [(0,true,_),(4,true,_)] [_]
  (esC rfl (by first|rfl|exact evi (by omega)) (esD rfl (esD rfl eZ)))
  (mS .here rfl (mS .here rfl mN)) ?_ ?_
 ·refine ⟨?_,?_⟩
  ·(try dsimp only)<;>(first|omega|rfl|assumption|(simp; done))
  (try dsimp only)<;>(first|omega|rfl|assumption|(simp; done))
 intro gh N2 Gl2 hN2 hGl2 hF2
 obtain ⟨k1,y⟩:=gh; dsimp only at hF2 hN2 ⊢
 obtain ⟨hk1,ey⟩:=hF2
 have hK:=hK.mono hGl2
 refine .seq (.seq (rq2 rfl rfl (mV rfl rfl (cp rfl .no (.u rfl) (.u rfl) rfl (.nil (.code (.cond rfl (fun c3=>?_) (fun c3=>?_))))))))
 ·have c3k:=c3
  try simp only [qcA,qcB] at c3
  refine .skip (.code (.seq (.block (.seq (Wk.draw (mc:=⟨false,false⟩) [0,1,2,3,4,5,6,7,8,9] Fx.mix (by kernel_rfl) ?_)))))
  refine mV rfl rfl (arn (((1+k1):Nat):Int) rfl .no (.u rfl) (.u rfl) rfl (fun _=>by omega) (fun _=>wrap_i64 (by omega) (by omega)) ?_)
  refine iA rfl .no Fx.ar162 (.u rfl) (.u rfl) (fun _=>by omega) (fun _=>by omega) ?_
  refine ld rfl .no Fx.ag126 (.u rfl) (fun _=>Rd.own .here (by first|exact wa_at1 ((1+k1)) (by omega) (by omega)|exact ba_at1 ((1+k1)) (by omega) (by omega)|exact wap_at1 ((1+k1)) (by omega) (by omega)|rfl)) ?_
  refine mV rfl rfl (arn (((14+k1):Nat):Int) rfl .no (.u rfl) (.u rfl) rfl (fun _=>by omega) (fun _=>wrap_i64 (by omega) (by omega)) ?_)
  refine iA rfl .no Fx.ar162 (.u rfl) (.u rfl) (fun _=>by omega) (fun _=>by omega) ?_
  refine ld rfl .no Fx.ag126 (.u rfl) (fun _=>Rd.own .here (by first|exact wa_at1 ((14+k1)) (by omega) (by omega)|exact ba_at1 ((14+k1)) (by omega) (by omega)|exact wap_at1 ((14+k1)) (by omega) (by omega)|rfl)) ?_
  refine aS rfl rfl (aS rfl rfl (.nil (.code (Wk.draw (mc:=⟨false,false⟩) [0,1,2,3,4,5,6,7,8,9,10,12,15,16,19,21,24,25,11,13,14,17,18,20,22,23,26,27,28,29] Fx.mix (by kernel_rfl) ?_))))
  refine mV rfl rfl (mV rfl rfl (arn ((k1:Nat):Int) rfl .no (.u rfl) (.u rfl) rfl (fun _=>by omega) (fun _=>wrap_i64 (by omega) (by omega)) ?_))
  refine iA rfl .no Fx.ar162 (.u rfl) (.u rfl) (fun _=>by omega) (fun _=>by omega) ?_
  refine ld rfl .no Fx.ag126 (.u rfl) (fun _=>Rd.own .here (by first|exact wa_at1 (k1) (by omega) (by omega)|exact ba_at1 (k1) (by omega) (by omega)|exact wap_at1 (k1) (by omega) (by omega)|rfl)) ?_
  refine mV rfl rfl (arn (((9+k1):Nat):Int) rfl .no (.u rfl) (.u rfl) rfl (fun _=>by omega) (fun _=>wrap_i64 (by omega) (by omega)) ?_)
  refine iA rfl .no Fx.ar162 (.u rfl) (.u rfl) (fun _=>by omega) (fun _=>by omega) ?_
  refine ld rfl .no Fx.ag126 (.u rfl) (fun _=>Rd.own .here (by first|exact wa_at1 ((9+k1)) (by omega) (by omega)|exact ba_at1 ((9+k1)) (by omega) (by omega)|exact wap_at1 ((9+k1)) (by omega) (by omega)|rfl)) ?_
  refine bw (k:=.u32) rfl .no rfl (.u rfl) (.u rfl) rfl (mV rfl rfl (mV rfl rfl (mV rfl rfl (rw' (k:=.u32) rfl .no (.u rfl) (.u rfl) (fun _=>by decide) ?_))))
  refine mV rfl rfl (mV rfl rfl (mV rfl rfl (rw' (k:=.u32) rfl .no (.u rfl) (.u rfl) (fun _=>by decide) ?_)))
  refine kv rfl .no Fx.go85 (Evc rfl (Evc rfl Evn)) (fun _=>right_ok _ 7 _ (by decide)) ?_
  refine kv rfl .no Fx.go85 (Evc rfl (Evc rfl Evn)) (fun _=>right_ok _ 18 _ (by decide)) ?_
  refine bw (k:=.u32) rfl .no rfl (.u rfl) (.u rfl) rfl (bw (k:=.u32) rfl .no rfl (.u rfl) (.u rfl) rfl (bw (k:=.u32) rfl .no rfl (.u rfl) (.u rfl) rfl (kv rfl .no Fx.go85 (Evc rfl (Evc rfl Evn)) (fun _=>right_ok _ 17 _ (by decide)) ?_)))
  refine kv rfl .no Fx.go85 (Evc rfl (Evc rfl Evn)) (fun _=>right_ok _ 19 _ (by decide)) ?_
  refine bw (k:=.u32) rfl .no rfl (.u rfl) (.u rfl) rfl (bw (k:=.u32) rfl .no rfl (.u rfl) (.u rfl) rfl (bw (k:=.u32) rfl .no rfl (.u rfl) (.u rfl) rfl (iA rfl .no Fx.ar162 (.u rfl) (.u rfl) (fun _=>by omega) (fun _=>by omega) ?_)))
  refine s1 rfl (.u rfl) (.u rfl) rfl Fx.sz126 .here (by first|decide|(simp only [wa_len,ba_len,qlA]; omega)) (by first|exact wa_set1 (((16+k1:Nat))) (by omega)|exact ba_set1 (((16+k1:Nat))) (by omega)|exact wap_set1 (((16+k1:Nat))) (by omega) (by omega)|rfl) ?_
  refine .nil (.blk (.code (rq3 rfl rfl (mV rfl rfl (arn (((((16+k1:Nat))+1):Nat):Int) rfl .no (.u rfl) (.u rfl) rfl (fun _=>by omega) (fun _=>wrap_i64 (by omega) (by omega)) ?_)))))
  refine aS rfl rfl (.nil (We.lpo (k1+1,_) (esC rfl (by first|rfl|exact evi (by omega)) (esD rfl (esD rfl eZ))) (mS .here rfl (mS .here rfl mN)) ?_ ?_ ?_))
  ·first|omega|(dsimp only; omega)
  ·exact hGl2
  refine ⟨?_,?_⟩
  ·(try dsimp only)<;>(first|omega|rfl|assumption|(simp; done))
  (try dsimp only)<;>(rw [ey]; rfl)
 have c3k:=c3
 try simp only [qcA,qcB] at c3
 refine .exit (.xcode (.xlp (.xblk (.code (.seq ?_)))))
 obtain rfl:k1=48:=by omega
 refine Wk.draw (mc:=⟨false,false⟩) [0,1,2,3,4,5,6,7,8,9,10,11,12,13,14,15,16,17,18,19,20,21,22,23,24,25,26,27,28,29,30,31,32,33,34,35,36,37,38,39,40,41,42,43,44,45,46,47] Fx.mix (by kernel_rfl) ?_
 refine mV rfl rfl (nc rfl .no (.u rfl) (fz rfl .no Fx.fo132_0 (.u rfl) (iA rfl .no Fx.ar130 (.u rfl) (.u rfl) (fun _=>by decide) (fun _=>by decide) ?_)))
 refine ld rfl .no Fx.ag126 (.u rfl) (fun _=>Rd.own tk1 (by first|exact wa_at1 (0) (by omega) (by omega)|exact ba_at1 (0) (by omega) (by omega)|exact wap_at1 (0) (by omega) (by omega)|rfl)) ?_
 refine mV rfl rfl (nc rfl .no (.u rfl) (fz rfl .no Fx.fo132_0 (.u rfl) (iA rfl .no Fx.ar130 (.u rfl) (.u rfl) (fun _=>by decide) (fun _=>by decide) ?_)))
 refine ld rfl .no Fx.ag126 (.u rfl) (fun _=>Rd.own tk1 (by first|exact wa_at1 (1) (by omega) (by omega)|exact ba_at1 (1) (by omega) (by omega)|exact wap_at1 (1) (by omega) (by omega)|rfl)) ?_
 refine mV rfl rfl (nc rfl .no (.u rfl) (fz rfl .no Fx.fo132_0 (.u rfl) (iA rfl .no Fx.ar130 (.u rfl) (.u rfl) (fun _=>by decide) (fun _=>by decide) ?_)))
 refine ld rfl .no Fx.ag126 (.u rfl) (fun _=>Rd.own tk1 (by first|exact wa_at1 (2) (by omega) (by omega)|exact ba_at1 (2) (by omega) (by omega)|exact wap_at1 (2) (by omega) (by omega)|rfl)) ?_
 refine mV rfl rfl (nc rfl .no (.u rfl) (fz rfl .no Fx.fo132_0 (.u rfl) (iA rfl .no Fx.ar130 (.u rfl) (.u rfl) (fun _=>by decide) (fun _=>by decide) ?_)))
 refine ld rfl .no Fx.ag126 (.u rfl) (fun _=>Rd.own tk1 (by first|exact wa_at1 (3) (by omega) (by omega)|exact ba_at1 (3) (by omega) (by omega)|exact wap_at1 (3) (by omega) (by omega)|rfl)) ?_
 refine mV rfl rfl (nc rfl .no (.u rfl) (fz rfl .no Fx.fo132_0 (.u rfl) (iA rfl .no Fx.ar130 (.u rfl) (.u rfl) (fun _=>by decide) (fun _=>by decide) ?_)))
 refine ld rfl .no Fx.ag126 (.u rfl) (fun _=>Rd.own tk1 (by first|exact wa_at1 (4) (by omega) (by omega)|exact ba_at1 (4) (by omega) (by omega)|exact wap_at1 (4) (by omega) (by omega)|rfl)) ?_
 refine mV rfl rfl (nc rfl .no (.u rfl) (fz rfl .no Fx.fo132_0 (.u rfl) (iA rfl .no Fx.ar130 (.u rfl) (.u rfl) (fun _=>by decide) (fun _=>by decide) ?_)))
 refine ld rfl .no Fx.ag126 (.u rfl) (fun _=>Rd.own tk1 (by first|exact wa_at1 (5) (by omega) (by omega)|exact ba_at1 (5) (by omega) (by omega)|exact wap_at1 (5) (by omega) (by omega)|rfl)) ?_
 refine mV rfl rfl (nc rfl .no (.u rfl) (fz rfl .no Fx.fo132_0 (.u rfl) (iA rfl .no Fx.ar130 (.u rfl) (.u rfl) (fun _=>by decide) (fun _=>by decide) ?_)))
 refine ld rfl .no Fx.ag126 (.u rfl) (fun _=>Rd.own tk1 (by first|exact wa_at1 (6) (by omega) (by omega)|exact ba_at1 (6) (by omega) (by omega)|exact wap_at1 (6) (by omega) (by omega)|rfl)) ?_
 refine mV rfl rfl (nc rfl .no (.u rfl) (fz rfl .no Fx.fo132_0 (.u rfl) (iA rfl .no Fx.ar130 (.u rfl) (.u rfl) (fun _=>by decide) (fun _=>by decide) ?_)))
 refine ld rfl .no Fx.ag126 (.u rfl) (fun _=>Rd.own tk1 (by first|exact wa_at1 (7) (by omega) (by omega)|exact ba_at1 (7) (by omega) (by omega)|exact wap_at1 (7) (by omega) (by omega)|rfl)) ?_
 refine aS rfl rfl (aS rfl rfl (aS rfl rfl (aS rfl rfl (aS rfl rfl (aS rfl rfl (aS rfl rfl (aS rfl rfl (.nil (.code (.seq (.seq (rq1 rfl rfl (mV rfl rfl (.nil (.code (.block ?_))))))))))))))))
 refine Wk.lop (α:=Nat×(Nat→W)) (fun gh=>[(11,true,U (gh.2 0)),(12,true,U (gh.2 1)),(13,true,U (gh.2 2)),(14,true,U (gh.2 3)),(15,true,U (gh.2 4)),(16,true,U (gh.2 5)),(17,true,U (gh.2 6)),(18,true,U (gh.2 7)),(131,true,.int .i64 (gh.1:Int))]) (fun _=>[])
  (fun gh Gl=>(gh.1≤64)∧(gh.2=rnds y s gh.1)) (fun gh=>64-gh.1) (0,s) [(0,true,_),(4,true,_)] [_,_]
  (esD rfl (esD rfl (esD rfl (esD rfl (esD rfl (esD rfl (esD rfl (esD rfl (esC rfl (by first|rfl|exact evi (by omega)) (esD rfl (esD rfl eZ)))))))))))
  (mS .here rfl (mS .here rfl mN)) ?_ ?_
 ·refine ⟨?_,?_⟩
  ·(try dsimp only)<;>(first|omega|rfl|assumption|(simp; done))
  (try dsimp only)<;>(first|omega|rfl|assumption|(simp; done))
 intro gh N3 Gl3 hN3 hGl3 hF3
 obtain ⟨k2,x⟩:=gh; dsimp only at hF3 hN3 ⊢
 obtain ⟨hk2,ex⟩:=hF3
 have hK:=hK.mono hGl3
 refine .seq (rq1 rfl rfl (cp rfl .no (.u rfl) (.u rfl) rfl (.nil (.code (.seq (.cond rfl (fun c4=>?_) (fun c4=>?_)))))))
 ·have c4k:=c4
  try simp only [qcA,qcB] at c4
  refine .skip (.code (.seq (.block (.seq (rq2 rfl rfl (mV rfl rfl (aS rfl rfl (.nil (.code (.seq (Wk.draw (mc:=⟨false,false⟩) [0,1,3,6,10,11,12,13,14,15,16,18,19,20,22,23,24,2,4,5,7,8,9,17,21,25,26] Fx.mix (by kernel_rfl) ?_)))))))))))
  refine mV rfl rfl (mV rfl rfl (mV rfl rfl (mV rfl rfl (mV rfl rfl (mV rfl rfl (mV rfl rfl (mV rfl rfl (bw (k:=.u32) rfl .no rfl (.u rfl) (.u rfl) rfl (bw (k:=.u32) rfl .no rfl (.u rfl) (.u rfl) rfl (bw (k:=.u32) rfl .no rfl (.u rfl) (.u rfl) rfl (mV rfl rfl (iA rfl .no Fx.ar162 (.u rfl) (.u rfl) (fun _=>by omega) (fun _=>by omega) ?_))))))))))))
  refine ld rfl .no Fx.ag126 (.u rfl) (fun _=>(hK.wat (k2) (by omega) (by omega)).rd) ?_
  refine mV rfl rfl (iA rfl .no Fx.ar162 (.u rfl) (.u rfl) (fun _=>by omega) (fun _=>by omega) ?_)
  refine ld rfl .no Fx.ag126 (.u rfl) (fun _=>Rd.own .here (by first|exact wa_at1 (k2) (by omega) (by omega)|exact ba_at1 (k2) (by omega) (by omega)|exact wap_at1 (k2) (by omega) (by omega)|rfl)) ?_
  refine kv rfl .no Fx.go85 (Evc rfl (Evc rfl Evn)) (fun _=>right_ok _ 6 _ (by decide)) ?_
  refine kv rfl .no Fx.go85 (Evc rfl (Evc rfl Evn)) (fun _=>right_ok _ 11 _ (by decide)) ?_
  refine bw (k:=.u32) rfl .no rfl (.u rfl) (.u rfl) rfl (kv rfl .no Fx.go85 (Evc rfl (Evc rfl Evn)) (fun _=>right_ok _ 25 _ (by decide)) ?_)
  refine bw (k:=.u32) rfl .no rfl (.u rfl) (.u rfl) rfl (bw (k:=.u32) rfl .no rfl (.u rfl) (.u rfl) rfl (bw (k:=.u32) rfl .no rfl (.u rfl) (.u rfl) rfl (bw (k:=.u32) rfl .no rfl (.u rfl) (.u rfl) rfl (bw (k:=.u32) rfl .no rfl (.u rfl) (.u rfl) rfl (aS rfl rfl (.nil (.code (.seq (Wk.rg [0,1,2,3,4,5,6,7,8,9,10,11,12,13,14,15,16,17,18] rfl rfl (mV rfl rfl (kv rfl .no Fx.go85 (Evc rfl (Evc rfl Evn)) (fun _=>right_ok _ 2 _ (by decide)) ?_)))))))))))
  refine mV rfl rfl (kv rfl .no Fx.go85 (Evc rfl (Evc rfl Evn)) (fun _=>right_ok _ 13 _ (by decide)) ?_)
  refine bw (k:=.u32) rfl .no rfl (.u rfl) (.u rfl) rfl (mV rfl rfl (kv rfl .no Fx.go85 (Evc rfl (Evc rfl Evn)) (fun _=>right_ok _ 22 _ (by decide)) ?_))
  refine bw (k:=.u32) rfl .no rfl (.u rfl) (.u rfl) rfl (mV rfl rfl (mV rfl rfl (bw (k:=.u32) rfl .no rfl (.u rfl) (.u rfl) rfl (mV rfl rfl (mV rfl rfl (mV rfl rfl (bw (k:=.u32) rfl .no rfl (.u rfl) (.u rfl) rfl (bw (k:=.u32) rfl .no rfl (.u rfl) (.u rfl) rfl (bw (k:=.u32) rfl .no rfl (.u rfl) (.u rfl) rfl (bw (k:=.u32) rfl .no rfl (.u rfl) (.u rfl) rfl (aS rfl rfl (.nil (.code (Wk.rg [0,1,2,3,4,5,6,7,8,9,10,11,12,13,14,15,16,17,18,19] rfl rfl (mV rfl rfl (mV rfl rfl (bw (k:=.u32) rfl .no rfl (.u rfl) (.u rfl) rfl (mV rfl rfl (mV rfl rfl (mV rfl rfl (mV rfl rfl (mV rfl rfl (bw (k:=.u32) rfl .no rfl (.u rfl) (.u rfl) rfl (mV rfl rfl (mV rfl rfl (mV rfl rfl (aS rfl rfl (aS rfl rfl (aS rfl rfl (aS rfl rfl (aS rfl rfl (aS rfl rfl (aS rfl rfl (aS rfl rfl (.nil (.blk (.code (rq2 rfl rfl (arn (((k2+1):Nat):Int) rfl .no (.u rfl) (.u rfl) rfl (fun _=>by omega) (fun _=>wrap_i64 (by omega) (by omega)) ?_)))))))))))))))))))))))))))))))))))))))
  refine mV rfl rfl (.nil (We.lpo (k2+1,rndW x (kW k2) (y k2)) ?_ ?_ ?_ ?_ ?_))
  ·exact (esD rfl (esD rfl (esD rfl (esD rfl (esD rfl (esD rfl (esD rfl (esD rfl (esC rfl (by first|rfl|exact evi (by omega)) (esD rfl (esD rfl eZ)))))))))))
  ·exact (mS .here rfl (mS .here rfl mN))
  ·first|omega|(dsimp only; omega)
  ·exact hGl3
  refine ⟨?_,?_⟩
  ·(try dsimp only)<;>(first|omega|rfl|assumption|(simp; done))
  (try dsimp only)<;>(rw [ex]; rfl)
 have c4k:=c4
 try simp only [qcA,qcB] at c4
 refine .exit (.xcode (.xlp (.xblk (.code (.seq ?_)))))
 obtain rfl:k2=64:=by omega
 refine rq10 rfl rfl (mV rfl rfl (mV rfl rfl (mV rfl rfl (mV rfl rfl (mV rfl rfl (mV rfl rfl (mV rfl rfl (mV rfl rfl (bCe (wa 8 x) rfl .no Fx.bp130_0_1_2_3_4_5_6_7 (.cons (.u rfl) rfl (.cons (.u rfl) rfl (.cons (.u rfl) rfl (.cons (.u rfl) rfl (.cons (.u rfl) rfl (.cons (.u rfl) rfl (.cons (.u rfl) rfl (.cons (.u rfl) rfl .nil)))))))) rfl (by simp [bFold,put,wa,List.range_succ]) ?_)))))))))
 refine mV rfl rfl (.nil (.code (.block ?_)))
 refine Wk.lop (α:=Nat×(Nat→W)) (fun gh=>[(200,true,.int .i64 (gh.1:Int))]) (fun gh=>[.blk bs (cl (wa 8 gh.2++[vp,nn]) 132)])
  (fun gh Gl=>(gh.1≤8)∧(gh.2=fun i=>if i<gh.1 then s i+x i else s i)) (fun gh=>8-gh.1) (0,s) [(0,true,_),(199,true,_)] [_]
  (esC rfl (by first|rfl|exact evi (by omega)) (esD rfl (esD rfl eZ)))
  (mS tk1 rfl (mS .here rfl mN)) ?_ ?_
 ·refine ⟨?_,?_⟩
  ·(try dsimp only)<;>(first|omega|rfl|assumption|(simp; done))
  (try dsimp only)<;>(funext i; simp)
 intro gh N4 Gl4 hN4 hGl4 hF4
 obtain ⟨k3,z⟩:=gh; dsimp only at hF4 hN4 ⊢
 obtain ⟨hk3,ez⟩:=hF4
 refine .seq (rq1 rfl rfl (cp rfl .no (.u rfl) (.u rfl) rfl (.nil (.code (.seq (.cond rfl (fun c5=>?_) (fun c5=>?_)))))))
 ·have c5k:=c5
  try simp only [qcA,qcB] at c5
  refine .skip (.code (.seq (.block (.seq (rq4 rfl rfl (mV rfl rfl (ix rfl .no Fx.ar130 Fx.ag126 (.u rfl) (.u rfl) (fun _=>by omega) (fun _=>by omega) (fun _=>wa_at (n:=8) (y:=x) (j:=k3) (by omega)) ?_)))))))
  refine aS rfl rfl (aS rfl rfl (.nil (.code (Wk.draw (mc:=⟨false,false⟩) [0,1,2,3,4,5,6,7,8,9,10,11] Fx.mix (by kernel_rfl) ?_))))
  refine mV rfl rfl (mV rfl rfl (nc rfl .no (.u rfl) (fz rfl .no Fx.fo132_0 (.u rfl) (iA rfl .no Fx.ar130 (.u rfl) (.u rfl) (fun _=>by omega) (fun _=>by omega) ?_))))
  refine ld rfl .no Fx.ag126 (.u rfl) (fun _=>Rd.own .here (by first|exact wa_at1 (k3) (by omega) (by omega)|exact ba_at1 (k3) (by omega) (by omega)|exact wap_at1 (k3) (by omega) (by omega)|rfl)) ?_
  refine mV rfl rfl (bw (k:=.u32) rfl .no rfl (.u rfl) (.u rfl) rfl (nc rfl .no (.u rfl) (fz rfl .no Fx.fo132_0 (.u rfl) (iA rfl .no Fx.ar130 (.u rfl) (.u rfl) (fun _=>by omega) (fun _=>by omega) ?_))))
  refine s1 rfl (.u rfl) (.u rfl) rfl Fx.sz126 .here (by first|decide|(simp only [wa_len,ba_len,qlA]; omega)) (by first|exact wa_set1 (k3) (by omega)|exact ba_set1 (k3) (by omega)|exact wap_set1 (k3) (by omega) (by omega)|rfl) ?_
  refine .nil (.blk (.code (rq2 rfl rfl (arn (((k3+1):Nat):Int) rfl .no (.u rfl) (.u rfl) rfl (fun _=>by omega) (fun _=>wrap_i64 (by omega) (by omega)) ?_))))
  refine mV rfl rfl (.nil (We.lpo (k3+1,_) (esC rfl (by first|rfl|exact evi (by omega)) (esD rfl (esD rfl eZ))) (mS .here rfl (mS .here rfl mN)) ?_ ?_ ?_))
  ·first|omega|(dsimp only; omega)
  ·exact hGl4
  refine ⟨?_,?_⟩
  ·(try dsimp only)<;>(first|omega|rfl|assumption|(simp; done))
  (try dsimp only)<;>(rw [ez]; exact upd_if)
 have c5k:=c5
 try simp only [qcA,qcB] at c5
 refine .exit (.xcode (.xlp (.xblk (.nil (We.fin Tryd.results79 .nil (mS .here rfl mN) ?_)))))
 obtain rfl:k3=8:=by omega
 refine ⟨?_,rfl⟩
 rw [ez,ex,ey,wa_congr (f:=fun i=>if i<8 then s i+rnds (sched (fun i=>xs.getD i 0) 48) s 64 i else s i) (f':=shaC s (fun i=>xs.getD i 0)) (fun i hi=>by rw [if_pos hi]; rfl)]
namespace Fx
theorem fo132_2:fOff Tryd.prog 132 2=some 9:=by kernel_rfl
theorem ag3:aggN Tryd.prog 3=some none:=by kernel_rfl
theorem sz3:szT Tryd.prog 3=some 1:=by kernel_rfl
theorem fo132_1:fOff Tryd.prog 132 1=some 8:=by kernel_rfl
theorem ag36:aggN Tryd.prog 36=some none:=by kernel_rfl
theorem zv5:(Tryd.prog.info? 5).bind (·.zero)=some (.int .u8 0):=by kernel_rfl
theorem sz36:szT Tryd.prog 36=some 1:=by kernel_rfl
theorem go79:goFn Tryd.prog 79=true:=by kernel_rfl
end Fx
theorem block_row (s:Nat→W) (xs:List Y) (v vp nn:Value) (bs:Nat) (G:PM) (hK:RdNP G 0 0 (wa 64 kW)) (hl:64≤xs.length):Ct Tryd.prog 79 ([.pointer (some ⟨bs,0,none⟩),v]:List Value).toArray G [rB v 5 xs,.blk bs (cl (wa 8 s++[vp,nn]) 132)] (fun _ μ' u=>∃ ν,μ'=rB v 5 xs :: ν∧ν=[.blk bs (cl (wa 8 (shaC s (fun i=>xs.getD i 0))++[vp,nn]) 132)]∧u=.tuple #[]) :=
 Ct.lendB (fun h G2 hle hv hs=>by subst hv; exact block_ok s xs h vp nn bs G2 hs (hK.mono hle) hl)
theorem st_s8 {y:Nat→W} {a b v:Value}:(wa 8 y++[a,b]).set 8 v=wa 8 y++[v,b]:=wap_s rfl
theorem st_s9 {y:Nat→W} {a b v:Value}:(wa 8 y++[a,b]).set 9 v=wa 8 y++[a,v]:=wap_s rfl
theorem st_eq {zs:List Y} {j m b T:Nat} {vp:Value} (hj:zs.length / 64=j) (hm:m=zs.length):Res.blk b (cl (wa 8 (shaW zs j)++[vp,.int .i64 (m:Int)]) T)=.blk b (cl (stC zs vp) T):=by
 subst hj; subst hm; rfl
theorem put_step {zs L:List Y} {j b T:Nat} {vq nn:Value} (eL:L=zs.drop (64*j)) (h:64≤L.length):Res.blk b (cl (wa 8 (shaC (shaW zs j) (fun i=>L.getD i 0))++[vq,nn]) T)=.blk b (cl (wa 8 (shaW zs (j+1))++[vq,nn]) T):=by
 rw [shaW,shaC_congr (b':=blkF zs j)]
 intro i hi
 rw [eL,blkF]; simp [List.getD_eq_getElem?_getD,List.getElem?_drop]
theorem put_first {xs ys L:List Y} {b T k:Nat} {vq nn:Value} (eL:L=restL xs++ys.take k) (hk:k=min (64-(restL xs).length) ys.length) (h:64≤L.length):Res.blk b (cl (wa 8 (shaC (shaW xs (xs.length / 64)) (fun i=>L.getD i 0))++[vq,nn]) T)=.blk b (cl (wa 8 (shaW (xs++ys) (xs.length / 64+1))++[vq,nn]) T):=by
 have hr:=rest_len xs
 rw [eL,List.length_append,List.length_take] at h
 rw [shaW,shaW_app (by omega),shaC_congr (b':=blkF (xs++ys) (xs.length / 64))]
 intro i hi
 rw [eL,blkF]
 simp only [List.getD_eq_getElem?_getD,List.getElem?_append,List.getElem?_take,hr]
 by_cases h1:i<xs.length%64
 ·simp [h1,restL,show 64*(xs.length / 64)+i<xs.length by omega]
 ·rw [if_neg h1,if_pos (by omega),if_neg (by omega)]
  congr 2; omega
theorem put_rest {xs ys L:List Y} (eL:L=restL xs++ys.take (min (64-(restL xs).length) ys.length)) (h:L.length<64):L=restL (xs++ys)∧(xs++ys).length / 64=xs.length / 64∧shaW (xs++ys) (xs.length / 64)=shaW xs (xs.length / 64):=by
 have hr:=rest_len xs
 rw [eL,List.length_append,List.length_take] at h
 have e:(xs++ys).length / 64=xs.length / 64:=by rw [List.length_append]; omega
 refine ⟨?_,e,shaW_app (by omega)⟩
 have h5:min (64-(restL xs).length) ys.length=ys.length:=by omega
 rw [eL,h5,List.take_length,restL,restL,e,List.drop_append_of_le_length (by omega)]
theorem put_drop {xs ys:List Y} (h:64≤(restL xs).length+ys.length):ys.drop (min (64-(restL xs).length) ys.length)=(xs++ys).drop (64*(xs.length / 64+1)):=by
 have hr:=rest_len xs
 rw [List.drop_append,List.drop_of_length_le (show xs.length≤64*(xs.length / 64+1) by omega),List.nil_append]
 congr 1; omega
theorem put_drop0 {xs ys:List Y} (h:(restL xs).length=0):ys=(xs++ys).drop (64*(xs.length / 64)):=by
 have hr:=rest_len xs
 rw [show 64*(xs.length / 64)=xs.length by omega,List.drop_left]
theorem put_zero {xs ys:List Y} {b T:Nat} {vq nn:Value} (h:(restL xs).length=0):Res.blk b (cl (wa 8 (shaW xs (xs.length / 64))++[vq,nn]) T)=.blk b (cl (wa 8 (shaW (xs++ys) (xs.length / 64))++[vq,nn]) T):=by
 rw [shaW_app (by omega)]
theorem put_ok (xs ys:List Y) (h:Sh) (vp:Value) (bs:Nat) (G:PM) (hs:SlR G 1 encY h ys) (hK:RdNP G 0 0 (wa 64 kW)) (hl:xs.length+ys.length≤4611686018427387904):Ct Tryd.prog 65 ([.pointer (some ⟨bs,0,none⟩),h.val ys.length]:List Value).toArray G [.blk bs (cl (stC xs vp) 132),rB vp 5 (restL xs)] (fun _ μ' u=>∃ vp',μ'=[.blk bs (cl (stC (xs++ys) vp') 132),rB vp' 5 (restL (xs++ys))]∧u=.tuple #[]):=by
 refine Ct.of Tryd.func65 rfl Tryd.ntmps65 rfl fun w0 hs0=>?_
 have hr:=rest_len xs
 refine .seq (rq10 rfl rfl (mV rfl rfl (nc rfl .no (.u rfl) (fz rfl .no Fx.fo132_2 (.u rfl) (ld rfl .no Fx.ag3 (.u rfl) (fun _=>Rd.own .here (by first|exact wap_f rfl|rfl)) ?_)))))
 refine mV rfl rfl (ln rfl .no Fx.sn36 (.u rfl) (arn (((xs.length+ys.length):Nat):Int) rfl .no (.u rfl) (.u rfl) rfl (fun _=>by omega) (fun _=>wrap_i64 (by omega) (by omega)) ?_))
 refine nc rfl .no (.u rfl) (fz rfl .no Fx.fo132_2 (.u rfl) (s1 rfl (.u rfl) (.u rfl) rfl Fx.sz3 .here (by first|decide|(simp only [stC,wa_len,ba_len,qlA]; omega)) (by first|exact st_s8|exact st_s9) ?_))
 refine .nil (.code (.seq (.seq (rq6 rfl rfl (mV rfl rfl (nc rfl .no (.u rfl) (fz rfl .no Fx.fo132_1 (.u rfl) (ld rfl .no Fx.ag36 (.u rfl) (fun _=>Rd.own .here (by first|exact wap_f rfl|rfl)) ?_))))))))
 refine lr rfl .no Fx.sn36 (.u rfl) tk1 ?_
 refine cp rfl .no (.u rfl) (.u rfl) rfl (.nil (.code (.cond rfl (fun c1=>?_) (fun c1=>?_))))
 ·have c1k:=c1
  try simp only [qcA,qcB] at c1
  refine .seq (rq10 rfl rfl (mV rfl rfl (nc rfl .no (.u rfl) (fz rfl .no Fx.fo132_1 (.u rfl) (ld rfl .no Fx.ag36 (.u rfl) (fun _=>Rd.own .here (by first|exact wap_f rfl|rfl)) ?_)))))
  refine lr rfl .no Fx.sn36 (.u rfl) tk1 ?_
  refine arn (((64-(restL xs).length):Nat):Int) rfl .no (.u rfl) (.u rfl) rfl (fun _=>by omega) (fun _=>wrap_i64 (by omega) (by omega)) ?_
  refine mV rfl rfl (ln rfl .no Fx.sn36 (.u rfl) (mIn ((64-(restL xs).length)) (ys.length) rfl .no (.u rfl) (.u rfl) (fun _=>by omega) (fun _=>by omega) ?_))
  refine aS rfl rfl (.nil (.code (.seq (Wk.draw (mc:=⟨false,false⟩) [0,1,2,3,4,5,6,7,8,9,10,11] Fx.mix (by kernel_rfl) ?_))))
  refine mV rfl rfl (mV rfl rfl (nc rfl .no (.u rfl) (fz rfl .no Fx.fo132_1 (.u rfl) (ld rfl .no Fx.ag36 (.u rfl) (fun _=>Rd.own .here (by first|exact wap_f rfl|rfl)) ?_))))
  refine mV rfl rfl (mV rfl rfl (kE ((min (64-(restL xs).length) ys.length)) rfl .no Fx.se36 hs (.u rfl) (.u rfl) (fun _=>by omega) (fun _=>by omega) ?_))
  intro h36 L36 eL36 lL36 hs36
  have lL36:=lL36 rfl
  refine apY rfl Fx.se36 Fx.zv5 (.u rfl) (.u rfl) tk1 hs36.sc (by (try simp only [qlA,yl_len]); omega) ?_
  intro v37 L37 ov37 eL37
  have lL37:L37.length=(restL xs).length+L36.length:=by rw [eL37,List.length_append]
  refine nc rfl .no (.u rfl) (fz rfl .no Fx.fo132_1 (.u rfl) (s1v rfl (.u rfl) (.u rfl) .here Fx.sz36 tk1 (by first|decide|(simp only [stC,wa_len,ba_len,qlA]; omega)) (by first|exact st_s8|exact st_s9) ?_))
  refine .nil (.code (.seq (rq4 rfl rfl (mV rfl rfl (mV rfl rfl (kD ((min (64-(restL xs).length) ys.length)) rfl .no Fx.se36 hs (.u rfl) (.u rfl) (fun _=>by omega) (fun _=>by omega) ?_))))))
  intro h42 L42 eL42 lL42 hs42
  have lL42:=lL42 rfl
  refine aS rfl rfl (.nil (.code (.seq (.seq (rq6 rfl rfl (mV rfl rfl (nc rfl .no (.u rfl) (fz rfl .no Fx.fo132_1 (.u rfl) (ld rfl .no Fx.ag36 (.u rfl) (fun _=>Rd.own .here (by first|exact wap_f rfl|rfl)) ?_)))))))))
  refine lr rfl .no Fx.sn36 (.u rfl) tk1 ?_
  refine cp rfl .no (.u rfl) (.u rfl) rfl (.nil (.code (.cond rfl (fun c2=>?_) (fun c2=>?_))))
  ·have c2k:=c2
   try simp only [qcA,qcB] at c2
   refine .ret (We.fin Tryd.results65 .nil (mS .here rfl (mS .here rfl mN)) ?_)
   obtain ⟨e1,e2,e3⟩:=put_rest (eL37.trans (by rw [eL36])) (by omega)
   exact ⟨v37,by rw [← e1,←e3,st_eq e2 (by simp)],rfl⟩
  have c2k:=c2
  try simp only [qcA,qcB] at c2
  refine .skip (.code (.seq (rq6 rfl rfl (mV rfl rfl (mV rfl rfl (nc rfl .no (.u rfl) (fz rfl .no Fx.fo132_1 (.u rfl) (ld rfl .no Fx.ag36 (.u rfl) (fun _=>Rd.own .here (by first|exact wap_f rfl|rfl)) ?_))))))))
  refine ka rfl (.inr rfl) Fx.go79 (Evc rfl (Evc rfl Evn)) (mtk2 tk1 .here) (block_row _ L37 _ _ _ _ _ hK (by omega)) ?_
  rintro _ G54 μ54 hG54 ⟨_,rfl,rfl,rfl⟩
  have hs:=hs.mono hG54
  have hK:=hK.mono hG54
  have hs42:=hs42.mono hG54
  refine .nil (.code (rq4 rfl rfl (mV rfl rfl (nc rfl .no (.u rfl) (fz rfl .no Fx.fo132_1 (.u rfl) (s1 rfl (.u rfl) (.u rfl) rfl Fx.sz36 tk1 (by first|decide|(simp only [stC,wa_len,ba_len,qlA]; omega)) (by first|exact st_s8|exact st_s9) ?_))))))
  refine .nil (we_nilB 5 ?_)
  refine .code (.seq (.block ?_))
  refine Wk.lop (α:=Nat×Sh×List Y×Value) (fun gh=>[(1,true,gh.2.1.val gh.2.2.1.length)]) (fun gh=>[.blk bs (cl (wa 8 (shaW (xs++ys) gh.1)++[gh.2.2.2,.int .i64 ((xs.length+ys.length:Nat):Int)]) 132)])
   (fun gh Gl=>(64*gh.1≤xs.length+ys.length)∧(gh.2.2.1=(xs++ys).drop (64*gh.1))∧(SlR Gl 1 encY gh.2.1 gh.2.2.1)) (fun gh=>gh.2.2.1.length) (xs.length / 64+1,_,_,_) [(0,true,_)] [_]
   (esD rfl (esD rfl eZ))
   (mS tk1 (put_first (eL37.trans (by rw [eL36])) rfl (by omega)) (mS .here rfl mN)) ?_ ?_
  ·refine ⟨?_,?_,?_⟩
   ·(try dsimp only)<;>(omega)
   ·(try dsimp only)<;>(rw [eL42]; exact put_drop (by omega))
   (try dsimp only)<;>(exact hs42)
  intro gh N0 Gl0 hN0 hGl0 hF0
  obtain ⟨j,h',L,vq⟩:=gh; dsimp only at hF0 hN0 ⊢
  obtain ⟨hj,eL,hL⟩:=hF0
  have hs:=hs.mono hGl0
  have hK:=hK.mono hGl0
  have lL:L.length=xs.length+ys.length-64*j:=by rw [eL]; simp
  refine .seq (.seq (rq3 rfl rfl (mV rfl rfl (ln rfl .no Fx.sn36 (.u rfl) (cp rfl .no (.u rfl) (.u rfl) rfl (.nil (.code (.cond rfl (fun c3=>?_) (fun c3=>?_)))))))))
  ·have c3k:=c3
   try simp only [qcA,qcB] at c3
   refine .skip (.code (.seq (.block (rq3 rfl rfl (mV rfl rfl (mV rfl rfl (ka rfl (.inr rfl) Fx.go79 (Evc rfl (Evc rfl Evn)) (mtk1 .here) (block_ok _ L h' _ _ _ _ hL hK (by omega)) ?_)))))))
   rintro _ G65 μ65 hG65 ⟨rfl,rfl⟩
   have hs:=hs.mono hG65
   have hK:=hK.mono hG65
   have hL:=hL.mono hG65
   refine .nil (.blk (.code (rq3 rfl rfl (mV rfl rfl (kD (64) rfl .no Fx.se36 hL (.u rfl) (.u rfl) (fun _=>by omega) (fun _=>by omega) ?_)))))
   intro h62 L62 eL62 lL62 hs62
   have lL62:=lL62 rfl
   refine aS rfl rfl (.nil (We.lpo (j+1,h62,L62,vq) ?_ ?_ ?_ ?_ ?_))
   ·exact (esD rfl (esD rfl eZ))
   ·exact (mS .here (put_step eL (by omega)) (mS .here rfl mN))
   ·first|omega|(dsimp only; omega)
   ·exact (hGl0).trans hG65
   refine ⟨?_,?_,?_⟩
   ·(try dsimp only)<;>(omega)
   ·(try dsimp only)<;>(rw [eL62,eL,List.drop_drop]; congr 1)
   (try dsimp only)<;>(exact hs62)
  have c3k:=c3
  try simp only [qcA,qcB] at c3
  refine .exit (.xcode (.xlp (.xblk (.code (rq7 rfl rfl (mV rfl rfl ?_))))))
  refine b0B rfl Fx.se36 ?_; intro b67
  refine mV rfl rfl (apY0 rfl Fx.se36 Fx.zv5 (.u rfl) (.u rfl) .here hL.sc (by (try simp only [qlA,yl_len]); omega) ?_)
  intro v69 L69 _ ov69 eL69
  have lL69:L69.length=L.length:=by rw [eL69]
  refine nc rfl .no (.u rfl) (fz rfl .no Fx.fo132_1 (.u rfl) (s1v rfl (.u rfl) (.u rfl) .here Fx.sz36 tk1 (by first|decide|(simp only [stC,wa_len,ba_len,qlA]; omega)) (by first|exact st_s8|exact st_s9) ?_))
  refine .nil (.nil (We.fin Tryd.results65 .nil (mS .here rfl (mS .here rfl mN)) ?_))
  have ej:(xs++ys).length / 64=j:=by rw [List.length_append]; omega
  exact ⟨v69,by rw [st_eq ej (by simp),eL69,eL,restL,ej],rfl⟩
 have c1k:=c1
 try simp only [qcA,qcB] at c1
 refine .skip (.code (.seq (.block ?_)))
 refine Wk.lop (α:=Nat×Sh×List Y×Value) (fun gh=>[(1,true,gh.2.1.val gh.2.2.1.length)]) (fun gh=>[.blk bs (cl (wa 8 (shaW (xs++ys) gh.1)++[gh.2.2.2,.int .i64 ((xs.length+ys.length:Nat):Int)]) 132)])
  (fun gh Gl=>(64*gh.1≤xs.length+ys.length)∧(gh.2.2.1=(xs++ys).drop (64*gh.1))∧(SlR Gl 1 encY gh.2.1 gh.2.2.1)) (fun gh=>gh.2.2.1.length) (xs.length / 64,_,_,_) [(0,true,_)] [_]
  (esD rfl (esD rfl eZ))
  (mS .here (put_zero (by omega)) (mS .here rfl mN)) ?_ ?_
 ·refine ⟨?_,?_,?_⟩
  ·(try dsimp only)<;>(omega)
  ·(try dsimp only)<;>(exact put_drop0 (by omega))
  (try dsimp only)<;>(exact hs)
 intro gh N1 Gl1 hN1 hGl1 hF1
 obtain ⟨j,h',L,vq⟩:=gh; dsimp only at hF1 hN1 ⊢
 obtain ⟨hj,eL,hL⟩:=hF1
 have hK:=hK.mono hGl1
 have lL:L.length=xs.length+ys.length-64*j:=by rw [eL]; simp
 refine .seq (.seq (rq3 rfl rfl (mV rfl rfl (ln rfl .no Fx.sn36 (.u rfl) (cp rfl .no (.u rfl) (.u rfl) rfl (.nil (.code (.cond rfl (fun c4=>?_) (fun c4=>?_)))))))))
 ·have c4k:=c4
  try simp only [qcA,qcB] at c4
  refine .skip (.code (.seq (.block (rq3 rfl rfl (mV rfl rfl (mV rfl rfl (ka rfl (.inr rfl) Fx.go79 (Evc rfl (Evc rfl Evn)) (mtk1 .here) (block_ok _ L h' _ _ _ _ hL hK (by omega)) ?_)))))))
  rintro _ G65 μ65 hG65 ⟨rfl,rfl⟩
  have hL:=hL.mono hG65
  refine .nil (.blk (.code (rq3 rfl rfl (mV rfl rfl (kD (64) rfl .no Fx.se36 hL (.u rfl) (.u rfl) (fun _=>by omega) (fun _=>by omega) ?_)))))
  intro h62 L62 eL62 lL62 hs62
  have lL62:=lL62 rfl
  refine aS rfl rfl (.nil (We.lpo (j+1,h62,L62,vq) ?_ ?_ ?_ ?_ ?_))
  ·exact (esD rfl (esD rfl eZ))
  ·exact (mS .here (put_step eL (by omega)) (mS .here rfl mN))
  ·first|omega|(dsimp only; omega)
  ·exact (hGl1).trans hG65
  refine ⟨?_,?_,?_⟩
  ·(try dsimp only)<;>(omega)
  ·(try dsimp only)<;>(rw [eL62,eL,List.drop_drop]; congr 1)
  (try dsimp only)<;>(exact hs62)
 have c4k:=c4
 try simp only [qcA,qcB] at c4
 refine .exit (.xcode (.xlp (.xblk (.code (rq7 rfl rfl (mV rfl rfl ?_))))))
 refine b0B rfl Fx.se36 ?_; intro b67
 refine mV rfl rfl (apY0 rfl Fx.se36 Fx.zv5 (.u rfl) (.u rfl) .here hL.sc (by (try simp only [qlA,yl_len]); omega) ?_)
 intro v69 L69 _ ov69 eL69
 have lL69:L69.length=L.length:=by rw [eL69]
 refine nc rfl .no (.u rfl) (fz rfl .no Fx.fo132_1 (.u rfl) (s1v rfl (.u rfl) (.u rfl) .here Fx.sz36 tk1 (by first|decide|(simp only [stC,wa_len,ba_len,qlA]; omega)) (by first|exact st_s8|exact st_s9) ?_))
 refine .nil (.nil (We.fin Tryd.results65 .nil (mS .here rfl (mS .here rfl mN)) ?_))
 have ej:(xs++ys).length / 64=j:=by rw [List.length_append]; omega
 exact ⟨v69,by rw [st_eq ej (by simp),eL69,eL,restL,ej],rfl⟩
namespace Fx
theorem zr132:zrL Tryd.prog 132=some ([.int .u32 0,.int .u32 0,.int .u32 0,.int .u32 0,.int .u32 0,.int .u32 0,.int .u32 0,.int .u32 0,.slice none 0 0,.int .i64 0]):=by kernel_rfl
theorem bp132_0:bPl Tryd.prog 132 [0]=some ([.int .u32 0,.int .u32 0,.int .u32 0,.int .u32 0,.int .u32 0,.int .u32 0,.int .u32 0,.int .u32 0,.slice none 0 0,.int .i64 0],[(0,8)]):=by kernel_rfl
theorem sz132:szT Tryd.prog 132=some 10:=by kernel_rfl
theorem ag132:aggN Tryd.prog 132=some (some 10):=by kernel_rfl
theorem go64:goFn Tryd.prog 64=true:=by kernel_rfl
theorem pt154:ptT Tryd.prog 154=true:=by kernel_rfl
theorem go65:goFn Tryd.prog 65=true:=by kernel_rfl
theorem zq23:zrL Tryd.prog 23=some (ba 32 (fun _=>0#8)):=by kernel_rfl
theorem ag130:aggN Tryd.prog 130=some (some 8):=by kernel_rfl
theorem bp132_0_1_2:bPl Tryd.prog 132 [0,1,2]=some ([.int .u32 0,.int .u32 0,.int .u32 0,.int .u32 0,.int .u32 0,.int .u32 0,.int .u32 0,.int .u32 0,.slice none 0 0,.int .i64 0],[(0,8),(8,1),(9,1)]):=by kernel_rfl
theorem cv3_24:cvK Tryd.prog 3 24=some .u64:=by kernel_rfl
theorem cv24_5:cvK Tryd.prog 24 5=some .u8:=by kernel_rfl
theorem ar23:arE Tryd.prog 23=some (32,5,1):=by kernel_rfl
theorem ag23:aggN Tryd.prog 23=some (some 32):=by kernel_rfl
theorem sz23:szT Tryd.prog 23=some 32:=by kernel_rfl
end Fx
theorem begin_ok (G:PM):Ct Tryd.prog 64 ([]:List Value).toArray G [] (fun _ μ' u=>μ'=[]∧u=.agg (stC [] (.slice none 0 0)).toArray):=by
 refine Ct.of Tryd.func64 rfl Tryd.ntmps64 rfl fun w0 hs0=>?_
 refine .seq (rq1 rfl rfl ?_)
 refine al rfl Fx.zr132 ?_; intro b0
 refine .nil (.code (.seq (rq3 rfl rfl (bCe (wa 8 ivW) rfl .no Fx.bp130_0_1_2_3_4_5_6_7 (.cons (.u rfl) rfl (.cons (.u rfl) rfl (.cons (.u rfl) rfl (.cons (.u rfl) rfl (.cons (.u rfl) rfl (.cons (.u rfl) rfl (.cons (.u rfl) rfl (.cons (.u rfl) rfl .nil)))))))) rfl (by rfl) ?_))))
 refine bCe (stC [] (.slice none 0 0)) rfl .no Fx.bp132_0 (.cons (.u rfl) rfl .nil) rfl (by rfl) ?_
 refine sw rfl (.u rfl) (.u rfl) rfl Fx.sz132 .here (by rfl) (one_app (wa_one _ _) (one2 rfl rfl)) ?_
 refine .nil (.code (.ret (We.fin0 Tryd.results64 (.cell rfl (fun w hw=>run_loadVarN Fx.ag132 (RdN.own .here) ((by rfl)) hw) .nil) ?_)))
 exact ⟨rfl,rfl⟩
theorem New_ok (G:PM):Ct Tryd.prog 87 ([]:List Value).toArray G [] (fun _ μ' u=>∃ b,μ'=[.blk b (cl (stC [] (.slice none 0 0)) 132),rB (.slice none 0 0) 5 (restL [])]∧u=.pointer (some ⟨b,0,none⟩)):=by
 refine Ct.of Tryd.func87 rfl Tryd.ntmps87 rfl fun w0 hs0=>?_
 refine .seq (rq1 rfl rfl (aS rfl rfl (.nil (.code (.seq (rq3 rfl rfl (kv rfl .no Fx.go64 Evn (fun _=>begin_ok _) ?_)))))))
 refine al rfl Fx.zr132 ?_; intro b1
 refine sw rfl (.u rfl) (.u rfl) rfl Fx.sz132 .here (by rfl) (one_app (wa_one _ _) (one2 rfl rfl)) ?_
 refine .nil (.code (.seq (rq1 rfl rfl (aS rfl rfl (.nil (we_nilB 5 ?_))))))
 refine .code (.ret (We.fin Tryd.results87 (.tmp rfl .nil) (mS tk1 rfl (mS .here rfl mN)) ?_))
 exact ⟨_,rfl,rfl⟩
theorem Write_ok (xs ys:List Y) (h:Sh) (vp:Value) (bs:Nat) (G:PM) (hs:SlR G 1 encY h ys) (hK:RdNP G 0 0 (wa 64 kW)) (hl:xs.length+ys.length≤4611686018427387904):Ct Tryd.prog 88 ([.pointer (some ⟨bs,0,none⟩),h.val ys.length]:List Value).toArray G [.blk bs (cl (stC xs vp) 132),rB vp 5 (restL xs)] (fun _ μ' u=>∃ vp',μ'=[.blk bs (cl (stC (xs++ys) vp') 132),rB vp' 5 (restL (xs++ys))]∧u=.tuple #[]):=by
 refine Ct.of Tryd.func88 rfl Tryd.ntmps88 rfl fun w0 hs0=>?_
 refine .seq (rq2 rfl rfl (mV rfl rfl (pn rfl .no Fx.pt154 (.u rfl) (.u rfl) ?_)))
 refine .nil (.code (Wk.condT rfl rfl ?_))
 refine rq3 rfl rfl (mV rfl rfl (mV rfl rfl (ka rfl (.inr rfl) Fx.go65 (Evc rfl (Evc rfl Evn)) (mtk2 .here .here) (put_ok _ _ _ _ _ _ hs hK hl) ?_)))
 rintro _ G8 μ8 hG8 ⟨vq,rfl,rfl⟩
 refine .nil (.nil (We.fin Tryd.results88 .nil (mS .here rfl (mS .here rfl mN)) ?_))
 exact ⟨vq,rfl,rfl⟩
theorem st_w {xs:List Y} {vp:Value}:((stC xs vp).drop 0).take 8=wa 8 (shaW xs (xs.length / 64)):=by
 rw [List.drop_zero,stC,List.take_append_of_le_length (by rw [wa_len]; exact Nat.le_refl _),List.take_of_length_le (by rw [wa_len]; exact Nat.le_refl _)]
theorem st_b {zs:List Value} {xs:List Y} {v:Value} (h:zs.length=10):bFold zs [(0,8),(8,1),(9,1)] [wa 8 (shaW xs (xs.length / 64)),[v],[.int .i64 (xs.length:Int)]]=stC xs v:=by
 match zs,h with
 | [a,b,c,d,e,f,g,h,i,j],_=>rfl
theorem lenF_int {n q:Nat} (h:q<8):lenF n q=((BitVec.ofInt 64 (n:Int)*8#64) >>> (56-8*(q:Int)).toNat).setWidth 8:=by
 rw [show (56-8*(q:Int)).toNat=56-8*q by omega]; rfl
theorem StSum_ok (xs:List Y) (vp:Value) (bs:Nat) (G:PM) (hK:RdNP G 0 0 (wa 64 kW)) (hl:xs.length≤1152921504606846976):Ct Tryd.prog 66 ([.pointer (some ⟨bs,0,none⟩)]:List Value).toArray G [.blk bs (cl (stC xs vp) 132),rB vp 5 (restL xs)] (fun _ μ' u=>μ'=[.blk bs (cl (stC xs vp) 132),rB vp 5 (restL xs)]∧u=.agg (ba 32 (shaD xs)).toArray):=by
 refine Ct.of Tryd.func66 rfl Tryd.ntmps66 rfl fun w0 hs0=>?_
 have hr:=rest_len xs
 have hz:zeros xs.length=(119-xs.length%64)%64:=rfl
 refine .seq (rq1 rfl rfl ?_)
 refine al rfl Fx.zq23 ?_; intro b2
 refine .nil (.code (.seq (rq3 rfl rfl (kv rfl .no Fx.go64 Evn (fun _=>begin_ok _) ?_))))
 refine al rfl Fx.zr132 ?_; intro b3
 refine sw rfl (.u rfl) (.u rfl) rfl Fx.sz132 .here (by rfl) (one_app (wa_one _ _) (one2 rfl rfl)) ?_
 refine .nil (.code (.seq (.seq (rq2 rfl rfl (mV rfl rfl (pn rfl .no Fx.pt154 (.u rfl) (.u rfl) ?_))))))
 refine .nil (.code (Wk.condT rfl rfl ?_))
 refine wk_rs tk3 ?_; intro sRP bbRP evRP lcRP oaRP; subst evRP
 refine Wk.draw (mc:=⟨false,true⟩) [0,1,2,3,5,6,7,8,10,11,12,13,4,9,14,15] Fx.mix (by kernel_rfl) ?_
 refine mV rfl rfl (nc rfl .no (.u rfl) (fz rfl .no Fx.fo132_0 (.u rfl) (lA rfl .no Fx.ag130 (.u rfl) (fun _=>RdN.part (n:=8) (cs':=wa 8 (shaW xs (xs.length / 64))) tk2 (st_w)) (fun _=>(by first|exact qE|exact qL|rfl)) ?_)))
 refine mV rfl rfl (nc rfl .no (.u rfl) (fz rfl .no Fx.fo132_1 (.u rfl) (ld rfl .no Fx.ag36 (.u rfl) (fun _=>Rd.own tk2 (by first|exact wap_f rfl|rfl)) ?_)))
 refine mV rfl rfl (nc rfl .no (.u rfl) (fz rfl .no Fx.fo132_2 (.u rfl) (ld rfl .no Fx.ag3 (.u rfl) (fun _=>Rd.own tk2 (by first|exact wap_f rfl|rfl)) ?_)))
 refine b0B rfl Fx.se36 ?_; intro b16
 refine apY0 rfl Fx.se36 Fx.zv5 (.u rfl) (.u rfl) .here (Sc.rowS tk4 oaRP) (by (try simp only [qlA,yl_len]); omega) ?_
 intro v21 L21 _ ov21 eL21
 have lL21:L21.length=(restL xs).length:=by rw [eL21]
 refine bCe (stC xs v21) rfl .no Fx.bp132_0_1_2 (.cons (.u rfl) rfl (.cons (.u rfl) (cells_one ov21) (.cons (.u rfl) rfl .nil))) rfl (st_b rfl) ?_
 refine sw rfl (.u rfl) (.u rfl) rfl Fx.sz132 tk1 (by rfl) (one_app (wa_one _ _) (one2 ov21 rfl)) ?_
 refine .nil (.code (.seq ?_))
 subst eL21
 refine rq5 rfl rfl (fz rfl .no Fx.fo132_2 (.u rfl) (ld rfl .no Fx.ag3 (.u rfl) (fun _=>Rd.own .here (by first|exact wap_f rfl|rfl)) ?_))
 refine ci rfl .no rfl Fx.cv3_24 (.u rfl) ?_
 refine bw (k:=.u64) (b:=8#64) rfl .no rfl (.u rfl) (.u rfl) rfl (aS rfl rfl (.nil (.code (.seq (rq2 rfl rfl ?_)))))
 refine mkY (1) (72) rfl Fx.se36 Fx.zv5 (.u rfl) (.u rfl) (by first|rfl|omega) (by first|rfl|omega) (by omega) (by omega) ?_; intro b31
 have lR31:(List.replicate (1) (0#8:Y)).length=1:=List.length_replicate
 refine aS rfl rfl (.nil (.code (.seq (rq3 rfl rfl (mV rfl rfl (ia rfl .no Fx.se36 (.u rfl) (.u rfl) (fun _=>by omega) (fun _=>by omega) ?_))))))
 refine s1r (z:=128#8) rfl (.u rfl) (.u rfl) Fx.sz5 .here (by omega) ?_; intro Ls6_2 eLs6_2 lLs6_2
 refine .nil (.code (.seq (.block ?_)))
 refine Wk.lop (α:=Nat×Value×List Y) (fun gh=>[(5,true,gh.2.1)]) (fun gh=>[rB gh.2.1 5 gh.2.2])
  (fun gh Gl=>(gh.1≤zeros xs.length)∧(gh.2.2=128#8 :: List.replicate gh.1 0#8)) (fun gh=>zeros xs.length-gh.1) (0,_,_) [(2,true,_),(3,true,_),(4,true,_)] [_,_,_,_,_]
  (esD rfl (esD rfl (esD rfl (esD rfl eZ))))
  (mS .here rfl (mS .here rfl (mS .here rfl (mS .here rfl (mS .here rfl (mS .here rfl mN)))))) ?_ ?_
 ·refine ⟨?_,?_⟩
  ·(try dsimp only)<;>(exact Nat.zero_le _)
  (try dsimp only)<;>(rw [eLs6_2]; rfl)
 intro gh N0 Gl0 hN0 hGl0 hF0
 obtain ⟨j,v,L⟩:=gh; dsimp only at hF0 hN0 ⊢
 obtain ⟨hj,eL⟩:=hF0
 have hK:=hK.mono hGl0
 have lL:L.length=j+1:=by rw [eL]; simp
 have hz:zeros xs.length=(119-xs.length%64)%64:=rfl
 refine .seq (.seq (rq7 rfl rfl (fz rfl .no Fx.fo132_2 (.u rfl) (ld rfl .no Fx.ag3 (.u rfl) (fun _=>Rd.own tk1 (by first|exact wap_f rfl|rfl)) ?_))))
 refine mV rfl rfl (lr rfl .no Fx.sn36 (.u rfl) .here ?_)
 refine arn (((xs.length+L.length):Nat):Int) rfl .no (.u rfl) (.u rfl) rfl (fun _=>by omega) (fun _=>wrap_i64 (by omega) (by omega)) ?_
 refine rmn ((xs.length+L.length)) (64) rfl .no (.u rfl) (.u rfl) (fun _=>by omega) (fun _=>by omega) (fun _=>by first|decide|omega) ?_
 refine cp rfl .no (.u rfl) (.u rfl) rfl (.nil (.code (.cond rfl (fun c1=>?_) (fun c1=>?_))))
 ·have c1k:=c1
  try simp only [qcA,qcB] at c1
  refine .skip (.code (.block (rq4 rfl rfl (mV rfl rfl ?_))))
  refine Go.Tan.b1 rfl Fx.se36 Fx.zv5 (.u rfl) rfl rfl (by decide) ?_; intro b42
  refine apY rfl Fx.se36 Fx.zv5 (.u rfl) (.u rfl) tk1 (Sc.one (y:=0#8) .here) (by show _+1≤_; omega) ?_
  intro v43 L43 ov43 eL43
  have lL43:L43.length=L.length+1:=by rw [eL43,List.length_append]; first|rfl | simp [yl_len]
  refine aS rfl rfl (.nil (.blk (We.lpo (j+1,v43,L43) ?_ ?_ ?_ ?_ ?_)))
  ·exact (esD rfl (esD rfl (esD rfl (esD rfl eZ))))
  ·exact (mS .here rfl (mS tk1 rfl (mS tk1 rfl (mS tk1 rfl (mS tk1 rfl (mS tk1 rfl mN))))))
  ·(try dsimp only); omega
  ·exact hGl0
  refine ⟨?_,?_⟩
  ·(try dsimp only)<;>(omega)
  (try dsimp only)<;>(rw [eL43,eL,List.cons_append,←List.replicate_succ'])
 have c1k:=c1
 try simp only [qcA,qcB] at c1
 refine .exit (.xcode (.xlp (.xblk (.code (.seq (.seq (rq1 rfl rfl (aS rfl rfl (.nil (.code (.block ?_)))))))))))
 refine Wk.lop (α:=Nat×Value×List Y) (fun gh=>[(5,true,gh.2.1),(6,true,.int .i64 (56-8*(gh.1:Int)))]) (fun gh=>[rB gh.2.1 5 gh.2.2])
  (fun gh Gl=>(gh.1≤8)∧(gh.2.2=(128#8 :: List.replicate (zeros xs.length) 0#8)++lenB xs.length gh.1)) (fun gh=>8-gh.1) (0,_,_) [(2,true,_),(3,true,_),(4,true,_)] [_,_,_,_,_]
  (esD rfl (esC rfl (by first|rfl|exact evi (by omega)) (esD rfl (esD rfl (esD rfl eZ)))))
  (mS .here rfl (mS .here rfl (mS .here rfl (mS .here rfl (mS .here rfl (mS .here rfl mN)))))) ?_ ?_
 ·refine ⟨?_,?_⟩
  ·(try dsimp only)<;>(first|omega|rfl|assumption|(simp; done))
  (try dsimp only)<;>(rw [eL,show j=zeros xs.length by omega]; simp [lenB])
 intro gh N1 Gl1 hN1 hGl1 hF1
 obtain ⟨q,v,L⟩:=gh; dsimp only at hF1 hN1 ⊢
 obtain ⟨hq,eL⟩:=hF1
 have hK:=hK.mono hGl1
 have lL:L.length=zeros xs.length+1+q:=by rw [eL]; simp [lenB_len]; omega
 refine .seq (.seq (rq2 rfl rfl (mV rfl rfl (cp rfl .no (.u rfl) (.u rfl) rfl (.nil (.code (.cond rfl (fun c2=>?_) (fun c2=>?_))))))))
 ·have c2k:=c2
  try simp only [qcA,qcB] at c2
  refine .skip (.code (.seq (.block (rq8 rfl rfl (mV rfl rfl (mV rfl rfl (mV rfl rfl (rw' (k:=.u64) rfl .no (.u rfl) (.u rfl) (fun _=>by omega) ?_))))))))
  refine cu (k:=.u64) rfl .no rfl Fx.cv24_5 (.u rfl) ?_
  refine Go.Tan.b1 rfl Fx.se36 Fx.zv5 (.u rfl) rfl rfl (by decide) ?_; intro b53
  refine apY rfl Fx.se36 Fx.zv5 (.u rfl) (.u rfl) tk1 (Sc.one .here) (by show _+1≤_; omega) ?_
  intro v54 L54 ov54 eL54
  have lL54:L54.length=L.length+1:=by rw [eL54,List.length_append]; first|rfl | simp [yl_len]
  refine aS rfl rfl (.nil (.blk (.code (rq3 rfl rfl (mV rfl rfl (ar rfl .no (.u rfl) (.u rfl) rfl (fun _=>wrap_i64 (by omega) (by omega)) ?_))))))
  refine aS rfl rfl (.nil (We.lpo (q+1,v54,L54) ?_ ?_ ?_ ?_ ?_))
  ·exact (esD rfl (esC rfl (by first|rfl|exact evi (by omega)) (esD rfl (esD rfl (esD rfl eZ)))))
  ·exact (mS .here rfl (mS tk1 rfl (mS tk1 rfl (mS tk1 rfl (mS tk1 rfl (mS tk1 rfl mN))))))
  ·first|omega|(dsimp only; omega)
  ·exact hGl1
  refine ⟨?_,?_⟩
  ·(try dsimp only)<;>(first|omega|rfl|assumption|(simp; done))
  (try dsimp only)<;>(rw [eL54,eL,lenB_snoc,←List.append_assoc,lenF_int (by omega)]; rfl)
 have c2k:=c2
 try simp only [qcA,qcB] at c2
 refine .exit (.xcode (.xlp (.xblk (.code (.seq ?_)))))
 have e8:L=tailL xs.length:=by rw [eL,show q=8 by omega]; rfl
 subst e8
 have lt:=tail_len xs.length
 have hz:zeros xs.length=(119-xs.length%64)%64:=rfl
 refine wk_fb .here (keys_sub (mS tk3 rfl (mS tk3 rfl mN))) ?_; intro GfR31 hR31 hleR31 evR31 hsR31; subst evR31
 have hK:=hK.mono hleR31
 refine rq2 rfl rfl (mV rfl rfl (ka rfl (.inr rfl) Fx.go65 (Evc rfl (Evc rfl Evn)) (mtk2 .here .here) (put_ok xs (tailL xs.length) _ _ _ _ hsR31 hK (by omega)) ?_))
 rintro _ G56 μ56 hG56 ⟨vq,rfl,rfl⟩
 refine .nil (.code (.seq (rq1 rfl rfl ?_)))
 refine al rfl Fx.zq23 ?_; intro b7
 refine .nil (.code (.seq (.seq (rq1 rfl rfl (mV rfl rfl (.nil (.code (.block ?_))))))))
 refine Wk.lop (α:=Nat×(Nat→Y)) (fun gh=>[(57,true,.int .i64 (gh.1:Int))]) (fun gh=>[.blk b7 (cl (ba 32 gh.2) 23)])
  (fun gh Gl=>(gh.1≤32)∧(gh.2=outs (shaD xs) gh.1)) (fun gh=>32-gh.1) (0,fun _=>0#8) [(2,true,_),(3,true,_),(7,true,_)] [_,_,_,_,_]
  (esC rfl (by first|rfl|exact evi (by omega)) (esD rfl (esD rfl (esD rfl eZ))))
  (mS .here rfl (mS .here rfl (mS .here rfl (mS .here rfl (mS .here rfl (mS .here rfl mN)))))) ?_ ?_
 ·refine ⟨?_,?_⟩
  ·(try dsimp only)<;>(first|omega|rfl|assumption|(simp; done))
  (try dsimp only)<;>(first|omega|rfl|assumption|(simp; done))
 intro gh N2 Gl2 hN2 hGl2 hF2
 obtain ⟨i,f⟩:=gh; dsimp only at hF2 hN2 ⊢
 obtain ⟨hi,ef⟩:=hF2
 refine .seq (rq1 rfl rfl (cp rfl .no (.u rfl) (.u rfl) rfl (.nil (.code (.seq (.cond rfl (fun c3=>?_) (fun c3=>?_)))))))
 ·have c3k:=c3
  try simp only [qcA,qcB] at c3
  refine .skip (.code (.seq (.block (.seq (rq2 rfl rfl (mV rfl rfl (aS rfl rfl (.nil (.code (Wk.rg [0,1,2,3,4,5,6,7,8,9,10,11,12,13] rfl rfl (mV rfl rfl (mV rfl rfl (qun (i) (4) rfl .no (.u rfl) (.u rfl) (fun _=>by omega) (fun _=>by omega) (fun _=>by first|decide|omega) (fun _=>by omega) ?_)))))))))))))
  refine fz rfl .no Fx.fo132_0 (.u rfl) (iA rfl .no Fx.ar130 (.u rfl) (.u rfl) (fun _=>by omega) (fun _=>by omega) ?_)
  refine ld rfl .no Fx.ag126 (.u rfl) (fun _=>Rd.own tk1 (by first|exact wa_at1 ((i / 4)) (by omega) (by omega)|exact ba_at1 ((i / 4)) (by omega) (by omega)|exact wap_at1 ((i / 4)) (by omega) (by omega)|rfl)) ?_
  refine mV rfl rfl (rmn (i) (4) rfl .no (.u rfl) (.u rfl) (fun _=>by omega) (fun _=>by omega) (fun _=>by first|decide|omega) ?_)
  refine arn (((8*(i%4)):Nat):Int) rfl .no (.u rfl) (.u rfl) rfl (fun _=>by omega) (fun _=>wrap_i64 (by omega) (by omega)) ?_
  refine arn (((24-8*(i%4)):Nat):Int) rfl .no (.u rfl) (.u rfl) rfl (fun _=>by omega) (fun _=>wrap_i64 (by omega) (by omega)) ?_
  refine rw' (k:=.u32) rfl .no (.u rfl) (.u rfl) (fun _=>by omega) ?_
  refine cu (k:=.u32) rfl .no rfl Fx.cv126_5 (.u rfl) ?_
  refine iA rfl .no Fx.ar23 (.u rfl) (.u rfl) (fun _=>by omega) (fun _=>by omega) ?_
  refine s1 rfl (.u rfl) (.u rfl) rfl Fx.sz5 .here (by first|decide|(simp only [wa_len,ba_len,qlA]; omega)) (by first|exact wa_set1 (i) (by omega)|exact ba_set1 (i) (by omega)|exact wap_set1 (i) (by omega) (by omega)|rfl) ?_
  refine .nil (.blk (.code (rq2 rfl rfl (arn (((i+1):Nat):Int) rfl .no (.u rfl) (.u rfl) rfl (fun _=>by omega) (fun _=>wrap_i64 (by omega) (by omega)) ?_))))
  refine mV rfl rfl (.nil (We.lpo (i+1,upd f i (shaD xs i)) ?_ ?_ ?_ ?_ ?_))
  ·exact (esC rfl (by first|rfl|exact evi (by omega)) (esD rfl (esD rfl (esD rfl eZ))))
  ·exact (mS .here rfl (mS .here rfl (mS .here rfl (mS .here rfl (mS .here rfl (mS .here rfl mN))))))
  ·first|omega|(dsimp only; omega)
  ·exact hGl2
  refine ⟨?_,?_⟩
  ·(try dsimp only)<;>(first|omega|rfl|assumption|(simp; done))
  (try dsimp only)<;>(rw [ef]; rfl)
 have c3k:=c3
 try simp only [qcA,qcB] at c3
 refine .exit (.xcode (.xlp (.xblk (.code (.seq (rq2 rfl rfl (lA rfl .no Fx.ag23 (.u rfl) (fun _=>RdN.own .here) (fun _=>(by first|exact qE|exact qL|rfl)) ?_)))))))
 refine sw rfl (.u rfl) (.u rfl) rfl Fx.sz23 tk3 (by first|exact qE|exact qL|rfl) (by first|exact ba_one _ _|exact wa_one _ _|exact one_V _|decide|exact one_app (wa_one _ _) (by simp [Value.oneCell'])) ?_
 refine .nil (.code (.ret (We.fin Tryd.results66 (.cell rfl (fun w hw=>run_loadVarN Fx.ag23 (RdN.own .here) ((by first|exact qE|exact qL|rfl)) hw) .nil) (mS tk4 rfl (mS tk4 rfl mN)) ?_)))
 obtain rfl:i=32:=by omega
 exact ⟨rfl,by rw [ef,ba_congr (fun i hi=>(outs_eq (shaD xs) hi).symm)]; rfl⟩
namespace Fx
theorem ag22:aggN Tryd.prog 22=some (some 32):=by kernel_rfl
theorem ag112:aggN Tryd.prog 112=some (some 12):=by kernel_rfl
theorem go81:goFn Tryd.prog 81=true:=by kernel_rfl
theorem se56:slE Tryd.prog 56=some (36,1,24):=by kernel_rfl
theorem sn56:(slE Tryd.prog 56).isSome=true:=by kernel_rfl
theorem go66:goFn Tryd.prog 66=true:=by kernel_rfl
end Fx
theorem Fix_ok (xs:List Y) (h:Sh) (n:BitVec 64) (many:Nat) (G:PM) (hs:SlR G 1 encY h xs) (hl:xs.length≤140737488351232) (hm:many≤8):Ct Tryd.prog 32 ([h.val xs.length,uv .u64 n,.int .i64 (many:Int)]:List Value).toArray G [] (PR 5 (fun L=>L=xs++fixL n many)):=by
 refine Ct.of Tryd.func32 rfl Tryd.ntmps32 rfl fun w0 hs0=>?_
 refine .seq (rq1 rfl rfl (aS rfl rfl (.nil (.code (.seq (rq4 rfl rfl ?_))))))
 refine b0B rfl Fx.se36 ?_; intro b8
 refine mV rfl rfl (apY0 rfl Fx.se36 Fx.zv5 (.u rfl) (.u rfl) .here hs.sc (by (try simp only [qlA,yl_len]); omega) ?_)
 intro v10 L10 _ ov10 eL10
 have lL10:L10.length=xs.length:=by rw [eL10]
 refine aS rfl rfl (.nil (.code (.seq (.seq (rq4 rfl rfl (mV rfl rfl (mIn (many) (8) rfl .no (.u rfl) (.u rfl) (fun _=>by omega) (fun _=>by omega) ?_)))))))
 refine mAn (0) ((min many 8)) rfl .no (.u rfl) (.u rfl) (fun _=>by omega) (fun _=>by omega) ?_
 refine mV rfl rfl (.nil (.code (.block ?_)))
 refine Wk.lop (α:=Nat×Value×List Y×BitVec 64) (fun gh=>[(1,true,uv .u64 gh.2.2.2),(7,true,gh.2.1),(14,true,.int .i64 (gh.1:Int))]) (fun gh=>[rB gh.2.1 5 gh.2.2.1])
  (fun gh Gl=>(gh.1≤many)∧(gh.2.2.1=xs++fixL n gh.1)∧(gh.2.2.2=n >>> (8*gh.1))) (fun gh=>many-gh.1) (0,_,_,n) [(13,true,_)] []
  (esD rfl (esD rfl (esC rfl (by first|rfl|exact evi (by omega)) (esD rfl eZ))))
  (mS .here rfl mN) ?_ ?_
 ·refine ⟨?_,?_,?_⟩
  ·(try dsimp only)<;>(first|omega|rfl|assumption|(simp; done))
  ·(try dsimp only)<;>(rw [eL10]; simp [fixL])
  (try dsimp only)<;>(simp)
 intro gh N0 Gl0 hN0 hGl0 hF0
 obtain ⟨k,v,L,m⟩:=gh; dsimp only at hF0 hN0 ⊢
 obtain ⟨hk,eL,em⟩:=hF0
 have lL:L.length=xs.length+k:=by rw [eL]; simp [fix_len]
 refine .seq (rq1 rfl rfl (cp rfl .no (.u rfl) (.u rfl) rfl (.nil (.code (.seq (.cond rfl (fun c1=>?_) (fun c1=>?_)))))))
 ·have c1k:=c1
  try simp only [qcA,qcB] at c1
  refine .skip (.code (.seq (.block (.seq (rq6 rfl rfl (mV rfl rfl (mV rfl rfl (cu (k:=.u64) rfl .no rfl Fx.cv24_5 (.u rfl) ?_))))))))
  refine Go.Tan.b1 rfl Fx.se36 Fx.zv5 (.u rfl) rfl rfl (by decide) ?_; intro b19
  refine apY rfl Fx.se36 Fx.zv5 (.u rfl) (.u rfl) tk1 (Sc.one .here) (by show _+1≤_; omega) ?_
  intro v20 L20 ov20 eL20
  have lL20:L20.length=L.length+1:=by rw [eL20,List.length_append]; first|rfl | simp [yl_len]
  refine aS rfl rfl (.nil (.code (rq3 rfl rfl (mV rfl rfl (rw' (k:=.u64) rfl .no (.u rfl) (.u rfl) (fun _=>by decide) ?_)))))
  refine aS rfl rfl (.nil (.blk (.code (rq2 rfl rfl (arn (((k+1):Nat):Int) rfl .no (.u rfl) (.u rfl) rfl (fun _=>by omega) (fun _=>wrap_i64 (by omega) (by omega)) ?_)))))
  refine mV rfl rfl (.nil (We.lpo (k+1,v20,L20,m >>> 8) ?_ ?_ ?_ ?_ ?_))
  ·exact (esD rfl (esD rfl (esC rfl (by first|rfl|exact evi (by omega)) (esD rfl eZ))))
  ·exact (mS .here rfl mN)
  ·first|omega|(dsimp only; omega)
  ·exact hGl0
  refine ⟨?_,?_,?_⟩
  ·(try dsimp only)<;>(first|omega|rfl|assumption|(simp; done))
  ·(try dsimp only)<;>(rw [eL20,eL,em,fix_snoc,List.append_assoc]; rfl)
  (try dsimp only)<;>(rw [em,←BitVec.shiftRight_add]; rfl)
 have c1k:=c1
 try simp only [qcA,qcB] at c1
 refine .exit (.xcode (.xlp (.xblk (.code (.seq (rq2 rfl rfl (mV rfl rfl (aS rfl rfl (.nil (.code (.ret (We.fin Tryd.results32 (.tmp rfl .nil) (mS .here rfl mN) ?_))))))))))))
 obtain rfl:k=many:=by omega
 exact ⟨L,eL,rfl⟩
theorem Cross_ok (key nonce:Nat→Y) (count:W) (h:Sh) (xs:List Y) (G:PM) (hs:SlR G 1 encY h xs) (hl:xs.length≤140737488351232):Ct Tryd.prog 71 ([.agg (ba 32 key).toArray,.agg (ba 12 nonce).toArray,U count,h.val xs.length]:List Value).toArray G [] (PR 5 (fun L=>L=crossL key nonce count xs)):=by
 refine Ct.of Tryd.func71 rfl Tryd.ntmps71 rfl fun w0 hs0=>?_
 refine .seq (rq3 rfl rfl ?_)
 refine bx rfl (.u rfl) rfl ?_; intro b4
 refine bx rfl (.u rfl) rfl ?_; intro b5
 refine aS rfl rfl (.nil (.code (.seq (rq4 rfl rfl ?_))))
 refine b0B rfl Fx.se36 ?_; intro b14
 refine mV rfl rfl (apY0 rfl Fx.se36 Fx.zv5 (.u rfl) (.u rfl) .here hs.sc (by (try simp only [qlA,yl_len]); omega) ?_)
 intro v16 L16 _ ov16 eL16
 have lL16:L16.length=xs.length:=by rw [eL16]
 refine aS rfl rfl (.nil (.code (.seq (.seq ?_))))
 refine wk_rs .here ?_; intro sR16 bbR16 evR16 lcR16 oaR16; subst evR16
 obtain rfl:=eL16.symm
 refine rq2 rfl rfl (mV rfl rfl (aS rfl rfl (.nil (.code (.block ?_)))))
 refine Wk.lop (α:=Nat×Sh×List Y) (fun gh=>[(2,true,U (count+BitVec.ofNat 32 gh.1)),(10,true,gh.2.1.val (xs.length-64*gh.1))]) (fun gh=>[rB (sR16.val xs.length) 5 gh.2.2])
  (fun gh Gl=>(gh.2.2.length=xs.length)∧(gh.2.2=crT key nonce count xs (64*gh.1))∧(64*gh.1<xs.length→gh.2.1.oa=some ⟨bbR16,64*gh.1,none⟩)∧(xs.length-64*gh.1≤gh.2.1.cap)) (fun gh=>xs.length-64*gh.1) (0,sR16,xs) [(4,true,_),(5,true,_),(9,true,_)] [_,_]
  (esC rfl (by simp) (esD rfl (esD rfl (esD rfl (esD rfl eZ)))))
  (mS .here rfl (mS .here rfl (mS .here rfl mN))) ?_ ?_
 ·refine ⟨?_,?_,?_,?_⟩
  ·(try dsimp only)<;>(rfl)
  ·(try dsimp only)<;>(exact (crT_zero _ _ _ _).symm)
  ·(try dsimp only)<;>(exact oaR16)
  (try dsimp only)<;>(exact lcR16)
 intro gh N0 Gl0 hN0 hGl0 hF0
 obtain ⟨j,r,L⟩:=gh; dsimp only at hF0 hN0 ⊢
 obtain ⟨lL,eL,hr,hrc⟩:=hF0
 refine .seq (.seq (rq3 rfl rfl (mV rfl rfl (ln rfl .no Fx.sn36 (.u rfl) (cp rfl .no (.u rfl) (.u rfl) rfl (.nil (.code (.cond rfl (fun c1=>?_) (fun c1=>?_)))))))))
 ·have c1k:=c1
  try simp only [qcA,qcB] at c1
  refine .skip (.code (.seq (.block (.seq ?_))))
  have hlt:64*j<xs.length:=by omega
  have e1:=oaR16 (by omega)
  have e2:=hr hlt
  obtain ⟨so,sc⟩:=sR16
  obtain ⟨ro,rc⟩:=r
  simp only at e1 e2
  subst e1; subst e2
  refine rq6 rfl rfl (lA rfl .no Fx.ag22 (.u rfl) (fun _=>RdN.own tk2) (fun _=>(by first|exact qE|exact qL|rfl)) ?_)
  refine lA rfl .no Fx.ag112 (.u rfl) (fun _=>RdN.own tk1) (fun _=>(by first|exact qE|exact qL|rfl)) ?_
  refine mV rfl rfl (kv rfl .no Fx.go81 (Evc rfl (Evc rfl (Evc rfl Evn))) (fun _=>Block_ok _ _ _ _) ?_)
  refine al rfl Fx.zq156 ?_; intro b11
  refine sw rfl (.u rfl) (.u rfl) rfl Fx.sz156 .here (by first|exact qE|exact qL|rfl) (ba_one _ _) ?_
  refine .nil (.code (.seq (rq4 rfl rfl (mV rfl rfl (ln rfl .no Fx.sn36 (.u rfl) (mIn ((xs.length-64*j)) (64) rfl .no (.u rfl) (.u rfl) (fun _=>by omega) (fun _=>by omega) ?_))))))
  refine aS rfl rfl (.nil (.code (.seq (.seq (rq2 rfl rfl (mV rfl rfl (mV rfl rfl (.nil (.code (.block ?_))))))))))
  refine Wk.lop (α:=Nat×List Y) (fun gh=>[(31,true,.int .i64 (gh.1:Int))]) (fun gh=>[rB (Sh.val ⟨some ⟨bbR16,0,none⟩,sc⟩ xs.length) 5 gh.2])
   (fun gh Gl=>(gh.1≤min (xs.length-64*j) 64)∧(gh.2=crT key nonce count xs (64*j+gh.1))) (fun gh=>64-gh.1) (0,L) [(2,true,_),(4,true,_),(5,true,_),(9,true,_),(10,true,_),(11,true,_),(12,true,_),(30,true,_)] [_,_,_]
   (esC rfl (by first|rfl|exact evi (by omega)) (esD rfl (esD rfl (esD rfl (esD rfl (esD rfl (esD rfl (esD rfl (esD rfl eZ)))))))))
   (mS tk1 rfl (mS .here rfl (mS .here rfl (mS .here rfl mN)))) ?_ ?_
  ·refine ⟨?_,?_⟩
   ·(try dsimp only)<;>(exact Nat.zero_le _)
   (try dsimp only)<;>(rw [eL]; rfl)
  intro gh N1 Gl1 hN1 hGl1 hF1
  obtain ⟨i,L2⟩:=gh; dsimp only at hF1 hN1 ⊢
  obtain ⟨hi,eL2⟩:=hF1
  have lL2:L2.length=xs.length:=by rw [eL2,crT_len]
  refine .seq (rq1 rfl rfl (cp rfl .no (.u rfl) (.u rfl) rfl (.nil (.code (.seq (.cond rfl (fun c2=>?_) (fun c2=>?_)))))))
  ·have c2k:=c2
   try simp only [qcA,qcB] at c2
   refine .skip (.code (.seq (.block (.seq (rq2 rfl rfl (mV rfl rfl (aS rfl rfl (.nil (.code (Wk.draw (mc:=⟨false,false⟩) [0,1,2,3,4,5,6,7,8,9] Fx.mix (by kernel_rfl) ?_))))))))))
   refine mV rfl rfl (mV rfl rfl (ih rfl .no Fx.se36 (.u rfl) (.u rfl) (fun _=>by omega) (fun _=>by omega) (fun _=>rfl) ?_))
   refine ld rfl .no Fx.ag5 (.u rfl) (fun _=>Rd.row .here (map_at1 (o:=64*j) (64*j+i) (by omega) (by omega))) ?_
   refine mV rfl rfl (iA rfl .no Fx.ar156 (.u rfl) (.u rfl) (fun _=>by omega) (fun _=>by omega) ?_)
   refine ld rfl .no Fx.ag5 (.u rfl) (fun _=>Rd.own tk1 (by first|exact wa_at1 (i) (by omega) (by omega)|exact ba_at1 (i) (by omega) (by omega)|exact wap_at1 (i) (by omega) (by omega)|rfl)) ?_
   refine bw (k:=.u8) rfl .no rfl (.u rfl) (.u rfl) rfl (ih rfl .no Fx.se36 (.u rfl) (.u rfl) (fun _=>by omega) (fun _=>by omega) (fun _=>rfl) ?_)
   refine s1r rfl (.u rfl) (.u rfl) Fx.sz5 .here (by show 64*j+_*1<_; omega) ?_; intro L9 eL9 lL9
   refine .nil (.blk (.code (rq2 rfl rfl (arn (((i+1):Nat):Int) rfl .no (.u rfl) (.u rfl) rfl (fun _=>by omega) (fun _=>wrap_i64 (by omega) (by omega)) ?_))))
   refine mV rfl rfl (.nil (We.lpo (i+1,L9) ?_ ?_ ?_ ?_ ?_))
   ·exact (esC rfl (by first|rfl|exact evi (by omega)) (esD rfl (esD rfl (esD rfl (esD rfl (esD rfl (esD rfl (esD rfl (esD rfl eZ)))))))))
   ·exact (mS .here rfl (mS .here rfl (mS .here rfl (mS .here rfl mN))))
   ·first|omega|(dsimp only; omega)
   ·exact hGl1
   refine ⟨?_,?_⟩
   ·(try dsimp only)<;>(omega)
   (try dsimp only)<;>(rw [eL9,eL2,show (Sh.o ⟨some ⟨bbR16,64*j,none⟩,rc⟩+(i:Int).toNat*1)=64*j+i from (by show 64*j+_*1=_; omega)]; exact crT_step (xs:=xs) (j:=j) (i:=i) (by omega) (by omega))
  have c2k:=c2
  try simp only [qcA,qcB] at c2
  refine .exit (.xcode (.xlp (.xblk (.code (rq4 rfl rfl (mV rfl rfl (mV rfl rfl (sd rfl .no Fx.se36 (.u rfl) (.u rfl) (fun _=>by omega) (fun _=>by omega) ?_))))))))
  refine aS rfl rfl (.nil (.blk (.code (rq3 rfl rfl (mV rfl rfl (bw (k:=.u32) (b:=1#32) rfl .no rfl (.u rfl) (.u rfl) rfl (aS rfl rfl (.nil (We.lpo (j+1,Sh.cut ⟨some ⟨bbR16,64*j,none⟩,rc⟩ (min (xs.length-64*j) 64) 1,L2) ?_ ?_ ?_ ?_ ?_)))))))))
  ·exact (esC rfl (by show U (count+BitVec.ofNat 32 j+1#32)=U (count+BitVec.ofNat 32 (j+1)); rw [BitVec.add_assoc,←BitVec.ofNat_add]) (esC rfl (congrArg (Sh.val _) (by omega)) (esD rfl (esD rfl (esD rfl eZ)))))
  ·exact (mS .here (by rfl) (mS tk1 rfl (mS tk1 rfl mN)))
  ·first|omega|(dsimp only; omega)
  ·exact (hGl0).trans hGl1
  refine ⟨?_,?_,?_,?_⟩
  ·(try dsimp only)<;>(rw [eL2,crT_len])
  ·(try dsimp only)<;>(rw [eL2]; exact cr_end (by omega))
  ·(try dsimp only)<;>(intro h3; have hrc2:xs.length-64*j≤rc:=hrc; exact cut_oa (by omega) (by omega))
  (try dsimp only)<;>(show _≤rc-_; have hrc2:xs.length-64*j≤rc:=hrc; omega)
 have c1k:=c1
 try simp only [qcA,qcB] at c1
 refine .exit (.xcode (.xlp (.xblk (.code (.seq (rq2 rfl rfl (mV rfl rfl (aS rfl rfl (.nil (.code (.ret (We.fin Tryd.results71 (.tmp rfl .nil) (mS .here rfl mN) ?_))))))))))))
 exact ⟨L,by rw [eL,crT_all (by omega)],rfl⟩
theorem shaSum_ok (ps:List (Sh×List Y)) (h:Sh) (G:PM) (hs:SlP G h ps) (hK:RdNP G 0 0 (wa 64 kW)) (hl:(catL ps).length≤1152921504606846976) (hn:ps.length≤1000):Ct Tryd.prog 45 ([h.val ps.length]:List Value).toArray G [] (fun _ μ' u=>μ'=[]∧u=.agg (ba 32 (shaD (catL ps))).toArray):=by
 refine Ct.of Tryd.func45 rfl Tryd.ntmps45 rfl fun w0 hs0=>?_
 refine .seq (rq1 rfl rfl ?_)
 refine al rfl Fx.zq23 ?_; intro b2
 refine .nil (.code (.seq (rq3 rfl rfl (kv rfl .no Fx.go64 Evn (fun _=>begin_ok _) ?_))))
 refine al rfl Fx.zr132 ?_; intro b3
 refine sw rfl (.u rfl) (.u rfl) rfl Fx.sz132 .here (by rfl) (one_app (wa_one _ _) (one2 rfl rfl)) ?_
 refine .nil (we_nilB 5 ?_)
 refine .code (.seq (.seq (rq3 rfl rfl (mV rfl rfl (ln rfl .no Fx.sn56 (.u rfl) (mV rfl rfl (.nil (.code (.block ?_)))))))))
 refine Wk.lop (α:=Nat×Value) (fun gh=>[(9,true,.int .i64 (gh.1:Int))]) (fun gh=>[rB gh.2 5 (restL (catL (ps.take gh.1))),.blk b3 (cl (stC (catL (ps.take gh.1)) gh.2) 132)])
  (fun gh Gl=>(gh.1≤ps.length)) (fun gh=>ps.length-gh.1) (0,.slice none 0 0) [(2,true,_),(3,true,_),(7,true,_),(8,true,_)] [_]
  (esC rfl (by first|rfl|exact evi (by omega)) (esD rfl (esD rfl (esD rfl (esD rfl eZ)))))
  (mS .here (by simp [restL,catL]) (mS .here rfl (mS .here rfl mN))) ?_ ?_
 ·(try dsimp only)<;>(first|omega|rfl|assumption|(simp; done))
 intro gh N0 Gl0 hN0 hGl0 hF0
 obtain ⟨k,vq⟩:=gh; dsimp only at hF0 hN0 ⊢
 have hk:=hF0
 have hs:=hs.mono hGl0
 have hK:=hK.mono hGl0
 refine .seq (rq1 rfl rfl (cp rfl .no (.u rfl) (.u rfl) rfl (.nil (.code (.seq (.cond rfl (fun c1=>?_) (fun c1=>?_)))))))
 ·have c1k:=c1
  try simp only [qcA,qcB] at c1
  refine .skip (.code (.seq (.block (.seq (rq3 rfl rfl (ih rfl .no Fx.se56 (.u rfl) (.u rfl) (fun _=>by omega) (fun _=>by omega) (fun _=>hs.sl.nn (k:=k) (by omega)) ?_))))))
  obtain ⟨p12,ep12⟩:=getx (k:=k) (xs:=ps) (by omega)
  have hq12:=hs.get ep12
  refine ld rfl .no Fx.ag36 (.u rfl) (fun _=>(hs.at (k) (by omega) ep12).rd) ?_
  refine aS rfl rfl (.nil (.code (rq2 rfl rfl (mV rfl rfl (ka rfl (.inr rfl) Fx.go65 (Evc rfl (Evc rfl Evn)) (mtk2 tk1 .here) (put_ok (catL (ps.take k)) p12.2 _ _ _ _ hq12 hK (by have:=cat_len ep12; omega)) ?_)))))
  rintro _ G14 μ14 hG14 ⟨vq',rfl,rfl⟩
  have hK:=hK.mono hG14
  refine .nil (.blk (.code (rq2 rfl rfl (arn (((k+1):Nat):Int) rfl .no (.u rfl) (.u rfl) rfl (fun _=>by omega) (fun _=>wrap_i64 (by omega) (by omega)) ?_))))
  refine mV rfl rfl (.nil (We.lpo (k+1,vq') ?_ ?_ ?_ ?_ ?_))
  ·exact (esC rfl (by first|rfl|exact evi (by omega)) (esD rfl (esD rfl (esD rfl (esD rfl eZ)))))
  ·exact (mS tk1 (by rw [cat_take ep12]) (mS .here (by rw [cat_take ep12]) (mS .here rfl mN)))
  ·first|omega|(dsimp only; omega)
  ·exact (hGl0).trans hG14
  (try dsimp only)<;>(first|omega|rfl|assumption|(simp; done))
 have c1k:=c1
 try simp only [qcA,qcB] at c1
 refine .exit (.xcode (.xlp (.xblk (.code (.seq ?_)))))
 obtain rfl:k=ps.length:=by omega
 rw [List.take_length]
 refine rq2 rfl rfl (ka rfl (.inr rfl) Fx.go66 (Evc rfl Evn) (mtk2 tk1 .here) (StSum_ok (catL ps) _ _ _ hK hl) ?_)
 rintro _ G16 μ16 hG16 ⟨rfl,rfl⟩
 refine sw rfl (.u rfl) (.u rfl) rfl Fx.sz23 tk2 (by first|exact qE|exact qL|rfl) (by first|exact ba_one _ _|exact wa_one _ _|exact one_V _|decide|exact one_app (wa_one _ _) (by simp [Value.oneCell'])) ?_
 refine .nil (.code (.ret (We.fin0 Tryd.results45 (.cell rfl (fun w hw=>run_loadVarN Fx.ag23 (RdN.own .here) ((by first|exact qE|exact qL|rfl)) hw) .nil) ?_)))
 exact ⟨rfl,rfl⟩
namespace Fx
theorem zv36:(Tryd.prog.info? 36).bind (·.zero)=some (.slice none 0 0):=by kernel_rfl
theorem go45:goFn Tryd.prog 45=true:=by kernel_rfl
end Fx
theorem SlP.one {G:PM} {b T:Nat} {h1:Sh} {L1:List Y} (hle:PM.le G (G.add b (cl [h1.val L1.length] T))) (hs:SlR G 1 encY h1 L1):SlP (G.add b (cl [h1.val L1.length] T)) ⟨some ⟨b,0,none⟩,1⟩ [(h1,L1)] :=
 ⟨SlR.ofBlk (T:=T) (PM.add_same _ _ _) (fun _ _=>rfl) (by simp),fun p hp=>by rw [List.mem_singleton.1 hp]; exact hs.mono hle⟩
theorem SlP.two {G:PM} {b T:Nat} {h1 h2:Sh} {L1 L2:List Y} (hle:PM.le G (G.add b (cl [h1.val L1.length,h2.val L2.length] T))) (hs:SlR G 1 encY h1 L1) (hs2:SlR G 1 encY h2 L2):SlP (G.add b (cl [h1.val L1.length,h2.val L2.length] T)) ⟨some ⟨b,0,none⟩,2⟩ [(h1,L1),(h2,L2)] :=
 ⟨SlR.ofBlk (T:=T) (PM.add_same _ _ _) (fun _ _=>rfl) (by simp),fun p hp=>by
  rcases List.mem_cons.1 hp with rfl | hp
  ·exact hs.mono hle
  ·rw [List.mem_singleton.1 hp]; exact hs2.mono hle⟩
theorem SlP.four {G:PM} {b T:Nat} {h1 h2 h3 h4:Sh} {L1 L2 L3 L4:List Y} (hle:PM.le G (G.add b (cl [h1.val L1.length,h2.val L2.length,h3.val L3.length,h4.val L4.length] T))) (hs:SlR G 1 encY h1 L1) (hs2:SlR G 1 encY h2 L2) (hs3:SlR G 1 encY h3 L3) (hs4:SlR G 1 encY h4 L4) :
  SlP (G.add b (cl [h1.val L1.length,h2.val L2.length,h3.val L3.length,h4.val L4.length] T)) ⟨some ⟨b,0,none⟩,4⟩ [(h1,L1),(h2,L2),(h3,L3),(h4,L4)] :=
 ⟨SlR.ofBlk (T:=T) (PM.add_same _ _ _) (fun _ _=>rfl) (by simp),fun p hp=>by
  simp only [List.mem_cons,List.not_mem_nil,or_false] at hp
  rcases hp with rfl|rfl|rfl|rfl
  ·exact hs.mono hle
  ·exact hs2.mono hle
  ·exact hs3.mono hle
  ·exact hs4.mono hle⟩
theorem sum1_ok {G:PM} {b T:Nat} {h1:Sh} {L1:List Y} (hle:PM.le G (G.add b (cl [h1.val L1.length] T))) (hs:SlR G 1 encY h1 L1) (hK:RdNP G 0 0 (wa 64 kW)) (hl:L1.length≤1152921504606846976):Ct Tryd.prog 45 ([.slice (some ⟨b,0,none⟩) 1 1]:List Value).toArray (G.add b (cl [h1.val L1.length] T)) [] (fun _ μ' u=>μ'=[]∧u=.agg (ba 32 (shaD L1)).toArray):=by
 have h:=shaSum_ok [(h1,L1)] ⟨some ⟨b,0,none⟩,1⟩ _ (SlP.one hle hs) (hK.mono hle) (by simpa [catL] using hl) (by simp)
 rw [show catL [(h1,L1)]=L1 by simp [catL]] at h
 exact h
theorem sum2_ok {G:PM} {b T:Nat} {h1 h2:Sh} {L1 L2:List Y} (hle:PM.le G (G.add b (cl [h1.val L1.length,h2.val L2.length] T))) (hs:SlR G 1 encY h1 L1) (hs2:SlR G 1 encY h2 L2) (hK:RdNP G 0 0 (wa 64 kW)) (hl:L1.length+L2.length≤1152921504606846976):Ct Tryd.prog 45 ([.slice (some ⟨b,0,none⟩) 2 2]:List Value).toArray (G.add b (cl [h1.val L1.length,h2.val L2.length] T)) [] (fun _ μ' u=>μ'=[]∧u=.agg (ba 32 (shaD (L1++L2))).toArray):=by
 have h:=shaSum_ok [(h1,L1),(h2,L2)] ⟨some ⟨b,0,none⟩,2⟩ _ (SlP.two hle hs hs2) (hK.mono hle) (by simpa [catL] using hl) (by simp)
 rw [show catL [(h1,L1),(h2,L2)]=L1++L2 by simp [catL]] at h
 exact h
theorem outs_step2 {f g:Nat→Y} {k:Nat} {a b:Y} (ef:f=outs g k) (h:b=g k):upd (upd f k a) k b=outs g (k+1):=by
 rw [upd_upd,ef,h]; rfl
theorem outs_step1 {f g:Nat→Y} {k:Nat} {a:Y} (ef:f=outs g k) (h:a=g k):upd f k a=outs g (k+1):=by
 rw [ef,h]; rfl
theorem pads_ok (key:List Y) (h:Sh) (G:PM) (hs:SlR G 1 encY h key) (hK:RdNP G 0 0 (wa 64 kW)) (hl:key.length≤140737488351232):Ct Tryd.prog 86 ([h.val key.length]:List Value).toArray G [] (fun _ μ' u=>μ'=[]∧u=.tuple #[.agg (ba 64 (padF key 54#8)).toArray,.agg (ba 64 (padF key 92#8)).toArray]):=by
 refine Ct.of Tryd.func86 rfl Tryd.ntmps86 rfl fun w0 hs0=>?_
 refine .seq (rq2 rfl rfl ?_)
 refine al rfl Fx.zq156 ?_; intro b2
 refine al rfl Fx.zq156 ?_; intro b3
 refine .nil (.code (.seq (.seq (rq3 rfl rfl (mV rfl rfl (ln rfl .no Fx.sn36 (.u rfl) (cp rfl .no (.u rfl) (.u rfl) rfl (.nil (.code (.cond rfl (fun c1=>?_) (fun c1=>?_)))))))))))
 ·have c1k:=c1
  try simp only [qcA,qcB] at c1
  have ek1:keyL key=shaL key:=by unfold keyL; rw [if_pos (by omega)]
  refine .seq (rq5 rfl rfl (mV rfl rfl ?_))
  refine Go.Tan.b1 rfl Fx.se56 Fx.zv36 (.u rfl) rfl rfl (by decide) ?_; intro b10
  refine kp rfl .no Fx.go45 (Evc rfl Evn) (Gp.add .here Gp.nil) (fun _ hle hq=>sum1_ok hle hs hK (by omega)) ?_
  refine al rfl Fx.zq23 ?_; intro b4
  refine sw rfl (.u rfl) (.u rfl) rfl Fx.sz23 .here (by first|exact qE|exact qL|rfl) (by first|exact ba_one _ _|exact wa_one _ _|exact one_V _|decide|exact one_app (wa_one _ _) (by simp [Value.oneCell'])) ?_
  refine .nil (.code ?_)
  refine wk_fz .here (by intro b hb; cases hb) ?_; intro Gfb4 hleb4 hbb4
  have hs:=hs.mono hleb4
  refine rq2 rfl rfl ?_
  refine kA rfl .no Fx.ar23 (.u rfl) hbb4 (by first|exact ba_all|exact app_l|exact app_r) ?_; intro h12 L12 eL12 lL12 hs12
  refine aS rfl rfl (.nil ?_)
  have ek1:keyL key=L12:=by rw [ek1,eL12]; rfl
  refine .code (.seq (.seq ?_))
  skip
  refine rq1 rfl rfl (mV rfl rfl (.nil (.code (.block ?_))))
  refine Wk.lop (α:=Nat×(Nat→Y)×(Nat→Y)) (fun gh=>[(13,true,.int .i64 (gh.1:Int))]) (fun gh=>[.blk b3 (cl (ba 64 gh.2.2) 156),.blk b2 (cl (ba 64 gh.2.1) 156)])
   (fun gh Gl=>(gh.1≤64)∧(gh.2.1=outs (padF key 54#8) gh.1)∧(gh.2.2=outs (padF key 92#8) gh.1)) (fun gh=>64-gh.1) (0,fun _=>0#8,fun _=>0#8) [(0,true,_),(2,true,_),(3,true,_)] [_]
   (esC rfl (by first|rfl|exact evi (by omega)) (esD rfl (esD rfl (esD rfl eZ))))
   (mS tk1 rfl (mS tk1 rfl (mS .here rfl mN))) ?_ ?_
  ·refine ⟨?_,?_,?_⟩
   ·(try dsimp only)<;>(first|omega|rfl|assumption|(simp; done))
   ·(try dsimp only)<;>(first|omega|rfl|assumption|(simp; done))
   (try dsimp only)<;>(first|omega|rfl|assumption|(simp; done))
  intro gh N0 Gl0 hN0 hGl0 hF0
  obtain ⟨k,f,f2⟩:=gh; dsimp only at hF0 hN0 ⊢
  obtain ⟨hk,ef,ef2⟩:=hF0
  have hs:=hs.mono hGl0
  have hs12:=hs12.mono hGl0
  refine .seq (rq1 rfl rfl (cp rfl .no (.u rfl) (.u rfl) rfl (.nil (.code (.seq (.cond rfl (fun c2=>?_) (fun c2=>?_)))))))
  ·have c2k:=c2
   try simp only [qcA,qcB] at c2
   refine .skip (.code (.seq (.block (.seq (rq2 rfl rfl (mV rfl rfl (aS rfl rfl (.nil (.code (.seq (rq6 rfl rfl (mV rfl rfl (mV rfl rfl (iA rfl .no Fx.ar156 (.u rfl) (.u rfl) (fun _=>by omega) (fun _=>by omega) ?_))))))))))))))
   refine s1 rfl (.u rfl) (.u rfl) rfl Fx.sz5 tk1 (by first|decide|(simp only [wa_len,ba_len,qlA]; omega)) (by first|exact ba_set1 (z:=54#8) (k) (by omega)|exact wa_set1 (z:=54#32) (k) (by omega)|rfl) ?_
   refine iA rfl .no Fx.ar156 (.u rfl) (.u rfl) (fun _=>by omega) (fun _=>by omega) ?_
   refine s1 rfl (.u rfl) (.u rfl) rfl Fx.sz5 tk1 (by first|decide|(simp only [wa_len,ba_len,qlA]; omega)) (by first|exact ba_set1 (z:=92#8) (k) (by omega)|exact wa_set1 (z:=92#32) (k) (by omega)|rfl) ?_
   refine .nil (.code (.seq (rq4 rfl rfl (mV rfl rfl (mV rfl rfl (ln rfl .no Fx.sn36 (.u rfl) (cp rfl .no (.u rfl) (.u rfl) rfl (.nil (.code (.cond rfl (fun c3=>?_) (fun c3=>?_)))))))))))
   ·have c3k:=c3
    try simp only [qcA,qcB] at c3
    refine .seq (Wk.draw (mc:=⟨false,false⟩) [0,1,2,3,4,5,6,7,8,9] Fx.mix (by kernel_rfl) ?_)
    refine mV rfl rfl (iA rfl .no Fx.ar156 (.u rfl) (.u rfl) (fun _=>by omega) (fun _=>by omega) ?_)
    refine ld rfl .no Fx.ag5 (.u rfl) (fun _=>Rd.own tk1 (by first|exact wa_at1 (k) (by omega) (by omega)|exact ba_at1 (k) (by omega) (by omega)|exact wap_at1 (k) (by omega) (by omega)|rfl)) ?_
    refine mV rfl rfl (mV rfl rfl (ih rfl .no Fx.se36 (.u rfl) (.u rfl) (fun _=>by omega) (fun _=>by omega) (fun _=>hs12.nn (k:=k) (by omega)) ?_))
    refine ld rfl .no Fx.ag5 (.u rfl) (fun _=>(hs12.yat (k) (by omega) (by omega)).rd) ?_
    refine bw (k:=.u8) rfl .no rfl (.u rfl) (.u rfl) rfl (iA rfl .no Fx.ar156 (.u rfl) (.u rfl) (fun _=>by omega) (fun _=>by omega) ?_)
    refine s1 rfl (.u rfl) (.u rfl) rfl Fx.sz5 tk1 (by first|decide|(simp only [wa_len,ba_len,qlA]; omega)) (by first|exact wa_set1 (k) (by omega)|exact ba_set1 (k) (by omega)|exact wap_set1 (k) (by omega) (by omega)|rfl) ?_
    refine .nil (.code (Wk.draw (mc:=⟨false,false⟩) [0,1,2,3,4,5,6,7,8,9] Fx.mix (by kernel_rfl) ?_))
    refine mV rfl rfl (iA rfl .no Fx.ar156 (.u rfl) (.u rfl) (fun _=>by omega) (fun _=>by omega) ?_)
    refine ld rfl .no Fx.ag5 (.u rfl) (fun _=>Rd.own tk1 (by first|exact wa_at1 (k) (by omega) (by omega)|exact ba_at1 (k) (by omega) (by omega)|exact wap_at1 (k) (by omega) (by omega)|rfl)) ?_
    refine mV rfl rfl (mV rfl rfl (ih rfl .no Fx.se36 (.u rfl) (.u rfl) (fun _=>by omega) (fun _=>by omega) (fun _=>hs12.nn (k:=k) (by omega)) ?_))
    refine ld rfl .no Fx.ag5 (.u rfl) (fun _=>(hs12.yat (k) (by omega) (by omega)).rd) ?_
    refine bw (k:=.u8) rfl .no rfl (.u rfl) (.u rfl) rfl (iA rfl .no Fx.ar156 (.u rfl) (.u rfl) (fun _=>by omega) (fun _=>by omega) ?_)
    refine s1 rfl (.u rfl) (.u rfl) rfl Fx.sz5 tk1 (by first|decide|(simp only [wa_len,ba_len,qlA]; omega)) (by first|exact wa_set1 (k) (by omega)|exact ba_set1 (k) (by omega)|exact wap_set1 (k) (by omega) (by omega)|rfl) ?_
    refine .nil (.blk (.code (rq2 rfl rfl (arn (((k+1):Nat):Int) rfl .no (.u rfl) (.u rfl) rfl (fun _=>by omega) (fun _=>wrap_i64 (by omega) (by omega)) ?_))))
    refine mV rfl rfl (.nil (We.lpo (k+1,upd (upd f k 54#8) k (upd f k 54#8 k ^^^ L12.getD k 0),upd (upd f2 k 92#8) k (upd f2 k 92#8 k ^^^ L12.getD k 0)) ?_ ?_ ?_ ?_ ?_))
    ·exact (esC rfl (by first|rfl|exact evi (by omega)) (esD rfl (esD rfl (esD rfl eZ))))
    ·exact (mS .here rfl (mS .here rfl (mS .here rfl mN)))
    ·first|omega|(dsimp only; omega)
    ·exact hGl0
    refine ⟨?_,?_,?_⟩
    ·(try dsimp only)<;>(first|omega|rfl|assumption|(simp; done))
    ·(try dsimp only)<;>(exact outs_step2 ef (by rw [upd_at,padF,ek1,if_pos (by omega)]))
    (try dsimp only)<;>(exact outs_step2 ef2 (by rw [upd_at,padF,ek1,if_pos (by omega)]))
   have c3k:=c3
   try simp only [qcA,qcB] at c3
   refine .skip (.blk (.code (rq2 rfl rfl (arn (((k+1):Nat):Int) rfl .no (.u rfl) (.u rfl) rfl (fun _=>by omega) (fun _=>wrap_i64 (by omega) (by omega)) ?_))))
   refine mV rfl rfl (.nil (We.lpo (k+1,upd f k 54#8,upd f2 k 92#8) ?_ ?_ ?_ ?_ ?_))
   ·exact (esC rfl (by first|rfl|exact evi (by omega)) (esD rfl (esD rfl (esD rfl eZ))))
   ·exact (mS .here rfl (mS .here rfl (mS .here rfl mN)))
   ·first|omega|(dsimp only; omega)
   ·exact hGl0
   refine ⟨?_,?_,?_⟩
   ·(try dsimp only)<;>(first|omega|rfl|assumption|(simp; done))
   ·(try dsimp only)<;>(exact outs_step1 ef (by rw [padF,ek1,if_neg (by omega)]))
   (try dsimp only)<;>(exact outs_step1 ef2 (by rw [padF,ek1,if_neg (by omega)]))
  have c2k:=c2
  try simp only [qcA,qcB] at c2
  refine .exit (.xcode (.xlp (.xblk (.code (.seq (Wk.drawT Fx.mix rfl ?_))))))
  refine WoT.n2 0 1 (by kernel_rfl) ?_ ?_
  ·refine lA rfl .no Fx.ag156 (.u rfl) (fun _=>RdN.own tk1) (fun _=>(by first|exact qE|exact qL|rfl)) ?_
   refine .nil (WoT.n2 1 2 (by kernel_rfl) ?_ ?_)
   ·refine lA rfl .no Fx.ag156 (.u rfl) (fun _=>RdN.own .here) (fun _=>(by first|exact qE|exact qL|rfl)) ?_
    refine .nil (WoT.n1 2 (by kernel_rfl) ?_)
    refine sw rfl (.u rfl) (.u rfl) rfl Fx.sz156 tk1 (by first|exact qE|exact qL|rfl) (by first|exact ba_one _ _|exact wa_one _ _|exact one_V _|decide|exact one_app (wa_one _ _) (by simp [Value.oneCell'])) ?_
    refine .nil (WoT.n1 3 (by kernel_rfl) ?_)
    refine sw rfl (.u rfl) (.u rfl) rfl Fx.sz156 tk1 (by first|exact qE|exact qL|rfl) (by first|exact ba_one _ _|exact wa_one _ _|exact one_V _|decide|exact one_app (wa_one _ _) (by simp [Value.oneCell'])) ?_
    refine .nil (WoT.last (by kernel_rfl) ?_)
    refine .code (.ret (We.fin0 Tryd.results86 (.cell rfl (fun w hw=>run_loadVarN Fx.ag156 (RdN.own tk1) ((by first|exact qE|exact qL|rfl)) hw) (.cell rfl (fun w hw=>run_loadVarN Fx.ag156 (RdN.own .here) ((by first|exact qE|exact qL|rfl)) hw) .nil)) ?_))
    obtain rfl:k=64:=by omega
    exact ⟨rfl,by rw [ef,ef2,ba_congr (fun i hi=>outs_eq (padF key 54#8) hi),ba_congr (fun i hi=>outs_eq (padF key 92#8) hi)]; rfl⟩
   refine sw rfl (.u rfl) (.u rfl) rfl Fx.sz156 tk1 (by first|exact qE|exact qL|rfl) (by first|exact ba_one _ _|exact wa_one _ _|exact one_V _|decide|exact one_app (wa_one _ _) (by simp [Value.oneCell'])) ?_
   refine .nil (WoT.n1 1 (by kernel_rfl) ?_)
   refine lA rfl .no Fx.ag156 (.u rfl) (fun _=>RdN.own tk1) (fun _=>(by first|exact qE|exact qL|rfl)) ?_
   refine .nil (WoT.n1 3 (by kernel_rfl) ?_)
   refine sw rfl (.u rfl) (.u rfl) rfl Fx.sz156 tk1 (by first|exact qE|exact qL|rfl) (by first|exact ba_one _ _|exact wa_one _ _|exact one_V _|decide|exact one_app (wa_one _ _) (by simp [Value.oneCell'])) ?_
   refine .nil (WoT.last (by kernel_rfl) ?_)
   refine .code (.ret (We.fin0 Tryd.results86 (.cell rfl (fun w hw=>run_loadVarN Fx.ag156 (RdN.own tk1) ((by first|exact qE|exact qL|rfl)) hw) (.cell rfl (fun w hw=>run_loadVarN Fx.ag156 (RdN.own .here) ((by first|exact qE|exact qL|rfl)) hw) .nil)) ?_))
   obtain rfl:k=64:=by omega
   exact ⟨rfl,by rw [ef,ef2,ba_congr (fun i hi=>outs_eq (padF key 54#8) hi),ba_congr (fun i hi=>outs_eq (padF key 92#8) hi)]; rfl⟩
  refine lA rfl .no Fx.ag156 (.u rfl) (fun _=>RdN.own .here) (fun _=>(by first|exact qE|exact qL|rfl)) ?_
  refine .nil (WoT.n1 0 (by kernel_rfl) ?_)
  refine lA rfl .no Fx.ag156 (.u rfl) (fun _=>RdN.own tk1) (fun _=>(by first|exact qE|exact qL|rfl)) ?_
  refine .nil (WoT.n1 2 (by kernel_rfl) ?_)
  refine sw rfl (.u rfl) (.u rfl) rfl Fx.sz156 tk1 (by first|exact qE|exact qL|rfl) (by first|exact ba_one _ _|exact wa_one _ _|exact one_V _|decide|exact one_app (wa_one _ _) (by simp [Value.oneCell'])) ?_
  refine .nil (WoT.n1 3 (by kernel_rfl) ?_)
  refine sw rfl (.u rfl) (.u rfl) rfl Fx.sz156 tk1 (by first|exact qE|exact qL|rfl) (by first|exact ba_one _ _|exact wa_one _ _|exact one_V _|decide|exact one_app (wa_one _ _) (by simp [Value.oneCell'])) ?_
  refine .nil (WoT.last (by kernel_rfl) ?_)
  refine .code (.ret (We.fin0 Tryd.results86 (.cell rfl (fun w hw=>run_loadVarN Fx.ag156 (RdN.own tk1) ((by first|exact qE|exact qL|rfl)) hw) (.cell rfl (fun w hw=>run_loadVarN Fx.ag156 (RdN.own .here) ((by first|exact qE|exact qL|rfl)) hw) .nil)) ?_))
  obtain rfl:k=64:=by omega
  exact ⟨rfl,by rw [ef,ef2,ba_congr (fun i hi=>outs_eq (padF key 54#8) hi),ba_congr (fun i hi=>outs_eq (padF key 92#8) hi)]; rfl⟩
 have c1k:=c1
 try simp only [qcA,qcB] at c1
 have ek2:keyL key=key:=by unfold keyL; rw [if_neg (by omega)]
 refine .skip (.code (.seq (.seq ?_)))
 skip
 refine rq1 rfl rfl (mV rfl rfl (.nil (.code (.block ?_))))
 refine Wk.lop (α:=Nat×(Nat→Y)×(Nat→Y)) (fun gh=>[(13,true,.int .i64 (gh.1:Int))]) (fun gh=>[.blk b3 (cl (ba 64 gh.2.2) 156),.blk b2 (cl (ba 64 gh.2.1) 156)])
  (fun gh Gl=>(gh.1≤64)∧(gh.2.1=outs (padF key 54#8) gh.1)∧(gh.2.2=outs (padF key 92#8) gh.1)) (fun gh=>64-gh.1) (0,fun _=>0#8,fun _=>0#8) [(0,true,_),(2,true,_),(3,true,_)] []
  (esC rfl (by first|rfl|exact evi (by omega)) (esD rfl (esD rfl (esD rfl eZ))))
  (mS .here rfl (mS .here rfl mN)) ?_ ?_
 ·refine ⟨?_,?_,?_⟩
  ·(try dsimp only)<;>(first|omega|rfl|assumption|(simp; done))
  ·(try dsimp only)<;>(first|omega|rfl|assumption|(simp; done))
  (try dsimp only)<;>(first|omega|rfl|assumption|(simp; done))
 intro gh N1 Gl1 hN1 hGl1 hF1
 obtain ⟨k,f,f2⟩:=gh; dsimp only at hF1 hN1 ⊢
 obtain ⟨hk,ef,ef2⟩:=hF1
 have hs:=hs.mono hGl1
 refine .seq (rq1 rfl rfl (cp rfl .no (.u rfl) (.u rfl) rfl (.nil (.code (.seq (.cond rfl (fun c4=>?_) (fun c4=>?_)))))))
 ·have c4k:=c4
  try simp only [qcA,qcB] at c4
  refine .skip (.code (.seq (.block (.seq (rq2 rfl rfl (mV rfl rfl (aS rfl rfl (.nil (.code (.seq (rq6 rfl rfl (mV rfl rfl (mV rfl rfl (iA rfl .no Fx.ar156 (.u rfl) (.u rfl) (fun _=>by omega) (fun _=>by omega) ?_))))))))))))))
  refine s1 rfl (.u rfl) (.u rfl) rfl Fx.sz5 tk1 (by first|decide|(simp only [wa_len,ba_len,qlA]; omega)) (by first|exact ba_set1 (z:=54#8) (k) (by omega)|exact wa_set1 (z:=54#32) (k) (by omega)|rfl) ?_
  refine iA rfl .no Fx.ar156 (.u rfl) (.u rfl) (fun _=>by omega) (fun _=>by omega) ?_
  refine s1 rfl (.u rfl) (.u rfl) rfl Fx.sz5 tk1 (by first|decide|(simp only [wa_len,ba_len,qlA]; omega)) (by first|exact ba_set1 (z:=92#8) (k) (by omega)|exact wa_set1 (z:=92#32) (k) (by omega)|rfl) ?_
  refine .nil (.code (.seq (rq4 rfl rfl (mV rfl rfl (mV rfl rfl (ln rfl .no Fx.sn36 (.u rfl) (cp rfl .no (.u rfl) (.u rfl) rfl (.nil (.code (.cond rfl (fun c5=>?_) (fun c5=>?_)))))))))))
  ·have c5k:=c5
   try simp only [qcA,qcB] at c5
   refine .seq (Wk.draw (mc:=⟨false,false⟩) [0,1,2,3,4,5,6,7,8,9] Fx.mix (by kernel_rfl) ?_)
   refine mV rfl rfl (iA rfl .no Fx.ar156 (.u rfl) (.u rfl) (fun _=>by omega) (fun _=>by omega) ?_)
   refine ld rfl .no Fx.ag5 (.u rfl) (fun _=>Rd.own tk1 (by first|exact wa_at1 (k) (by omega) (by omega)|exact ba_at1 (k) (by omega) (by omega)|exact wap_at1 (k) (by omega) (by omega)|rfl)) ?_
   refine mV rfl rfl (mV rfl rfl (ih rfl .no Fx.se36 (.u rfl) (.u rfl) (fun _=>by omega) (fun _=>by omega) (fun _=>hs.nn (k:=k) (by omega)) ?_))
   refine ld rfl .no Fx.ag5 (.u rfl) (fun _=>(hs.yat (k) (by omega) (by omega)).rd) ?_
   refine bw (k:=.u8) rfl .no rfl (.u rfl) (.u rfl) rfl (iA rfl .no Fx.ar156 (.u rfl) (.u rfl) (fun _=>by omega) (fun _=>by omega) ?_)
   refine s1 rfl (.u rfl) (.u rfl) rfl Fx.sz5 tk1 (by first|decide|(simp only [wa_len,ba_len,qlA]; omega)) (by first|exact wa_set1 (k) (by omega)|exact ba_set1 (k) (by omega)|exact wap_set1 (k) (by omega) (by omega)|rfl) ?_
   refine .nil (.code (Wk.draw (mc:=⟨false,false⟩) [0,1,2,3,4,5,6,7,8,9] Fx.mix (by kernel_rfl) ?_))
   refine mV rfl rfl (iA rfl .no Fx.ar156 (.u rfl) (.u rfl) (fun _=>by omega) (fun _=>by omega) ?_)
   refine ld rfl .no Fx.ag5 (.u rfl) (fun _=>Rd.own tk1 (by first|exact wa_at1 (k) (by omega) (by omega)|exact ba_at1 (k) (by omega) (by omega)|exact wap_at1 (k) (by omega) (by omega)|rfl)) ?_
   refine mV rfl rfl (mV rfl rfl (ih rfl .no Fx.se36 (.u rfl) (.u rfl) (fun _=>by omega) (fun _=>by omega) (fun _=>hs.nn (k:=k) (by omega)) ?_))
   refine ld rfl .no Fx.ag5 (.u rfl) (fun _=>(hs.yat (k) (by omega) (by omega)).rd) ?_
   refine bw (k:=.u8) rfl .no rfl (.u rfl) (.u rfl) rfl (iA rfl .no Fx.ar156 (.u rfl) (.u rfl) (fun _=>by omega) (fun _=>by omega) ?_)
   refine s1 rfl (.u rfl) (.u rfl) rfl Fx.sz5 tk1 (by first|decide|(simp only [wa_len,ba_len,qlA]; omega)) (by first|exact wa_set1 (k) (by omega)|exact ba_set1 (k) (by omega)|exact wap_set1 (k) (by omega) (by omega)|rfl) ?_
   refine .nil (.blk (.code (rq2 rfl rfl (arn (((k+1):Nat):Int) rfl .no (.u rfl) (.u rfl) rfl (fun _=>by omega) (fun _=>wrap_i64 (by omega) (by omega)) ?_))))
   refine mV rfl rfl (.nil (We.lpo (k+1,upd (upd f k 54#8) k (upd f k 54#8 k ^^^ key.getD k 0),upd (upd f2 k 92#8) k (upd f2 k 92#8 k ^^^ key.getD k 0)) ?_ ?_ ?_ ?_ ?_))
   ·exact (esC rfl (by first|rfl|exact evi (by omega)) (esD rfl (esD rfl (esD rfl eZ))))
   ·exact (mS .here rfl (mS .here rfl mN))
   ·first|omega|(dsimp only; omega)
   ·exact hGl1
   refine ⟨?_,?_,?_⟩
   ·(try dsimp only)<;>(first|omega|rfl|assumption|(simp; done))
   ·(try dsimp only)<;>(exact outs_step2 ef (by rw [upd_at,padF,ek2,if_pos (by omega)]))
   (try dsimp only)<;>(exact outs_step2 ef2 (by rw [upd_at,padF,ek2,if_pos (by omega)]))
  have c5k:=c5
  try simp only [qcA,qcB] at c5
  refine .skip (.blk (.code (rq2 rfl rfl (arn (((k+1):Nat):Int) rfl .no (.u rfl) (.u rfl) rfl (fun _=>by omega) (fun _=>wrap_i64 (by omega) (by omega)) ?_))))
  refine mV rfl rfl (.nil (We.lpo (k+1,upd f k 54#8,upd f2 k 92#8) ?_ ?_ ?_ ?_ ?_))
  ·exact (esC rfl (by first|rfl|exact evi (by omega)) (esD rfl (esD rfl (esD rfl eZ))))
  ·exact (mS .here rfl (mS .here rfl mN))
  ·first|omega|(dsimp only; omega)
  ·exact hGl1
  refine ⟨?_,?_,?_⟩
  ·(try dsimp only)<;>(first|omega|rfl|assumption|(simp; done))
  ·(try dsimp only)<;>(exact outs_step1 ef (by rw [padF,ek2,if_neg (by omega)]))
  (try dsimp only)<;>(exact outs_step1 ef2 (by rw [padF,ek2,if_neg (by omega)]))
 have c4k:=c4
 try simp only [qcA,qcB] at c4
 refine .exit (.xcode (.xlp (.xblk (.code (.seq (Wk.drawT Fx.mix rfl ?_))))))
 refine WoT.n2 0 1 (by kernel_rfl) ?_ ?_
 ·refine lA rfl .no Fx.ag156 (.u rfl) (fun _=>RdN.own tk1) (fun _=>(by first|exact qE|exact qL|rfl)) ?_
  refine .nil (WoT.n2 1 2 (by kernel_rfl) ?_ ?_)
  ·refine lA rfl .no Fx.ag156 (.u rfl) (fun _=>RdN.own .here) (fun _=>(by first|exact qE|exact qL|rfl)) ?_
   refine .nil (WoT.n1 2 (by kernel_rfl) ?_)
   refine sw rfl (.u rfl) (.u rfl) rfl Fx.sz156 tk1 (by first|exact qE|exact qL|rfl) (by first|exact ba_one _ _|exact wa_one _ _|exact one_V _|decide|exact one_app (wa_one _ _) (by simp [Value.oneCell'])) ?_
   refine .nil (WoT.n1 3 (by kernel_rfl) ?_)
   refine sw rfl (.u rfl) (.u rfl) rfl Fx.sz156 tk1 (by first|exact qE|exact qL|rfl) (by first|exact ba_one _ _|exact wa_one _ _|exact one_V _|decide|exact one_app (wa_one _ _) (by simp [Value.oneCell'])) ?_
   refine .nil (WoT.last (by kernel_rfl) ?_)
   refine .code (.ret (We.fin0 Tryd.results86 (.cell rfl (fun w hw=>run_loadVarN Fx.ag156 (RdN.own tk1) ((by first|exact qE|exact qL|rfl)) hw) (.cell rfl (fun w hw=>run_loadVarN Fx.ag156 (RdN.own .here) ((by first|exact qE|exact qL|rfl)) hw) .nil)) ?_))
   obtain rfl:k=64:=by omega
   exact ⟨rfl,by rw [ef,ef2,ba_congr (fun i hi=>outs_eq (padF key 54#8) hi),ba_congr (fun i hi=>outs_eq (padF key 92#8) hi)]; rfl⟩
  refine sw rfl (.u rfl) (.u rfl) rfl Fx.sz156 tk1 (by first|exact qE|exact qL|rfl) (by first|exact ba_one _ _|exact wa_one _ _|exact one_V _|decide|exact one_app (wa_one _ _) (by simp [Value.oneCell'])) ?_
  refine .nil (WoT.n1 1 (by kernel_rfl) ?_)
  refine lA rfl .no Fx.ag156 (.u rfl) (fun _=>RdN.own tk1) (fun _=>(by first|exact qE|exact qL|rfl)) ?_
  refine .nil (WoT.n1 3 (by kernel_rfl) ?_)
  refine sw rfl (.u rfl) (.u rfl) rfl Fx.sz156 tk1 (by first|exact qE|exact qL|rfl) (by first|exact ba_one _ _|exact wa_one _ _|exact one_V _|decide|exact one_app (wa_one _ _) (by simp [Value.oneCell'])) ?_
  refine .nil (WoT.last (by kernel_rfl) ?_)
  refine .code (.ret (We.fin0 Tryd.results86 (.cell rfl (fun w hw=>run_loadVarN Fx.ag156 (RdN.own tk1) ((by first|exact qE|exact qL|rfl)) hw) (.cell rfl (fun w hw=>run_loadVarN Fx.ag156 (RdN.own .here) ((by first|exact qE|exact qL|rfl)) hw) .nil)) ?_))
  obtain rfl:k=64:=by omega
  exact ⟨rfl,by rw [ef,ef2,ba_congr (fun i hi=>outs_eq (padF key 54#8) hi),ba_congr (fun i hi=>outs_eq (padF key 92#8) hi)]; rfl⟩
 refine lA rfl .no Fx.ag156 (.u rfl) (fun _=>RdN.own .here) (fun _=>(by first|exact qE|exact qL|rfl)) ?_
 refine .nil (WoT.n1 0 (by kernel_rfl) ?_)
 refine lA rfl .no Fx.ag156 (.u rfl) (fun _=>RdN.own tk1) (fun _=>(by first|exact qE|exact qL|rfl)) ?_
 refine .nil (WoT.n1 2 (by kernel_rfl) ?_)
 refine sw rfl (.u rfl) (.u rfl) rfl Fx.sz156 tk1 (by first|exact qE|exact qL|rfl) (by first|exact ba_one _ _|exact wa_one _ _|exact one_V _|decide|exact one_app (wa_one _ _) (by simp [Value.oneCell'])) ?_
 refine .nil (WoT.n1 3 (by kernel_rfl) ?_)
 refine sw rfl (.u rfl) (.u rfl) rfl Fx.sz156 tk1 (by first|exact qE|exact qL|rfl) (by first|exact ba_one _ _|exact wa_one _ _|exact one_V _|decide|exact one_app (wa_one _ _) (by simp [Value.oneCell'])) ?_
 refine .nil (WoT.last (by kernel_rfl) ?_)
 refine .code (.ret (We.fin0 Tryd.results86 (.cell rfl (fun w hw=>run_loadVarN Fx.ag156 (RdN.own tk1) ((by first|exact qE|exact qL|rfl)) hw) (.cell rfl (fun w hw=>run_loadVarN Fx.ag156 (RdN.own .here) ((by first|exact qE|exact qL|rfl)) hw) .nil)) ?_))
 obtain rfl:k=64:=by omega
 exact ⟨rfl,by rw [ef,ef2,ba_congr (fun i hi=>outs_eq (padF key 54#8) hi),ba_congr (fun i hi=>outs_eq (padF key 92#8) hi)]; rfl⟩
namespace Fx
theorem go86:goFn Tryd.prog 86=true:=by kernel_rfl
theorem go87:goFn Tryd.prog 87=true:=by kernel_rfl
theorem go88:goFn Tryd.prog 88=true:=by kernel_rfl
theorem zq142:zrL Tryd.prog 142=some (ba 16 (fun _=>0#8)):=by kernel_rfl
theorem fo70_1:fOff Tryd.prog 70 1=some 32:=by kernel_rfl
theorem ar113:arE Tryd.prog 113=some (12,5,1):=by kernel_rfl
theorem go32:goFn Tryd.prog 32=true:=by kernel_rfl
theorem go80:goFn Tryd.prog 80=true:=by kernel_rfl
theorem ar142:arE Tryd.prog 142=some (16,5,1):=by kernel_rfl
theorem ag142:aggN Tryd.prog 142=some (some 16):=by kernel_rfl
theorem sz142:szT Tryd.prog 142=some 16:=by kernel_rfl
theorem fo70_0:fOff Tryd.prog 70 0=some 0:=by kernel_rfl
theorem ag113:aggN Tryd.prog 113=some (some 12):=by kernel_rfl
theorem go71:goFn Tryd.prog 71=true:=by kernel_rfl
theorem ag70:aggN Tryd.prog 70=some (some 64):=by kernel_rfl
theorem go72:goFn Tryd.prog 72=true:=by kernel_rfl
theorem baT142:baT Tryd.prog 142 16=true:=by kernel_rfl
end Fx
theorem macSum_ok (key:List Y) (hk:Sh) (ps:List (Sh×List Y)) (h:Sh) (G:PM) (hsk:SlR G 1 encY hk key) (hs:SlP G h ps) (hK:RdNP G 0 0 (wa 64 kW)) (hlk:key.length≤140737488351232) (hl:(catL ps).length≤1000000000000000) (hn:ps.length≤1000):Ct Tryd.prog 80 ([hk.val key.length,h.val ps.length]:List Value).toArray G [] (fun _ μ' u=>μ'=[]∧u=.agg (ba 32 (macL key (catL ps))).toArray):=by
 refine Ct.of Tryd.func80 rfl Tryd.ntmps80 rfl fun w0 hs0=>?_
 refine .seq (rq1 rfl rfl ?_)
 refine al rfl Fx.zq23 ?_; intro b4
 refine .nil (.code (.seq (rq9 rfl rfl (mV rfl rfl (kv rfl .no Fx.go86 (Evc rfl Evn) (fun _=>pads_ok key hk _ hsk hK hlk) ?_)))))
 refine mV rfl rfl (ex rfl .no (.u rfl) rfl (ex rfl .no (.u rfl) rfl ?_))
 refine al rfl Fx.zq156 ?_; intro b5
 refine al rfl Fx.zq156 ?_; intro b6
 refine sw rfl (.u rfl) (.u rfl) rfl Fx.sz156 tk1 (by first|exact qE|exact qL|rfl) (by first|exact ba_one _ _|exact wa_one _ _|exact one_V _|decide|exact one_app (wa_one _ _) (by simp [Value.oneCell'])) ?_
 refine sw rfl (.u rfl) (.u rfl) rfl Fx.sz156 tk1 (by first|exact qE|exact qL|rfl) (by first|exact ba_one _ _|exact wa_one _ _|exact one_V _|decide|exact one_app (wa_one _ _) (by simp [Value.oneCell'])) ?_
 refine .nil (.code (.seq ?_))
 refine wk_fz tk1 (by intro b hb; cases hb) ?_; intro Gfb5 hleb5 hbb5
 have hs:=hs.mono hleb5
 have hK:=hK.mono hleb5
 refine wk_fz .here (by intro b hb; cases hb) ?_; intro Gfb6 hleb6 hbb6
 have hs:=hs.mono hleb6
 have hK:=hK.mono hleb6
 have hbb5:=hbb5.mono hleb6
 refine rq2 rfl rfl (kc rfl Fx.go87 Evn (New_ok _) ?_)
 rintro _ G16 μ16 hG16 ⟨b16,rfl,rfl⟩
 have hs:=hs.mono hG16
 have hK:=hK.mono hG16
 have hbb5:=hbb5.mono hG16
 have hbb6:=hbb6.mono hG16
 refine aS rfl rfl (.nil (.code (.seq (rq3 rfl rfl (mV rfl rfl ?_)))))
 refine kA rfl .no Fx.ar156 (.u rfl) hbb5 (by first|exact ba_all|exact app_l|exact app_r) ?_; intro h18 L18 eL18 lL18 hs18
 refine ka rfl (.inr rfl) Fx.go88 (Evc rfl (Evc rfl Evn)) (mtk2 .here .here) (Write_ok [] L18 _ _ _ _ hs18 hK (by simp; omega)) ?_
 rintro _ G19 μ19 hG19 ⟨vq0,rfl,rfl⟩
 have hs:=hs.mono hG19
 have hK:=hK.mono hG19
 have hbb6:=hbb6.mono hG19
 refine .nil (.code (.seq (.seq (rq3 rfl rfl (mV rfl rfl (ln rfl .no Fx.sn56 (.u rfl) (mV rfl rfl (.nil (.code (.block ?_))))))))))
 refine Wk.lop (α:=Nat×Value) (fun gh=>[(22,true,.int .i64 (gh.1:Int))]) (fun gh=>[.blk b16 (cl (stC (L18++catL (ps.take gh.1)) gh.2) 132),rB gh.2 5 (restL (L18++catL (ps.take gh.1)))])
  (fun gh Gl=>(gh.1≤ps.length)) (fun gh=>ps.length-gh.1) (0,vq0) [(4,true,_),(6,true,_),(7,true,_),(20,true,_),(21,true,_)] [_]
  (esC rfl (by first|rfl|exact evi (by omega)) (esD rfl (esD rfl (esD rfl (esD rfl (esD rfl eZ))))))
  (mS .here (by simp [catL]) (mS .here (by simp [catL]) (mS .here rfl mN))) ?_ ?_
 ·(try dsimp only)<;>(first|omega|rfl|assumption|(simp; done))
 intro gh N0 Gl0 hN0 hGl0 hF0
 obtain ⟨k,vq⟩:=gh; dsimp only at hF0 hN0 ⊢
 have hk:=hF0
 have hs:=hs.mono hGl0
 have hK:=hK.mono hGl0
 have hbb6:=hbb6.mono hGl0
 refine .seq (rq1 rfl rfl (cp rfl .no (.u rfl) (.u rfl) rfl (.nil (.code (.seq (.cond rfl (fun c1=>?_) (fun c1=>?_)))))))
 ·have c1k:=c1
  try simp only [qcA,qcB] at c1
  refine .skip (.code (.seq (.block (.seq (rq3 rfl rfl (ih rfl .no Fx.se56 (.u rfl) (.u rfl) (fun _=>by omega) (fun _=>by omega) (fun _=>hs.sl.nn (k:=k) (by omega)) ?_))))))
  obtain ⟨p25,ep25⟩:=getx (k:=k) (xs:=ps) (by omega)
  have hq25:=hs.get ep25
  refine ld rfl .no Fx.ag36 (.u rfl) (fun _=>(hs.at (k) (by omega) ep25).rd) ?_
  refine aS rfl rfl (.nil (.code (rq3 rfl rfl (mV rfl rfl (mV rfl rfl (ka rfl (.inr rfl) Fx.go88 (Evc rfl (Evc rfl Evn)) (mtk2 .here .here) (Write_ok (L18++catL (ps.take k)) p25.2 _ _ _ _ hq25 hK (by have:=cat_len ep25; rw [List.length_append]; omega)) ?_))))))
  rintro _ G28 μ28 hG28 ⟨vq',rfl,rfl⟩
  have hK:=hK.mono hG28
  have hbb6:=hbb6.mono hG28
  refine .nil (.blk (.code (rq2 rfl rfl (arn (((k+1):Nat):Int) rfl .no (.u rfl) (.u rfl) rfl (fun _=>by omega) (fun _=>wrap_i64 (by omega) (by omega)) ?_))))
  refine mV rfl rfl (.nil (We.lpo (k+1,vq') ?_ ?_ ?_ ?_ ?_))
  ·exact (esC rfl (by first|rfl|exact evi (by omega)) (esD rfl (esD rfl (esD rfl (esD rfl (esD rfl eZ))))))
  ·exact (mS .here (by rw [cat_take ep25,List.append_assoc]) (mS .here (by rw [cat_take ep25,List.append_assoc]) (mS .here rfl mN)))
  ·first|omega|(dsimp only; omega)
  ·exact (hGl0).trans hG28
  (try dsimp only)<;>(first|omega|rfl|assumption|(simp; done))
 have c1k:=c1
 try simp only [qcA,qcB] at c1
 refine .exit (.xcode (.xlp (.xblk (.code (.seq ?_)))))
 obtain rfl:k=ps.length:=by omega
 rw [List.take_length]
 refine rq4 rfl rfl (mV rfl rfl (ka rfl (.inr rfl) Fx.go66 (Evc rfl Evn) (mtk2 .here .here) (StSum_ok (L18++catL ps) _ _ _ hK (by rw [List.length_append]; omega)) ?_))
 rintro _ G31 μ31 hG31 ⟨rfl,rfl⟩
 have hK:=hK.mono hG31
 have hbb6:=hbb6.mono hG31
 refine al rfl Fx.zq23 ?_; intro b10
 refine sw rfl (.u rfl) (.u rfl) rfl Fx.sz23 .here (by first|exact qE|exact qL|rfl) (by first|exact ba_one _ _|exact wa_one _ _|exact one_V _|decide|exact one_app (wa_one _ _) (by simp [Value.oneCell'])) ?_
 refine .nil (.code (.seq ?_))
 refine wk_fz .here (by intro b hb; cases hb) ?_; intro Gfb10 hleb10 hbb10
 have hK:=hK.mono hleb10
 have hbb6:=hbb6.mono hleb10
 refine Wk.draw (mc:=⟨false,false⟩) [0,1,2,3,4] Fx.mix (by kernel_rfl) ?_
 refine kA rfl .no Fx.ar156 (.u rfl) hbb6 (by first|exact ba_all|exact app_l|exact app_r) ?_; intro h32 L32 eL32 lL32 hs32
 refine kA rfl .no Fx.ar23 (.u rfl) hbb10 (by first|exact ba_all|exact app_l|exact app_r) ?_; intro h33 L33 eL33 lL33 hs33
 refine Go.Tan.bN rfl Fx.se56 Fx.zv36 (Evp.cons (.u rfl) (Evp.cons (.u rfl) Evp.nil)) rfl (by decide) (by simp [Value.oneCell',Sh.val]) ?_; intro b34
 refine kp rfl .no Fx.go45 (Evc rfl Evn) (Gp.add .here Gp.nil) (fun _ hle hq=>sum2_ok hle hs32 hs33 hK (by omega)) ?_
 refine sw rfl (.u rfl) (.u rfl) rfl Fx.sz23 tk3 (by first|exact qE|exact qL|rfl) (by first|exact ba_one _ _|exact wa_one _ _|exact one_V _|decide|exact one_app (wa_one _ _) (by simp [Value.oneCell'])) ?_
 refine .nil (.code (.ret (We.fin0 Tryd.results80 (.cell rfl (fun w hw=>run_loadVarN Fx.ag23 (RdN.own .here) ((by first|exact qE|exact qL|rfl)) hw) .nil) ?_)))
 exact ⟨rfl,by rw [eL32,eL33,eL18]; rfl⟩
theorem mac4_ok {G:PM} {b T:Nat} {hk h1 h2 h3 h4:Sh} {key L1 L2 L3 L4:List Y} (hle:PM.le G (G.add b (cl [h1.val L1.length,h2.val L2.length,h3.val L3.length,h4.val L4.length] T))) (hsk:SlR G 1 encY hk key) (hs:SlR G 1 encY h1 L1) (hs2:SlR G 1 encY h2 L2) (hs3:SlR G 1 encY h3 L3) (hs4:SlR G 1 encY h4 L4) (hK:RdNP G 0 0 (wa 64 kW)) (hlk:key.length≤140737488351232) (hl:L1.length+L2.length+L3.length+L4.length≤1000000000000000) :
  Ct Tryd.prog 80 ([hk.val key.length,.slice (some ⟨b,0,none⟩) 4 4]:List Value).toArray (G.add b (cl [h1.val L1.length,h2.val L2.length,h3.val L3.length,h4.val L4.length] T)) [] (fun _ μ' u=>μ'=[]∧u=.agg (ba 32 (macL key (L1++L2++L3++L4))).toArray):=by
 have h:=macSum_ok key hk [(h1,L1),(h2,L2),(h3,L3),(h4,L4)] ⟨some ⟨b,0,none⟩,4⟩ _ (hsk.mono hle) (SlP.four hle hs hs2 hs3 hs4) (hK.mono hle) hlk (by simp [catL]; omega) (by simp)
 rw [show catL [(h1,L1),(h2,L2),(h3,L3),(h4,L4)]=L1++L2++L3++L4 by simp [catL]] at h
 exact h
theorem Tag_ok (enc mac nonce:Nat→Y) (ad:List Y) (ha:Sh) (xs:List Y) (hx:Sh) (G:PM) (hsa:SlR G 1 encY ha ad) (hsx:SlR G 1 encY hx xs) (hK:RdNP G 0 0 (wa 64 kW)) (hla:ad.length≤140737488351232) (hl:xs.length≤140737488355328):Ct Tryd.prog 72 ([.agg (ba 32 enc++ba 32 mac).toArray,.agg (ba 12 nonce).toArray,ha.val ad.length,hx.val xs.length]:List Value).toArray G [] (fun _ μ' u=>μ'=[]∧u=.agg (ba 16 (tagF mac nonce ad xs)).toArray):=by
 refine Ct.of Tryd.func72 rfl Tryd.ntmps72 rfl fun w0 hs0=>?_
 refine .seq (rq3 rfl rfl ?_)
 refine bx rfl (.u rfl) rfl ?_; intro b4
 refine bx rfl (.u rfl) rfl ?_; intro b5
 refine al rfl Fx.zq142 ?_; intro b8
 refine .nil (.code (.seq ?_))
 refine wk_fz tk2 (by intro b hb; cases hb) ?_; intro Gfb4 hleb4 hbb4
 have hsa:=hsa.mono hleb4
 have hsx:=hsx.mono hleb4
 have hK:=hK.mono hleb4
 refine wk_fz tk1 (by intro b hb; cases hb) ?_; intro Gfb5 hleb5 hbb5
 have hsa:=hsa.mono hleb5
 have hsx:=hsx.mono hleb5
 have hK:=hK.mono hleb5
 have hbb4:=hbb4.mono hleb5
 refine Wk.draw (mc:=⟨false,false⟩) [0,1,2,3,4,6,7,8,5,9,10,11,12] Fx.mix (by kernel_rfl) ?_
 refine fa rfl .no Fx.fo70_1 (.u rfl) ?_
 refine kA rfl .no Fx.ar22 (.u rfl) hbb4 (by first|exact ba_all|exact app_l|exact app_r) ?_; intro h11 L11 eL11 lL11 hs11
 refine mV rfl rfl (ln rfl .no Fx.sn36 (.u rfl) (ci rfl .no rfl Fx.cv3_24 (.u rfl) ?_))
 refine mV rfl rfl ?_
 refine kA rfl .no Fx.ar113 (.u rfl) hbb5 (by first|exact ba_all|exact app_l|exact app_r) ?_; intro h17 L17 eL17 lL17 hs17
 refine mV rfl rfl (kc rfl Fx.go32 (Evc rfl (Evc rfl (Evc rfl Evn))) (Ct.frzB (Fix_ok [] ⟨none,0⟩ _ 8 _ SlR.nul (by simp) (by decide))) ?_)
 rintro _ G15 μ15 hG15 ⟨h15,L15,eL15,rfl,rfl,hs15⟩
 have hsa:=hsa.mono hG15
 have hsx:=hsx.mono hG15
 have hK:=hK.mono hG15
 have hs11:=hs11.mono hG15
 have hs17:=hs17.mono hG15
 refine Go.Tan.bN rfl Fx.se56 Fx.zv36 (Evp.cons (.u rfl) (Evp.cons (.u rfl) (Evp.cons (.u rfl) (Evp.cons (.u rfl) Evp.nil)))) rfl (by decide) (by simp [Value.oneCell',Sh.val]) ?_; intro b19
 have lL15:L15.length=8:=by rw [eL15,List.nil_append]; exact fix_len _ 8
 refine kp rfl .no Fx.go80 (Evc rfl (Evc rfl Evn)) (Gp.add .here Gp.nil) (fun _ hle hq=>mac4_ok hle hs11 hs15 hsa hs17 hsx hK (by omega) (by omega)) ?_
 refine al rfl Fx.zq23 ?_; intro b9
 refine sw rfl (.u rfl) (.u rfl) rfl Fx.sz23 .here (by first|exact qE|exact qL|rfl) (by first|exact ba_one _ _|exact wa_one _ _|exact one_V _|decide|exact one_app (wa_one _ _) (by simp [Value.oneCell'])) ?_
 refine .nil (.code (.seq (rq4 rfl rfl (sah rfl .no Fx.ar23 (.u rfl) (.u rfl) (fun _=>by first|decide|omega) (fun _=>by first|decide|omega) ?_))))
 refine sp rfl .no Fx.ar142 (.u rfl) (fun _=>by first|decide|omega) ?_
 refine lA rfl .no Fx.ag142 (.u rfl) (fun _=>RdN.part (n:=16) (cs':=ba 16 _) .here (ba_take (by decide))) (fun _=>(by first|exact qE|exact qL|rfl)) ?_
 refine sw rfl (.u rfl) (.u rfl) rfl Fx.sz142 tk2 (by first|exact qE|exact qL|rfl) (by first|exact ba_one _ _|exact wa_one _ _|exact one_V _|decide|exact one_app (wa_one _ _) (by simp [Value.oneCell'])) ?_
 refine .nil (.code (.ret (We.fin0 Tryd.results72 (.cell rfl (fun w hw=>run_loadVarN Fx.ag142 (RdN.own .here) ((by first|exact qE|exact qL|rfl)) hw) .nil) ?_)))
 exact ⟨rfl,by rw [eL11,eL15,eL17]; rfl⟩
theorem tag_row (enc mac nonce:Nat→Y) (ad:List Y) (ha:Sh) (xs:List Y) (v:Value) (G:PM) (hsa:SlR G 1 encY ha ad) (hK:RdNP G 0 0 (wa 64 kW)) (hla:ad.length≤140737488351232) (hl:xs.length≤140737488355328):Ct Tryd.prog 72 ([.agg (ba 32 enc++ba 32 mac).toArray,.agg (ba 12 nonce).toArray,ha.val ad.length,v]:List Value).toArray G [rB v 5 xs] (fun _ μ' u=>∃ ν,μ'=rB v 5 xs :: ν∧ν=[]∧u=.agg (ba 16 (tagF mac nonce ad xs)).toArray) :=
 Ct.lendB (fun hx G2 hle hv hs=>by subst hv; exact Tag_ok enc mac nonce ad ha xs hx G2 (hsa.mono hle) hs (hK.mono hle) hla hl)
theorem Seal_ok (enc mac nonce:Nat→Y) (ad:List Y) (ha:Sh) (xs:List Y) (hx:Sh) (G:PM) (hsa:SlR G 1 encY ha ad) (hsx:SlR G 1 encY hx xs) (hK:RdNP G 0 0 (wa 64 kW)) (hla:ad.length≤140737488351232) (hl:xs.length≤140737488351232):Ct Tryd.prog 50 ([.agg (ba 32 enc++ba 32 mac).toArray,.agg (ba 12 nonce).toArray,ha.val ad.length,hx.val xs.length]:List Value).toArray G [] (PR 5 (fun L=>L=sealL enc mac nonce ad xs)):=by
 refine Ct.of Tryd.func50 rfl Tryd.ntmps50 rfl fun w0 hs0=>?_
 have lc:=cross_len enc nonce 1#32 xs
 refine .seq (rq3 rfl rfl ?_)
 refine bx rfl (.u rfl) rfl ?_; intro b4
 refine bx rfl (.u rfl) rfl ?_; intro b5
 refine aS rfl rfl (.nil (.code (.seq (rq6 rfl rfl (fz rfl .no Fx.fo70_0 (.u rfl) (lA rfl .no Fx.ag22 (.u rfl) (fun _=>RdN.part (n:=32) (cs':=ba 32 enc) tk1 (app_l)) (fun _=>(by first|exact qE|exact qL|rfl)) ?_))))))
 refine lA rfl .no Fx.ag113 (.u rfl) (fun _=>RdN.own .here) (fun _=>(by first|exact qE|exact qL|rfl)) ?_
 refine mV rfl rfl (kc rfl Fx.go71 (Evc rfl (Evc rfl (Evc rfl (Evc rfl Evn)))) (Ct.rowc (Cross_ok enc nonce 1#32 hx xs _ hsx hl)) ?_)
 rintro v15 G15 μ15 hG15 ⟨L15,ov15,eL15,rfl⟩
 have hsa:=hsa.mono hG15
 have hK:=hK.mono hG15
 refine aS rfl rfl (.nil (.code (.seq (rq7 rfl rfl ?_))))
 have lL15:L15.length=xs.length:=by rw [eL15,cross_len]
 refine lA rfl .no Fx.ag70 (.u rfl) (fun _=>RdN.own tk2) (fun _=>(by first|exact qE|exact qL|rfl)) ?_
 refine lA rfl .no Fx.ag113 (.u rfl) (fun _=>RdN.own tk1) (fun _=>(by first|exact qE|exact qL|rfl)) ?_
 refine mV rfl rfl (mV rfl rfl (ka rfl (.inr rfl) Fx.go72 (Evc rfl (Evc rfl (Evc rfl (Evc rfl Evn)))) (mtk1 .here) (tag_row enc mac nonce ad ha L15 _ _ hsa hK hla (by rw [eL15,cross_len]; omega)) ?_))
 rintro _ G20 μ20 hG20 ⟨_,rfl,rfl,rfl⟩
 refine al rfl Fx.zq142 ?_; intro b10
 refine sw rfl (.u rfl) (.u rfl) rfl Fx.sz142 .here (by first|exact qE|exact qL|rfl) (by first|exact ba_one _ _|exact wa_one _ _|exact one_V _|decide|exact one_app (wa_one _ _) (by simp [Value.oneCell'])) ?_
 refine .nil (.code (.seq (rq4 rfl rfl (mV rfl rfl (sa0 rfl .no Fx.ar142 (.u rfl) (apY rfl Fx.se36 Fx.zv5 (.u rfl) (.u rfl) tk1 (Sc.arr .here) (by (try simp only [qlA,yl_len]); omega) ?_))))))
 intro v23 L23 ov23 eL23
 have lL23:L23.length=L15.length+16:=by rw [eL23,List.length_append]; first|rfl | simp [yl_len]
 refine aS rfl rfl (.nil (.code (.ret (We.fin Tryd.results50 (.tmp rfl .nil) (mS .here rfl mN) ?_))))
 exact ⟨L23,by rw [eL23,eL15]; rfl,rfl⟩
theorem Open_ok (enc mac nonce:Nat→Y) (ad:List Y) (ha:Sh) (xs:List Y) (hx:Sh) (G:PM) (hsa:SlR G 1 encY ha ad) (hsx:SlR G 1 encY hx xs) (hK:RdNP G 0 0 (wa 64 kW)) (hla:ad.length≤140737488351232) (hl:xs.length≤140737488351248):Ct Tryd.prog 73 ([.agg (ba 32 enc++ba 32 mac).toArray,.agg (ba 12 nonce).toArray,ha.val ad.length,hx.val xs.length]:List Value).toArray G [] (fun _ μ' u=>∃ v L e,OpenR (openL enc mac nonce ad xs) L e∧μ'=[rB v 5 L]∧u=.tuple #[v,.int .i64 e]):=by
 refine Ct.of Tryd.func73 rfl Tryd.ntmps73 rfl fun w0 hs0=>?_
 refine .seq (rq4 rfl rfl ?_)
 refine bx rfl (.u rfl) rfl ?_; intro b4
 refine bx rfl (.u rfl) rfl ?_; intro b5
 refine aS rfl rfl (aS rfl rfl (.nil (.code (.seq (rq4 rfl rfl (mV rfl rfl (ln rfl .no Fx.sn36 (.u rfl) (ar rfl .no (.u rfl) (.u rfl) rfl (fun _=>wrap_i64 (by omega) (by omega)) ?_))))))))
 refine aS rfl rfl (.nil (.code (.seq (.seq (rq2 rfl rfl (mV rfl rfl (cp rfl .no (.u rfl) (.u rfl) rfl (.nil (.code (.cond rfl (fun c1=>?_) (fun c1=>?_)))))))))))
 ·have c1k:=c1
  try simp only [qcA,qcB] at c1
  refine .seq (rq2 rfl rfl (aS rfl rfl (aS rfl rfl (.nil (.code (.ret (we_nilB 5 ?_)))))))
  refine We.fin Tryd.results73 (.tmp rfl (.tmp rfl .nil)) (mS .here rfl mN) ?_
  rw [open_short (by omega)]; exact ⟨_,[],60,.inr ⟨rfl,rfl,rfl⟩,rfl,rfl⟩
 have c1k:=c1
 try simp only [qcA,qcB] at c1
 refine .skip (.code (.seq (rq4 rfl rfl (mV rfl rfl (mV rfl rfl (kE ((xs.length-16)) rfl .no Fx.se36 hsx (.u rfl) (.u rfl) (fun _=>by omega) (fun _=>by omega) ?_))))))
 intro h19 L19 eL19 lL19 hs19
 have lL19:=lL19 rfl
 refine aS rfl rfl (.nil (.code (.seq (.seq (Wk.draw (mc:=⟨false,false⟩) [0,1,2,3,5,6,7,8,9,4,10] Fx.mix (by kernel_rfl) ?_)))))
 refine lA rfl .no Fx.ag70 (.u rfl) (fun _=>RdN.own tk1) (fun _=>(by first|exact qE|exact qL|rfl)) ?_
 refine lA rfl .no Fx.ag113 (.u rfl) (fun _=>RdN.own .here) (fun _=>(by first|exact qE|exact qL|rfl)) ?_
 refine mV rfl rfl (mV rfl rfl (mV rfl rfl (mV rfl rfl (kD ((xs.length-16)) rfl .no Fx.se36 hsx (.u rfl) (.u rfl) (fun _=>by omega) (fun _=>by omega) ?_))))
 intro h27 L27 eL27 lL27 hs27
 have lL27:=lL27 rfl
 refine spS rfl .no Fx.ar142 hs27 (.u rfl) (fun _=>by omega) (by decide) ?_
 refine lA rfl .no Fx.ag142 (.u rfl) (fun _=>(hs27.arr (m:=16) (by omega)).rd) (fun _=>ba_len _ _) ?_
 refine kv rfl .no Fx.go72 (Evc rfl (Evc rfl (Evc rfl (Evc rfl Evn)))) (fun _=>Tag_ok enc mac nonce ad ha L19 h19 _ hsa hs19 hK hla (by omega)) ?_
 refine nqB rfl .no Fx.baT142 (.u rfl) (.u rfl) ?_
 refine .nil (.code (.cond rfl (fun c2=>?_) (fun c2=>?_)))
 ·have c2k:=c2
  try simp only [qcA,qcB] at c2
  refine .seq (rq2 rfl rfl (aS rfl rfl (aS rfl rfl (.nil (.code (.ret (we_nilB 5 ?_)))))))
  refine We.fin Tryd.results73 (.tmp rfl (.tmp rfl .nil)) (mS .here rfl mN) ?_
  rw [open_bad (by omega) (by rw [← eL19,←eL27,←yl_self L27,show L27.length=16 by omega]; exact c2)]; exact ⟨_,[],60,.inr ⟨rfl,rfl,rfl⟩,rfl,rfl⟩
 have c2k:=c2
 try simp only [qcA,qcB] at c2
 refine .skip (.code (.seq (rq7 rfl rfl (fz rfl .no Fx.fo70_0 (.u rfl) (lA rfl .no Fx.ag22 (.u rfl) (fun _=>RdN.part (n:=32) (cs':=ba 32 enc) tk1 (app_l)) (fun _=>(by first|exact qE|exact qL|rfl)) ?_)))))
 refine lA rfl .no Fx.ag113 (.u rfl) (fun _=>RdN.own .here) (fun _=>(by first|exact qE|exact qL|rfl)) ?_
 refine mV rfl rfl (kc rfl Fx.go71 (Evc rfl (Evc rfl (Evc rfl (Evc rfl Evn)))) (Ct.rowc (Cross_ok enc nonce 1#32 h19 L19 _ hs19 (by omega))) ?_)
 rintro v35 G35 μ35 hG35 ⟨L35,ov35,eL35,rfl⟩
 refine aS rfl rfl (aS rfl rfl (.nil (.code (.ret (We.fin Tryd.results73 (.tmp rfl (.tmp rfl .nil)) (mS .here rfl mN) ?_)))))
 rw [open_good (by omega) (by rw [← eL19,←eL27,←yl_self L27,show L27.length=16 by omega]; exact c2),←eL19]; exact ⟨v35,L35,0,.inl ⟨by rw [eL35],rfl⟩,rfl,rfl⟩
namespace Fx
theorem cst36:csT Tryd.prog 36=true:=by kernel_rfl
end Fx
def zF:Nat→Y:=fun _=>0#8
namespace Fx
theorem go82:goFn Tryd.prog 82=true:=by kernel_rfl
theorem go76:goFn Tryd.prog 76=true:=by kernel_rfl
end Fx
theorem nibble_ok (x:W) (G:PM):Ct Tryd.prog 82 ([U x]:List Value).toArray G [] (fun _ μ' u=>μ'=[]∧u=U (hIt 4 x)):=by
 refine Ct.of Tryd.func82 rfl Tryd.ntmps82 rfl fun w0 hs0=>?_
 refine .seq (rq1 rfl rfl (aS rfl rfl (.nil (.code (.seq (.seq (rq1 rfl rfl (mV rfl rfl (.nil (.code (.block ?_)))))))))))
 refine Wk.lop (α:=Nat×W) (fun gh=>[(0,true,U gh.2),(3,true,.int .i64 (gh.1:Int))]) (fun _=>[])
  (fun gh Gl=>(gh.1≤4)∧(gh.2=hIt gh.1 x)) (fun gh=>4-gh.1) (0,x) [] []
  (esD rfl (esC rfl (by first|rfl|exact evi (by omega)) eZ))
  mN ?_ ?_
 ·refine ⟨?_,?_⟩
  ·(try dsimp only)<;>(first|omega|rfl|assumption|(simp; done))
  (try dsimp only)<;>(first|omega|rfl|assumption|(simp; done))
 intro gh N0 Gl0 hN0 hGl0 hF0
 obtain ⟨k,y⟩:=gh; dsimp only at hF0 hN0 ⊢
 obtain ⟨hk,ey⟩:=hF0
 refine .seq (rq1 rfl rfl (cp rfl .no (.u rfl) (.u rfl) rfl (.nil (.code (.seq (.cond rfl (fun c1=>?_) (fun c1=>?_)))))))
 ·have c1k:=c1
  try simp only [qcA,qcB] at c1
  refine .skip (.code (.seq (.block (rq8 rfl rfl (mV rfl rfl (rw' (k:=.u32) rfl .no (.u rfl) (.u rfl) (fun _=>by decide) ?_))))))
  refine mV rfl rfl (bw (k:=.u32) (b:=1#32) rfl .no rfl (.u rfl) (.u rfl) rfl (nw (k:=.u32) rfl .no rfl (.u rfl) ?_))
  refine bw (k:=.u32) (a:=2197175160#32) rfl .no rfl (.u rfl) (.u rfl) rfl (bw (k:=.u32) rfl .no rfl (.u rfl) (.u rfl) rfl (aS rfl rfl (.nil (.blk (.code (rq2 rfl rfl (arn (((k+1):Nat):Int) rfl .no (.u rfl) (.u rfl) rfl (fun _=>by omega) (fun _=>wrap_i64 (by omega) (by omega)) ?_)))))))
  refine mV rfl rfl (.nil (We.lpo (k+1,halfW y) ?_ ?_ ?_ ?_ ?_))
  ·exact (esD rfl (esC rfl (by first|rfl|exact evi (by omega)) eZ))
  ·exact mN
  ·first|omega|(dsimp only; omega)
  ·exact hGl0
  refine ⟨?_,?_⟩
  ·(try dsimp only)<;>(first|omega|rfl|assumption|(simp; done))
  (try dsimp only)<;>(rw [ey]; rfl)
 have c1k:=c1
 try simp only [qcA,qcB] at c1
 refine .exit (.xcode (.xlp (.xblk (.code (.seq (rq2 rfl rfl (mV rfl rfl (aS rfl rfl (.nil (.code (.ret (We.fin0 Tryd.results82 (.tmp rfl .nil) ?_))))))))))))
 obtain rfl:k=4:=by omega
 exact ⟨rfl,by rw [ey]; rfl⟩
theorem crcMore_ok (sum:W) (xs:List Y) (h:Sh) (G:PM) (hs:SlR G 1 encY h xs) (hl:xs.length≤9000000000000000000):Ct Tryd.prog 76 ([U sum,h.val xs.length]:List Value).toArray G [] (fun _ μ' u=>μ'=[]∧u=U (crcW sum xs)):=by
 refine Ct.of Tryd.func76 rfl Tryd.ntmps76 rfl fun w0 hs0=>?_
 refine .seq (rq1 rfl rfl (aS rfl rfl (.nil (.code (.seq (rq3 rfl rfl (mV rfl rfl (xw (k:=.u32) rfl .no rfl (.u rfl) ?_))))))))
 refine aS rfl rfl (.nil (.code (.seq (.seq (rq3 rfl rfl (mV rfl rfl (ln rfl .no Fx.sn36 (.u rfl) (mV rfl rfl (.nil (.code (.block ?_)))))))))))
 refine Wk.lop (α:=Nat×W) (fun gh=>[(5,true,U gh.2),(12,true,.int .i64 (gh.1:Int))]) (fun _=>[])
  (fun gh Gl=>(gh.1≤xs.length)∧(gh.2=(xs.take gh.1).foldl crcB (~~~sum))) (fun gh=>xs.length-gh.1) (0, ~~~sum) [(10,true,_),(11,true,_)] []
  (esD rfl (esC rfl (by first|rfl|exact evi (by omega)) (esD rfl (esD rfl eZ))))
  mN ?_ ?_
 ·refine ⟨?_,?_⟩
  ·(try dsimp only)<;>(first|omega|rfl|assumption|(simp; done))
  (try dsimp only)<;>(first|omega|rfl|assumption|(simp; done))
 intro gh N0 Gl0 hN0 hGl0 hF0
 obtain ⟨k,x⟩:=gh; dsimp only at hF0 hN0 ⊢
 obtain ⟨hk,ex⟩:=hF0
 have hs:=hs.mono hGl0
 refine .seq (rq1 rfl rfl (cp rfl .no (.u rfl) (.u rfl) rfl (.nil (.code (.seq (.cond rfl (fun c1=>?_) (fun c1=>?_)))))))
 ·have c1k:=c1
  try simp only [qcA,qcB] at c1
  refine .skip (.code (.seq (.block (.seq (rq3 rfl rfl (ih rfl .no Fx.se36 (.u rfl) (.u rfl) (fun _=>by omega) (fun _=>by omega) (fun _=>hs.nn (k:=k) (by omega)) ?_))))))
  refine ld rfl .no Fx.ag5 (.u rfl) (fun _=>(hs.yat (k) (by omega) (by omega)).rd) ?_
  refine aS rfl rfl (.nil (.code (rq7 rfl rfl (mV rfl rfl (mV rfl rfl (cu (k:=.u8) rfl .no rfl Fx.cv5_126 (.u rfl) ?_))))))
  refine bw (k:=.u32) rfl .no rfl (.u rfl) (.u rfl) rfl (kv rfl .no Fx.go82 (Evc rfl Evn) (fun _=>nibble_ok _ _) ?_)
  refine kv rfl .no Fx.go82 (Evc rfl Evn) (fun _=>nibble_ok _ _) ?_
  refine aS rfl rfl (.nil (.blk (.code (rq2 rfl rfl (arn (((k+1):Nat):Int) rfl .no (.u rfl) (.u rfl) rfl (fun _=>by omega) (fun _=>wrap_i64 (by omega) (by omega)) ?_)))))
  refine mV rfl rfl (.nil (We.lpo (k+1,hIt 4 (hIt 4 (x ^^^ (xs.getD k 0).setWidth 32))) ?_ ?_ ?_ ?_ ?_))
  ·exact (esD rfl (esC rfl (by first|rfl|exact evi (by omega)) (esD rfl (esD rfl eZ))))
  ·exact mN
  ·first|omega|(dsimp only; omega)
  ·exact hGl0
  refine ⟨?_,?_⟩
  ·(try dsimp only)<;>(first|omega|rfl|assumption|(simp; done))
  (try dsimp only)<;>(rw [fold_take (by omega),←ex,hIt_add]; rfl)
 have c1k:=c1
 try simp only [qcA,qcB] at c1
 refine .exit (.xcode (.xlp (.xblk (.code (.seq (rq3 rfl rfl (mV rfl rfl (xw (k:=.u32) rfl .no rfl (.u rfl) ?_))))))))
 refine aS rfl rfl (.nil (.code (.ret (We.fin0 Tryd.results76 (.tmp rfl .nil) ?_))))
 obtain rfl:k=xs.length:=by omega
 exact ⟨rfl,by rw [ex,List.take_length]; rfl⟩
theorem crcSum_ok (ps:List (Sh×List Y)) (h:Sh) (G:PM) (hs:SlP G h ps) (hl:(catL ps).length≤9000000000000000000) (hn:ps.length≤1000):Ct Tryd.prog 61 ([h.val ps.length]:List Value).toArray G [] (fun _ μ' u=>μ'=[]∧u=U (crcW 0#32 (catL ps))):=by
 refine Ct.of Tryd.func61 rfl Tryd.ntmps61 rfl fun w0 hs0=>?_
 refine .seq (rq1 rfl rfl (aS rfl rfl (.nil (.code (.seq (rq1 rfl rfl (aS rfl rfl (.nil (.code (.seq (.seq (rq3 rfl rfl (mV rfl rfl (ln rfl .no Fx.sn56 (.u rfl) (mV rfl rfl (.nil (.code (.block ?_))))))))))))))))))
 refine Wk.lop (α:=Nat×W) (fun gh=>[(3,true,U gh.2),(8,true,.int .i64 (gh.1:Int))]) (fun _=>[])
  (fun gh Gl=>(gh.1≤ps.length)∧(gh.2=crcW 0#32 (catL (ps.take gh.1)))) (fun gh=>ps.length-gh.1) (0,0#32) [(6,true,_),(7,true,_)] []
  (esD rfl (esC rfl (by first|rfl|exact evi (by omega)) (esD rfl (esD rfl eZ))))
  mN ?_ ?_
 ·refine ⟨?_,?_⟩
  ·(try dsimp only)<;>(first|omega|rfl|assumption|(simp; done))
  (try dsimp only)<;>(simp [catL,crc_nil])
 intro gh N0 Gl0 hN0 hGl0 hF0
 obtain ⟨k,x⟩:=gh; dsimp only at hF0 hN0 ⊢
 obtain ⟨hk,ex⟩:=hF0
 have hs:=hs.mono hGl0
 refine .seq (rq1 rfl rfl (cp rfl .no (.u rfl) (.u rfl) rfl (.nil (.code (.seq (.cond rfl (fun c1=>?_) (fun c1=>?_)))))))
 ·have c1k:=c1
  try simp only [qcA,qcB] at c1
  refine .skip (.code (.seq (.block (.seq (rq3 rfl rfl (ih rfl .no Fx.se56 (.u rfl) (.u rfl) (fun _=>by omega) (fun _=>by omega) (fun _=>hs.sl.nn (k:=k) (by omega)) ?_))))))
  obtain ⟨p11,ep11⟩:=getx (k:=k) (xs:=ps) (by omega)
  have hq11:=hs.get ep11
  refine ld rfl .no Fx.ag36 (.u rfl) (fun _=>(hs.at (k) (by omega) ep11).rd) ?_
  refine aS rfl rfl (.nil (.code (rq4 rfl rfl (mV rfl rfl (mV rfl rfl (kv rfl .no Fx.go76 (Evc rfl (Evc rfl Evn)) (fun _=>crcMore_ok _ p11.2 _ _ hq11 (by have:=cat_len ep11; omega)) ?_))))))
  refine aS rfl rfl (.nil (.blk (.code (rq2 rfl rfl (arn (((k+1):Nat):Int) rfl .no (.u rfl) (.u rfl) rfl (fun _=>by omega) (fun _=>wrap_i64 (by omega) (by omega)) ?_)))))
  refine mV rfl rfl (.nil (We.lpo (k+1,crcW x p11.2) ?_ ?_ ?_ ?_ ?_))
  ·exact (esD rfl (esC rfl (by first|rfl|exact evi (by omega)) (esD rfl (esD rfl eZ))))
  ·exact mN
  ·first|omega|(dsimp only; omega)
  ·exact hGl0
  refine ⟨?_,?_⟩
  ·(try dsimp only)<;>(first|omega|rfl|assumption|(simp; done))
  (try dsimp only)<;>(rw [ex,crc_app,cat_take ep11])
 have c1k:=c1
 try simp only [qcA,qcB] at c1
 refine .exit (.xcode (.xlp (.xblk (.code (.seq (rq2 rfl rfl (mV rfl rfl (aS rfl rfl (.nil (.code (.ret (We.fin0 Tryd.results61 (.tmp rfl .nil) ?_))))))))))))
 obtain rfl:k=ps.length:=by omega
 exact ⟨rfl,by rw [ex,List.take_length]; rfl⟩
namespace Fx
theorem sb9_36:sbT Tryd.prog 9 36=true:=by kernel_rfl
theorem go61:goFn Tryd.prog 61=true:=by kernel_rfl
theorem cv3_126:cvK Tryd.prog 3 126=some .u32:=by kernel_rfl
theorem se74:slE Tryd.prog 74=some (9,1,16):=by kernel_rfl
theorem sn74:(slE Tryd.prog 74).isSome=true:=by kernel_rfl
theorem go52:goFn Tryd.prog 52=true:=by kernel_rfl
theorem cv3_5:cvK Tryd.prog 3 5=some .u8:=by kernel_rfl
end Fx
theorem crc1_ok {G:PM} {b T:Nat} {h1:Sh} {L1:List Y} (hle:PM.le G (G.add b (cl [h1.val L1.length] T))) (hs:SlR G 1 encY h1 L1) (hl:L1.length≤1000000000000000) :
  Ct Tryd.prog 61 ([.slice (some ⟨b,0,none⟩) 1 1]:List Value).toArray (G.add b (cl [h1.val L1.length] T)) [] (fun _ μ' u=>μ'=[]∧u=U (crcW 0#32 L1)):=by
 have h:=crcSum_ok [(h1,L1)] ⟨some ⟨b,0,none⟩,1⟩ _ (SlP.one hle hs) (by simpa [catL] using Nat.le_trans hl (by decide)) (by simp)
 rw [show catL [(h1,L1)]=L1 by simp [catL]] at h
 exact h
theorem set_ok (L:List Y) (bb cap n:Nat) (en:n=L.length) (key:ByteArray) (pr:Nat) (G:PM) (h0:0<L.length) (hn:L.length≤100000000) (hk:key.size≤1000000000000000) (hpr:pr≤1000000):Ct Tryd.prog 52 ([.slice (some ⟨bb,0,none⟩) n cap,.string key,.int .i64 (pr:Int)]:List Value).toArray G [rB (.slice (some ⟨bb,0,none⟩) n cap) 5 L] (fun _ μ' u=>μ'=[rB (.slice (some ⟨bb,0,none⟩) n cap) 5 (setL key L pr)]∧u=.tuple #[]):=by
 subst en
 refine Ct.of Tryd.func52 rfl Tryd.ntmps52 rfl fun w0 hs0=>?_
 refine .seq (rq5 rfl rfl (mV rfl rfl ?_))
 refine cvS rfl rfl Fx.sb9_36 (.u rfl) ?_; intro G10 h10 hG10 hs10
 refine Go.Tan.b1 rfl Fx.se56 Fx.zv36 (.u rfl) rfl rfl (by decide) ?_; intro b11
 refine kp rfl .no Fx.go61 (Evc rfl Evn) (Gp.add .here Gp.nil) (fun _ hle hq=>crc1_ok hle hs10 (by rw [yb_len]; omega)) ?_
 refine aS rfl rfl (.nil (.code (.seq (rq3 rfl rfl (mV rfl rfl (kv rfl .no Fx.go62 (Evc rfl (Evc rfl Evn)) (fun _=>rot_ok _ 15 _) ?_))))))
 refine aS rfl rfl (.nil (.code (.seq (rq2 rfl rfl (mV rfl rfl (mV rfl rfl (.nil (.code (.block ?_)))))))))
 refine Wk.lop (α:=Nat×List Y) (fun gh=>[(6,true,U (hJ key gh.1)),(16,true,.int .i64 (gh.1:Int))]) (fun gh=>[rB (.slice (some ⟨bb,0,none⟩) L.length cap) 5 gh.2])
  (fun gh Gl=>(gh.1≤pr)∧(gh.2=setL key L gh.1)∧(gh.2.length=L.length)) (fun gh=>pr-gh.1) (0,L) [(0,true,_),(7,true,_),(15,true,_)] [_]
  (esD rfl (esC rfl (by first|rfl|exact evi (by omega)) (esD rfl (esD rfl (esD rfl eZ)))))
  (mS tk1 rfl (mS .here rfl mN)) ?_ ?_
 ·refine ⟨?_,?_,?_⟩
  ·(try dsimp only)<;>(first|omega|rfl|assumption|(simp; done))
  ·(try dsimp only)<;>(rfl)
  (try dsimp only)<;>(first|omega|rfl|assumption|(simp; done))
 intro gh N0 Gl0 hN0 hGl0 hF0
 obtain ⟨k,M⟩:=gh; dsimp only at hF0 hN0 ⊢
 obtain ⟨hk2,eM,lM⟩:=hF0
 refine .seq (rq1 rfl rfl (cp rfl .no (.u rfl) (.u rfl) rfl (.nil (.code (.seq (.cond rfl (fun c1=>?_) (fun c1=>?_)))))))
 ·have c1k:=c1
  try simp only [qcA,qcB] at c1
  refine .skip (.code (.seq (.block (.seq (rq7 rfl rfl (mV rfl rfl (mV rfl rfl (lr rfl .no Fx.sn36 (.u rfl) .here ?_))))))))
  refine arn (((8*M.length):Nat):Int) rfl .no (.u rfl) (.u rfl) rfl (fun _=>by omega) (fun _=>wrap_i64 (by omega) (by omega)) ?_
  refine ci rfl .no rfl Fx.cv3_126 (.u rfl) ?_
  refine mw (k:=.u32) (b:=BitVec.ofInt 32 ((8*M.length:Nat):Int)) rfl .no (.u rfl) (.u rfl) (fun _=>st_nz (by omega) (by omega)) ?_
  refine aS rfl rfl (.nil (.code (.seq (Wk.rg [0,1,2,3,4,5,6,7,8,9,10] rfl rfl (mV rfl rfl (mV rfl rfl (rw' (k:=.u32) rfl .no (.u rfl) (.u rfl) (fun _=>by decide) ?_)))))))
  have hp8:(plcW key M.length k >>> 3).toNat<M.length:=st_idx (by omega) (by omega)
  refine ia rfl .no Fx.se36 (.u rfl) (.u rfl) (fun _=>Int.natCast_nonneg _) (fun _=>Int.ofNat_lt.2 (Nat.lt_of_lt_of_eq hp8 lM)) ?_
  refine ld rfl .no Fx.ag5 (.u rfl) (fun _=>Rd.row .here (map_at1 _ (by rw [Nat.zero_add,Nat.mul_one]; rfl) hp8)) ?_
  refine mV rfl rfl (bw (k:=.u32) (b:=7#32) rfl .no rfl (.u rfl) (.u rfl) rfl (lw (k:=.u8) (a:=1#8) rfl .no rfl (.s rfl) (.u rfl) (fun _=>Int.natCast_nonneg _) ?_))
  refine bw (k:=.u8) rfl .no rfl (.u rfl) (.u rfl) rfl (ia rfl .no Fx.se36 (.u rfl) (.u rfl) (fun _=>Int.natCast_nonneg _) (fun _=>Int.ofNat_lt.2 (Nat.lt_of_lt_of_eq hp8 lM)) ?_)
  refine s1r rfl (.u rfl) (.u rfl) Fx.sz5 .here (by rw [Nat.zero_add,Nat.mul_one]; exact hp8) ?_; intro Ls5_10 eLs5_10 lLs5_10
  refine .nil (.code (rq4 rfl rfl (mV rfl rfl (mV rfl rfl (bw (k:=.u32) rfl .no rfl (.u rfl) (.u rfl) rfl (aS rfl rfl (.nil (.blk (.code (rq2 rfl rfl (arn (((k+1):Nat):Int) rfl .no (.u rfl) (.u rfl) rfl (fun _=>by omega) (fun _=>wrap_i64 (by omega) (by omega)) ?_)))))))))))
  refine mV rfl rfl (.nil (We.lpo (k+1,Ls5_10) ?_ ?_ ?_ ?_ ?_))
  ·exact (esD rfl (esC rfl (by first|rfl|exact evi (by omega)) (esD rfl (esD rfl (esD rfl eZ)))))
  ·exact (mS .here rfl (mS .here rfl mN))
  ·first|omega|(dsimp only; omega)
  ·exact hGl0
  refine ⟨?_,?_,?_⟩
  ·(try dsimp only)<;>(first|omega|rfl|assumption|(simp; done))
  ·(try dsimp only)<;>(exact st_put lM (by rw [eLs5_10,eM,Nat.zero_add,Nat.mul_one]; rfl))
  (try dsimp only)<;>(first|omega|rfl|assumption|(simp; done))
 have c1k:=c1
 try simp only [qcA,qcB] at c1
 refine .exit (.xcode (.xlp (.xblk (.nil (We.fin Tryd.results52 .nil (mS .here rfl mN) ?_)))))
 obtain rfl:k=pr:=by omega
 exact ⟨by rw [eM],rfl⟩
theorem may_ok (h:Sh) (f:List Y) (key:ByteArray) (G:PM) (hs:SlR G 1 encY h f) (hl:f.length≤100000000) (hk:key.size≤1000000000000000):Ct Tryd.prog 35 ([h.val f.length,.string key]:List Value).toArray G [] (fun _ μ' u=>μ'=[]∧u=.bool (mayB f key)):=by
 refine Ct.of Tryd.func35 rfl Tryd.ntmps35 rfl fun w0 hs0=>?_
 refine .seq (rq1 rfl rfl (aS rfl rfl (.nil (.code (.seq (.seq (Wk.rg [0,1,2,3,4,5,6,7,8,9,10,11,12,13,14,15,16,17,18,19,20] rfl rfl (mV rfl rfl (ln rfl .no Fx.sn36 (.u rfl) (cp rfl .no (.u rfl) (.u rfl) rfl (mV rfl rfl (mv rfl (.f rfl rfl) (.u rfl) (mv rfl (.f rfl rfl) (.u rfl) (ln rfl (.f rfl rfl) Fx.sn36 (.s rfl) (arn (((f.length-1):Nat):Int) rfl (.f rfl rfl) (.s rfl) (.u rfl) rfl (fun hc=>by (try simp only [Bool.and_eq_true,decide_eq_true_eq,Bool.not_eq_true',Bool.or_eq_false_iff,decide_eq_false_iff_not] at hc); omega) (fun hc=>wrap_i64 (by (try simp only [Bool.and_eq_true,decide_eq_true_eq,Bool.not_eq_true',Bool.or_eq_false_iff,decide_eq_false_iff_not] at hc); omega) (by (try simp only [Bool.and_eq_true,decide_eq_true_eq,Bool.not_eq_true',Bool.or_eq_false_iff,decide_eq_false_iff_not] at hc); omega)) ?_)))))))))))))))
 refine ih rfl (.f rfl rfl) Fx.se36 (.s rfl) (.s rfl) (fun hc=>by (try simp only [Bool.and_eq_true,decide_eq_true_eq,Bool.not_eq_true',Bool.or_eq_false_iff,decide_eq_false_iff_not] at hc); omega) (fun hc=>by (try simp only [Bool.and_eq_true,decide_eq_true_eq,Bool.not_eq_true',Bool.or_eq_false_iff,decide_eq_false_iff_not] at hc); omega) (fun hc=>hs.nn (k:=(f.length-1)) (by (try simp only [Bool.and_eq_true,decide_eq_true_eq,Bool.not_eq_true',Bool.or_eq_false_iff,decide_eq_false_iff_not] at hc); omega)) ?_
 refine ld rfl (.f rfl rfl) Fx.ag5 (.s rfl) (fun hc=>(hs.yat ((f.length-1)) (by (try simp only [Bool.and_eq_true,decide_eq_true_eq,Bool.not_eq_true',Bool.or_eq_false_iff,decide_eq_false_iff_not] at hc); omega) (by (try simp only [Bool.and_eq_true,decide_eq_true_eq,Bool.not_eq_true',Bool.or_eq_false_iff,decide_eq_false_iff_not] at hc); omega)).rd) ?_
 refine cp rfl (.f rfl rfl) (.s rfl) (.u rfl) rfl (pkO rfl .no (.u rfl) (.s rfl) (mV rfl rfl (mv rfl (.f rfl rfl) (.u rfl) (mv rfl (.f rfl rfl) (.u rfl) (ln rfl (.f rfl rfl) Fx.sn36 (.s rfl) (arn (((f.length-1):Nat):Int) rfl (.f rfl rfl) (.s rfl) (.u rfl) rfl (fun hc=>by (try simp only [Bool.and_eq_true,decide_eq_true_eq,Bool.not_eq_true',Bool.or_eq_false_iff,decide_eq_false_iff_not] at hc); omega) (fun hc=>wrap_i64 (by (try simp only [Bool.and_eq_true,decide_eq_true_eq,Bool.not_eq_true',Bool.or_eq_false_iff,decide_eq_false_iff_not] at hc); omega) (by (try simp only [Bool.and_eq_true,decide_eq_true_eq,Bool.not_eq_true',Bool.or_eq_false_iff,decide_eq_false_iff_not] at hc); omega)) ?_))))))
 refine ih rfl (.f rfl rfl) Fx.se36 (.s rfl) (.s rfl) (fun hc=>by (try simp only [Bool.and_eq_true,decide_eq_true_eq,Bool.not_eq_true',Bool.or_eq_false_iff,decide_eq_false_iff_not] at hc); omega) (fun hc=>by (try simp only [Bool.and_eq_true,decide_eq_true_eq,Bool.not_eq_true',Bool.or_eq_false_iff,decide_eq_false_iff_not] at hc); omega) (fun hc=>hs.nn (k:=(f.length-1)) (by (try simp only [Bool.and_eq_true,decide_eq_true_eq,Bool.not_eq_true',Bool.or_eq_false_iff,decide_eq_false_iff_not] at hc); omega)) ?_
 refine ld rfl (.f rfl rfl) Fx.ag5 (.s rfl) (fun hc=>(hs.yat ((f.length-1)) (by (try simp only [Bool.and_eq_true,decide_eq_true_eq,Bool.not_eq_true',Bool.or_eq_false_iff,decide_eq_false_iff_not] at hc); omega) (by (try simp only [Bool.and_eq_true,decide_eq_true_eq,Bool.not_eq_true',Bool.or_eq_false_iff,decide_eq_false_iff_not] at hc); omega)).rd) ?_
 refine cp rfl (.f rfl rfl) (.s rfl) (.u rfl) rfl (pkO rfl .no (.u rfl) (.s rfl) (.nil (.code (.cond rfl (fun c1=>?_) (fun c1=>?_)))))
 ·have c1k:=c1
  try simp only [qcA,qcC,qcB] at c1
  refine .seq (rq1 rfl rfl (aS rfl rfl (.nil (.code (.ret (We.fin0 Tryd.results35 (.tmp rfl .nil) ?_))))))
  exact ⟨rfl,congrArg Value.bool (ma_head c1).symm⟩
 have c1k:=c1
 try simp only [qcA,qcC,qcB] at c1
 refine .skip (.code (.seq (Wk.mixp ⟨false,false⟩ Fx.mix (by kernel_rfl) ?_)))
 refine Wp.one 0 (by kernel_rfl) ?_
 refine mV rfl rfl (.nil (Wp.one 1 (by kernel_rfl) ?_))
 refine mV rfl rfl (.nil (Wp.one 2 (by kernel_rfl) ?_))
 refine ln rfl .no Fx.sn36 (.u rfl) (.nil (Wp.one 3 (by kernel_rfl) ?_))
 refine arn (((f.length-1):Nat):Int) rfl .no (.u rfl) (.u rfl) rfl (fun _=>by omega) (fun _=>wrap_i64 (by omega) (by omega)) ?_
 refine .nil (Wp.one 4 (by kernel_rfl) ?_)
 refine kE ((f.length-1)) rfl .no Fx.se36 hs (.u rfl) (.u rfl) (fun _=>by omega) (fun _=>by omega) ?_
 intro h35 L35 eL35 lL35 hs35
 have lL35:=lL35 rfl
 refine .nil (Wp.one 5 (by kernel_rfl) ?_)
 refine mV rfl rfl (.nil (Wp.one 6 (by kernel_rfl) ?_))
 refine mV rfl rfl (.nil (Wp.one 7 (by kernel_rfl) ?_))
 refine ln rfl .no Fx.sn36 (.u rfl) (.nil (Wp.one 8 (by kernel_rfl) ?_))
 refine arn (((f.length-1):Nat):Int) rfl .no (.u rfl) (.u rfl) rfl (fun _=>by omega) (fun _=>wrap_i64 (by omega) (by omega)) ?_
 refine .nil (Wp.one 9 (by kernel_rfl) ?_)
 refine ih rfl .no Fx.se36 (.u rfl) (.u rfl) (fun _=>by omega) (fun _=>by omega) (fun _=>hs.nn (k:=(f.length-1)) (by omega)) ?_
 refine .nil (Wp.one 10 (by kernel_rfl) ?_)
 refine ld rfl .no Fx.ag5 (.u rfl) (fun _=>(hs.yat ((f.length-1)) (by omega) (by omega)).rd) ?_
 refine .nil (Wp.one 11 (by kernel_rfl) ?_)
 refine aS rfl rfl (.nil (Wp.one 12 (by kernel_rfl) ?_))
 refine aS rfl rfl (.nil (Wp.last (by kernel_rfl) ?_))
 refine .code (.seq (rq5 rfl rfl (mV rfl rfl ?_)))
 refine cvS rfl rfl Fx.sb9_36 (.u rfl) ?_; intro G43 h43 hG43 hs43
 have hs35:=hs35.mono hG43
 refine Go.Tan.b1 rfl Fx.se56 Fx.zv36 (.u rfl) rfl rfl (by decide) ?_; intro b44
 refine kp rfl .no Fx.go61 (Evc rfl Evn) (Gp.add .here Gp.nil) (fun _ hle hq=>crc1_ok hle hs43 (by rw [yb_len]; omega)) ?_
 refine aS rfl rfl (.nil (.code (.seq (rq3 rfl rfl (mV rfl rfl (kv rfl .no Fx.go62 (Evc rfl (Evc rfl Evn)) (fun _=>rot_ok _ 15 _) ?_))))))
 refine aS rfl rfl (.nil (.code (.seq (.seq (rq2 rfl rfl (mV rfl rfl (mV rfl rfl (.nil (.code (.block ?_))))))))))
 refine Wk.lop (α:=Nat) (fun k=>[(7,true,U (hJ key k)),(49,true,V (BitVec.ofNat 8 k))]) (fun _=>[])
  (fun k Gl=>(k≤(f.getD (f.length-1) 0).toNat)∧(∀ j,j<k→bitY L35 (plcW key L35.length j)=true)) (fun k=>(f.getD (f.length-1) 0).toNat-k) 0 [(5,true,_),(8,true,_),(48,true,_)] [_]
  (esD rfl (esD rfl (esD rfl (esD rfl (esD rfl eZ)))))
  (mS .here rfl mN) ?_ ?_
 ·refine ⟨?_,?_⟩
  ·(try dsimp only)<;>(first|omega|rfl|assumption|(simp; done))
  (try dsimp only)<;>(exact fun j h=>absurd h (Nat.not_lt_zero _))
 intro k N0 Gl0 hN0 hGl0 hF0
 try dsimp only at hF0 hN0 ⊢
 obtain ⟨hk2,hb⟩:=hF0
 have hs35:=hs35.mono hGl0
 refine .seq (rq1 rfl rfl (cp rfl .no (.u rfl) (.u rfl) rfl (.nil (.code (.seq (.cond rfl (fun c2=>?_) (fun c2=>?_)))))))
 ·have c2k:=c2
  try simp only [qcA,qcC,qcB] at c2
  refine .skip (.code (.seq (.block (.seq (rq7 rfl rfl (mV rfl rfl (mV rfl rfl (ln rfl .no Fx.sn36 (.u rfl) (arn (((8*L35.length):Nat):Int) rfl .no (.u rfl) (.u rfl) rfl (fun _=>by omega) (fun _=>wrap_i64 (by omega) (by omega)) ?_)))))))))
  refine ci rfl .no rfl Fx.cv3_126 (.u rfl) ?_
  refine mw (k:=.u32) (b:=BitVec.ofInt 32 ((8*L35.length:Nat):Int)) rfl .no (.u rfl) (.u rfl) (fun _=>st_nz (by omega) (by omega)) ?_
  refine aS rfl rfl (.nil (.code (.seq (.seq (rq10 rfl rfl (mV rfl rfl (mV rfl rfl (rw' (k:=.u32) rfl .no (.u rfl) (.u rfl) (fun _=>by decide) ?_))))))))
  have hp8:(plcW key L35.length k >>> 3).toNat<L35.length:=st_idx (by omega) (by omega)
  refine ih rfl .no Fx.se36 (.u rfl) (.u rfl) (fun _=>Int.natCast_nonneg _) (fun _=>Int.ofNat_lt.2 hp8) (fun _=>hs35.nn (k:=(plcW key L35.length k >>> 3).toNat) (by omega)) ?_
  refine ld rfl .no Fx.ag5 (.u rfl) (fun _=>(hs35.yat (plcW key L35.length k >>> 3).toNat rfl hp8).rd) ?_
  refine mV rfl rfl (bw (k:=.u32) (b:=7#32) rfl .no rfl (.u rfl) (.u rfl) rfl (rw' (k:=.u8) rfl .no (.u rfl) (.u rfl) (fun _=>Int.natCast_nonneg _) ?_))
  refine bw (k:=.u8) (b:=1#8) rfl .no rfl (.u rfl) (.u rfl) rfl (cp rfl .no (.u rfl) (.u rfl) rfl (.nil (.code (.cond rfl (fun c3=>?_) (fun c3=>?_)))))
  ·have c3k:=c3
   try simp only [qcA,qcC,qcB] at c3
   refine .seq (rq1 rfl rfl (aS rfl rfl (.nil (.code (.ret (We.fin0 Tryd.results35 (.tmp rfl .nil) ?_))))))
   exact ⟨rfl,congrArg Value.bool (ma_no c1 eL35 hk2 c2 c3).symm⟩
  have c3k:=c3
  try simp only [qcA,qcC,qcB] at c3
  refine .skip (.code (rq4 rfl rfl (mV rfl rfl (mV rfl rfl (bw (k:=.u32) rfl .no rfl (.u rfl) (.u rfl) rfl (aS rfl rfl (.nil (.blk (.code (rq2 rfl rfl (bw (k:=.u8) (b:=1#8) rfl .no rfl (.u rfl) (.u rfl) rfl (mV rfl rfl (.nil (We.lpo (k+1) ?_ ?_ ?_ ?_ ?_))))))))))))))
  ·exact (esD rfl (esC rfl (by show V (BitVec.ofNat 8 k+1#8)=_; rw [← BitVec.ofNat_add]) (esD rfl (esD rfl (esD rfl eZ)))))
  ·exact (mS .here rfl mN)
  ·have:=ma_dec hk2 c2; omega
  ·exact hGl0
  refine ⟨?_,?_⟩
  ·(try dsimp only)<;>(exact ma_lt hk2 c2)
  (try dsimp only)<;>(exact ma_snoc hb c3k)
 have c2k:=c2
 try simp only [qcA,qcC,qcB] at c2
 refine .exit (.xcode (.xlp (.xblk (.code (.seq (rq1 rfl rfl (aS rfl rfl (.nil (.code (.ret (We.fin0 Tryd.results35 (.tmp rfl .nil) ?_)))))))))))
 exact ⟨rfl,congrArg Value.bool (ma_yes c1 eL35 hk2 c2 hb).symm⟩
theorem make_ok (h:Sh) (l:List ByteArray) (bits:Int) (G:PM) (hs:SlR G 1 encT h l) (hl:l.length≤100000) (hk:∀ s∈l,s.size≤1000000):Ct Tryd.prog 29 ([h.val l.length,.int .i64 bits]:List Value).toArray G [] (PR 5 (fun L=>L=makeB l bits)):=by
 refine Ct.of Tryd.func29 rfl Tryd.ntmps29 rfl fun w0 hs0=>?_
 have hp:=hpb bits; have hpl:=perB_le bits; have hr:=hprb bits; have hrl:=prbB_le bits
 have hm:l.length*perB bits≤6400000:=Nat.le_trans (Nat.mul_le_mul hl hpl.2) (by decide)
 refine .seq (rq1 rfl rfl (aS rfl rfl (.nil (.code (.seq (rq4 rfl rfl (mV rfl rfl (mI rfl .no (.u rfl) (.u rfl) ?_))))))))
 refine mA rfl .no (.u rfl) (.u rfl) ?_
 refine aS rfl rfl (.nil (.code (.seq ?_)))
 rw [← hp]
 refine rq6 rfl rfl (mV rfl rfl (arn ((((perB bits)*69):Nat):Int) rfl .no (.u rfl) (.u rfl) rfl (fun _=>by omega) (fun _=>wrap_i64 (by omega) (by omega)) ?_))
 refine qun (((perB bits)*69)) (100) rfl .no (.u rfl) (.u rfl) (fun _=>by omega) (fun _=>by omega) (fun _=>by first|decide|omega) (fun _=>by omega) ?_
 refine mIn ((((perB bits)*69) / 100)) (30) rfl .no (.u rfl) (.u rfl) (fun _=>by omega) (fun _=>by omega) ?_
 refine mAn (1) ((min (((perB bits)*69) / 100) 30)) rfl .no (.u rfl) (.u rfl) (fun _=>by omega) (fun _=>by omega) ?_
 refine aS rfl rfl (.nil (.code (.seq ?_)))
 rw [show max 1 (min (perB bits*69 / 100) 30)=prbB bits from rfl]
 refine Wk.rg [0,1,2,3,4,5,6,7,8,9,10,11,12,13,14] rfl rfl (mV rfl rfl (ln rfl .no Fx.sn74 (.u rfl) (mV rfl rfl (arn (((l.length*perB bits):Nat):Int) rfl .no (.u rfl) (.u rfl) rfl (fun _=>rfl) (fun _=>wrap_i64 (by omega) (by omega)) ?_))))
 refine mAn (64) ((l.length*perB bits)) rfl .no (.u rfl) (.u rfl) (fun _=>by omega) (fun _=>by omega) ?_
 refine arn ((((max 64 (l.length*perB bits))+7):Nat):Int) rfl .no (.u rfl) (.u rfl) rfl (fun _=>by omega) (fun _=>wrap_i64 (by omega) (by omega)) ?_
 refine qun (((max 64 (l.length*perB bits))+7)) (8) rfl .no (.u rfl) (.u rfl) (fun _=>by omega) (fun _=>by omega) (fun _=>by first|decide|omega) (fun _=>by omega) ?_
 refine mV rfl rfl (ln rfl .no Fx.sn74 (.u rfl) (mV rfl rfl (arn (((l.length*perB bits):Nat):Int) rfl .no (.u rfl) (.u rfl) rfl (fun _=>rfl) (fun _=>wrap_i64 (by omega) (by omega)) ?_)))
 refine qun ((l.length*perB bits)) (8) rfl .no (.u rfl) (.u rfl) (fun _=>by omega) (fun _=>by omega) (fun _=>by first|decide|omega) (fun _=>by omega) ?_
 refine arn (((((l.length*perB bits) / 8)+10):Nat):Int) rfl .no (.u rfl) (.u rfl) rfl (fun _=>by omega) (fun _=>wrap_i64 (by omega) (by omega)) ?_
 refine mkY ((((max 64 (l.length*perB bits))+7) / 8)) ((((l.length*perB bits) / 8)+10)) rfl Fx.se36 Fx.zv5 (.u rfl) (.u rfl) (by first|rfl|omega) (by first|rfl|omega) (by omega) (by omega) ?_; intro b30
 have lR30:(List.replicate ((((max 64 (l.length*perB bits))+7) / 8)) (0#8:Y)).length=(((max 64 (l.length*perB bits))+7) / 8):=List.length_replicate
 refine aS rfl rfl (.nil (.code (.seq (.seq (rq3 rfl rfl (mV rfl rfl (ln rfl .no Fx.sn74 (.u rfl) (mV rfl rfl (.nil (.code (.block ?_)))))))))))
 refine Wk.lop (α:=Nat×List Y) (fun gh=>[(33,true,.int .i64 (gh.1:Int))]) (fun gh=>[rB (.slice (some ⟨b30,0,none⟩) ((max 64 (l.length*perB bits)+7) / 8:Nat) (l.length*perB bits / 8+10:Nat)) 5 gh.2])
  (fun gh Gl=>(gh.1≤l.length)∧(gh.2=keysB l bits gh.1)) (fun gh=>l.length-gh.1) (0,_) [(5,true,_),(6,true,_),(31,true,_),(32,true,_)] []
  (esC rfl (by first|rfl|exact evi (by omega)) (esD rfl (esD rfl (esD rfl (esD rfl eZ)))))
  (mS .here rfl mN) ?_ ?_
 ·refine ⟨?_,?_⟩
  ·(try dsimp only)<;>(first|omega|rfl|assumption|(simp; done))
  (try dsimp only)<;>(rfl)
 intro gh N0 Gl0 hN0 hGl0 hF0
 obtain ⟨k,M⟩:=gh; dsimp only at hF0 hN0 ⊢
 obtain ⟨hk2,eM⟩:=hF0
 have hs:=hs.mono hGl0
 have lM:M.length=(max 64 (l.length*perB bits)+7) / 8:=by rw [eM,keysB_len]
 refine .seq (rq1 rfl rfl (cp rfl .no (.u rfl) (.u rfl) rfl (.nil (.code (.seq (.cond rfl (fun c1=>?_) (fun c1=>?_)))))))
 ·have c1k:=c1
  try simp only [qcA,qcB] at c1
  refine .skip (.code (.seq (.block (.seq (rq3 rfl rfl (ih rfl .no Fx.se74 (.u rfl) (.u rfl) (fun _=>by omega) (fun _=>by omega) (fun _=>hs.nn (k:=k) (by first|omega|(simp only [Bool.and_eq_true,decide_eq_true_eq] at hc; omega)|(simp only [List.length_cons,List.length_nil]; omega))) ?_))))))
  obtain ⟨s,es⟩:=getx (k:=k) (xs:=l) (by omega)
  refine ld rfl .no Fx.ag9 (.u rfl) (fun _=>(hs.t1 k (by omega) es).rd) ?_
  refine aS rfl rfl (.nil (.code (rq4 rfl rfl (mV rfl rfl (mV rfl rfl (mV rfl rfl (ka rfl (.inr rfl) Fx.go52 (Evc rfl (Evc rfl (Evc rfl Evn))) (mtk1 .here) (set_ok M b30 _ _ lM.symm s (prbB bits) _ (by omega) (by omega) (Nat.le_trans (hk s (List.mem_of_getElem? es)) (by decide)) (by omega)) ?_)))))))
  rintro _ G40 μ40 hG40 ⟨rfl,rfl⟩
  refine .nil (.blk (.code (rq2 rfl rfl (arn (((k+1):Nat):Int) rfl .no (.u rfl) (.u rfl) rfl (fun _=>by omega) (fun _=>wrap_i64 (by omega) (by omega)) ?_))))
  refine mV rfl rfl (.nil (We.lpo (k+1,setL s M (prbB bits)) ?_ ?_ ?_ ?_ ?_))
  ·exact (esC rfl (by first|rfl|exact evi (by omega)) (esD rfl (esD rfl (esD rfl (esD rfl eZ)))))
  ·exact (mS .here rfl mN)
  ·first|omega|(dsimp only; omega)
  ·exact (hGl0).trans hG40
  refine ⟨?_,?_⟩
  ·(try dsimp only)<;>(first|omega|rfl|assumption|(simp; done))
  (try dsimp only)<;>(rw [eM,keysB_snoc es])
 have c1k:=c1
 try simp only [qcA,qcB] at c1
 refine .exit (.xcode (.xlp (.xblk (.code (.seq (rq6 rfl rfl (mV rfl rfl (mV rfl rfl (ci rfl .no rfl Fx.cv3_5 (.u rfl) ?_)))))))))
 refine Go.Tan.b1 rfl Fx.se36 Fx.zv5 (.u rfl) rfl rfl (by decide) ?_; intro b45
 refine apY rfl Fx.se36 Fx.zv5 (.u rfl) (.u rfl) tk1 (Sc.one .here) (by show _+1≤_; omega) ?_
 intro v46 L46 ov46 eL46
 have lL46:L46.length=M.length+1:=by rw [eL46,List.length_append]; first|rfl | simp [yl_len]
 refine aS rfl rfl (.nil (.code (.ret (We.fin Tryd.results29 (.tmp rfl .nil) (mS .here rfl mN) ?_))))
 obtain rfl:k=l.length:=by omega
 exact ⟨_,by rw [eL46,eM]; rfl,rfl⟩
namespace FxVerR
theorem se36:slE Tryd.prog 36=some (5,1,1):=by kernel_rfl
theorem zv5:(Tryd.prog.info? 5).bind (·.zero)=some (.int .u8 0):=by kernel_rfl
theorem cv24_5:cvK Tryd.prog 24 5=some .u8:=by kernel_rfl
theorem cv3_24:cvK Tryd.prog 3 24=some .u64:=by kernel_rfl
theorem sn36:(slE Tryd.prog 36).isSome=true:=by kernel_rfl
theorem ag5:aggN Tryd.prog 5=some none:=by kernel_rfl
theorem cv5_24:cvK Tryd.prog 5 24=some .u64:=by kernel_rfl
end FxVerR
namespace Fx
theorem st9:strT Tryd.prog 9=true:=by kernel_rfl
theorem go31:goFn Tryd.prog 31=true:=by kernel_rfl
end Fx
theorem Num_ok (xs:List Y) (h:Sh) (G:PM) (hs:SlR G 1 encY h xs) (n:BitVec 64) (hl:xs.length≤100000000000000):Ct Tryd.prog 31 ([h.val xs.length,uv .u64 n]:List Value).toArray G [] (PR 5 (fun L=>L=xs++numN n.toNat)):=by
 refine Ct.of Tryd.func31 rfl Tryd.ntmps31 rfl fun w0 hs0=>?_
 have ln:=num_len10 n.isLt
 refine .seq (rq1 rfl rfl (aS rfl rfl (.nil (.code (.seq (rq4 rfl rfl ?_))))))
 refine b0B rfl FxVerR.se36 ?_; intro b6
 refine mV rfl rfl (apY0 rfl FxVerR.se36 FxVerR.zv5 (.u rfl) (.u rfl) .here hs.sc (by (try simp only [qlA,yl_len]); omega) ?_)
 intro v8 L8 _ ov8 eL8
 have lL8:L8.length=xs.length:=by rw [eL8]
 refine aS rfl rfl (.nil (.code (.seq (.block ?_))))
 refine Wk.lop (α:=BitVec 64×Value×List Y) (fun gh=>[(1,true,uv .u64 gh.1),(5,true,gh.2.1)]) (fun gh=>[rB gh.2.1 5 gh.2.2])
  (fun gh Gl=>(gh.2.2++numN gh.1.toNat=xs++numN n.toNat)) (fun gh=>gh.1.toNat) (n,v8,L8) [] []
  (esD rfl (esD rfl eZ))
  (mS .here rfl mN) ?_ ?_
 ·(try dsimp only)<;>(rw [eL8])
 intro gh N0 Gl0 hN0 hGl0 hF0
 obtain ⟨m,v,L⟩:=gh; dsimp only at hF0 hN0 ⊢
 have eq:=hF0
 have tq:@BitVec.toNat IntKind.u64.bits m=m.toNat:=rfl
 have lq:=congrArg List.length eq
 simp only [List.length_append] at lq
 have lp:=num_pos m.toNat
 refine .seq (.seq (rq2 rfl rfl (mV rfl rfl (cp rfl .no (.u rfl) (.u rfl) rfl (.nil (.code (.cond rfl (fun c1=>?_) (fun c1=>?_))))))))
 ·have c1k:=c1
  try simp only [qcA,qcC,qcB] at c1
  refine .skip (.code (.seq (.block (rq7 rfl rfl (mV rfl rfl (mV rfl rfl (cu (k:=.u64) rfl .no rfl FxVerR.cv24_5 (.u rfl) ?_)))))))
  refine bw (k:=.u8) (b:=128#8) rfl .no rfl (.u rfl) (.u rfl) rfl ?_
  refine Go.Tan.b1 rfl FxVerR.se36 FxVerR.zv5 (.u rfl) rfl rfl (by decide) ?_; intro b17
  refine apY rfl FxVerR.se36 FxVerR.zv5 (.u rfl) (.u rfl) tk1 (Sc.one .here) (by show _+1≤_; omega) ?_
  intro v18 L18 ov18 eL18
  have lL18:L18.length=L.length+1:=by rw [eL18,List.length_append]; first|rfl | simp [yl_len]
  refine aS rfl rfl (.nil (.blk (.code (rq3 rfl rfl (mV rfl rfl (rw' (k:=.u64) rfl .no (.u rfl) (.u rfl) (fun _=>by decide) ?_))))))
  refine aS rfl rfl (.nil (We.lpo (m >>> 7,v18,L18) ?_ ?_ ?_ ?_ ?_))
  ·exact (esD rfl (esD rfl eZ))
  ·exact (mS .here rfl mN)
  ·(dsimp only; rw [shr7]; omega)
  ·exact hGl0
  (try dsimp only)<;>(rw [eL18,←eq,num_more (m:=m) (by omega),List.append_assoc]; rfl)
 have c1k:=c1
 try simp only [qcA,qcC,qcB] at c1
 refine .exit (.xcode (.xlp (.xblk (.code (.seq (rq6 rfl rfl (mV rfl rfl (mV rfl rfl (cu (k:=.u64) rfl .no rfl FxVerR.cv24_5 (.u rfl) ?_)))))))))
 refine Go.Tan.b1 rfl FxVerR.se36 FxVerR.zv5 (.u rfl) rfl rfl (by decide) ?_; intro b22
 refine apY rfl FxVerR.se36 FxVerR.zv5 (.u rfl) (.u rfl) tk1 (Sc.one .here) (by show _+1≤_; omega) ?_
 intro v23 L23 ov23 eL23
 have lL23:L23.length=L.length+1:=by rw [eL23,List.length_append]; first|rfl | simp [yl_len]
 refine aS rfl rfl (.nil (.code (.ret (We.fin Tryd.results31 (.tmp rfl .nil) (mS .here rfl mN) ?_))))
 exact ⟨L23,by rw [eL23,←eq,num_last (m:=m) (by omega)]; rfl,rfl⟩
theorem Num_i (xs:List Y) (h:Sh) (G:PM) (hs:SlR G 1 encY h xs) (x:Int) (hx:u64 x) (hl:xs.length≤100000000000000):Ct Tryd.prog 31 ([h.val xs.length,.int .u64 x]:List Value).toArray G [] (PR 5 (fun L=>L=xs++numN x.toNat)):=by
 rw [uvI hx,←ofI hx]; exact Num_ok xs h G hs _ hl
theorem Str_ok (xs:List Y) (h:Sh) (G:PM) (hs:SlR G 1 encY h xs) (s:ByteArray) (hl:xs.length+s.size≤100000000000000):Ct Tryd.prog 27 ([h.val xs.length,.string s]:List Value).toArray G [] (PR 5 (fun L=>L=xs++strL (yb s))):=by
 refine Ct.of Tryd.func27 rfl Tryd.ntmps27 rfl fun w0 hs0=>?_
 have ly:=yb_len s
 have ln:=num_len10 (n:=s.size) (by omega)
 refine .seq (rq1 rfl rfl (aS rfl rfl (.nil (.code (.seq (rq8 rfl rfl (mV rfl rfl (mV rfl rfl (ls rfl .no Fx.st9 (.u rfl) (cw rfl .no FxVerR.cv3_24 (.u rfl) (fun _=>wrap_u64 (by omega) (by omega)) ?_))))))))))
 refine kc rfl Fx.go31 (Evc rfl (Evc rfl Evn)) (Ct.rowc (Num_i xs h _ hs (s.size:Int) ⟨by omega,by omega⟩ (by omega))) ?_
 rintro v9 G9 μ9 hG9 ⟨L9,ov9,eL9,rfl⟩
 refine mV rfl rfl ?_
 have l9:L9.length=xs.length+(numN s.size).length:=by rw [eL9,List.length_append,Int.toNat_natCast]
 refine apT rfl FxVerR.se36 Fx.st9 FxVerR.zv5 (.u rfl) (.u rfl) .here (by (try simp only [List.length_append]); omega) ?_; intro v11 L11 ov11 eL11
 refine aS rfl rfl (.nil (.code (.ret (We.fin Tryd.results27 (.tmp rfl .nil) (mS .here rfl mN) ?_))))
 exact ⟨L11,by rw [eL11,eL9,strL,ly,Int.toNat_natCast,List.append_assoc],rfl⟩
theorem number_ok (xs:List Y) (h:Sh) (G:PM) (hs:SlR G 1 encY h xs) (hl:xs.length≤100000000000000):Ct Tryd.prog 74 ([h.val xs.length]:List Value).toArray G [] (fun _ μ' u=>∃ n k e,NumR xs n k e∧μ'=[]∧u=.tuple #[.int .u64 (n:Int),.int .i64 (k:Int),.int .i64 e]):=by
 refine Ct.of Tryd.func74 rfl Tryd.ntmps74 rfl fun w0 hs0=>?_
 refine .seq (rq3 rfl rfl (aS rfl rfl (aS rfl rfl (aS rfl rfl (.nil (.code (.seq (rq1 rfl rfl (aS rfl rfl (.nil (.code (.seq (.seq (rq3 rfl rfl (mV rfl rfl (ln rfl .no FxVerR.sn36 (.u rfl) (mV rfl rfl (.nil (.code (.block ?_))))))))))))))))))))
 refine Wk.lop (α:=Nat×BitVec 64) (fun gh=>[(5,true,uv .u64 gh.2),(10,true,.int .i64 (gh.1:Int))]) (fun _=>[])
  (fun gh Gl=>(gh.1≤xs.length)∧(gh.1≤9)∧(gh.2.toNat<128^gh.1)∧(numP xs=numG gh.1 gh.2.toNat (xs.drop gh.1))) (fun gh=>xs.length-gh.1) (0,0#64) [(8,true,_),(9,true,_)] []
  (esD rfl (esC rfl (by first|rfl|exact evi (by omega)) (esD rfl (esD rfl eZ))))
  mN ?_ ?_
 ·refine ⟨?_,?_,?_,?_⟩
  ·(try dsimp only)<;>(first|omega|rfl|assumption|(simp; done))
  ·(try dsimp only)<;>(first|omega|rfl|assumption|(simp; done))
  ·(try dsimp only)<;>(decide)
  (try dsimp only)<;>(rfl)
 intro gh N0 Gl0 hN0 hGl0 hF0
 obtain ⟨k,w⟩:=gh; dsimp only at hF0 hN0 ⊢
 obtain ⟨hk,h9,hw,e⟩:=hF0
 have hs:=hs.mono hGl0
 have tq:@BitVec.toNat IntKind.u8.bits (xs.getD k 0)=(xs.getD k 0).toNat:=rfl
 refine .seq (rq1 rfl rfl (cp rfl .no (.u rfl) (.u rfl) rfl (.nil (.code (.seq (.cond rfl (fun c1=>?_) (fun c1=>?_)))))))
 ·have c1k:=c1
  try simp only [qcA,qcC,qcB] at c1
  refine .skip (.code (.seq (.block (.seq (rq5 rfl rfl (mV rfl rfl (ih rfl .no FxVerR.se36 (.u rfl) (.u rfl) (fun _=>by omega) (fun _=>by omega) (fun _=>hs.nn (k:=k) (by omega)) ?_)))))))
  refine ld rfl .no FxVerR.ag5 (.u rfl) (fun _=>(hs.yat (k) (by omega) (by omega)).rd) ?_
  refine aS rfl rfl (aS rfl rfl (.nil (.code (.seq (.seq (rq6 rfl rfl (mV rfl rfl (cp rfl .no (.u rfl) (.u rfl) rfl (mV rfl rfl (mv rfl (.t rfl rfl) (.u rfl) (cp rfl (.t rfl rfl) (.s rfl) (.u rfl) rfl (pkA rfl .no (.u rfl) (.s rfl) (.nil (.code (.cond rfl (fun c2=>?_) (fun c2=>?_))))))))))))))))
  ·have c2k:=c2
   try simp only [qcA,qcC,qcB] at c2
   refine .seq (rq3 rfl rfl (aS rfl rfl (aS rfl rfl (aS rfl rfl (.nil (.code (.ret (We.fin0 Tryd.results74 (.tmp rfl (.tmp rfl (.tmp rfl .nil))) ?_))))))))
   exact ⟨0,0,11,.of (np_form e (by omega) (by omega) (by omega)),rfl,rfl⟩
  have c2k:=c2
  try simp only [qcA,qcC,qcB] at c2
  refine .skip (.code (.seq (rq9 rfl rfl (mV rfl rfl (mV rfl rfl (bw (k:=.u8) (b:=127#8) rfl .no rfl (.u rfl) (.u rfl) rfl (cu (k:=.u8) rfl .no rfl FxVerR.cv5_24 (.u rfl) ?_)))))))
  refine mV rfl rfl (arn (((7*k):Nat):Int) rfl .no (.u rfl) (.u rfl) rfl (fun _=>by omega) (fun _=>wrap_i64 (by omega) (by omega)) ?_)
  refine lw (k:=.u64) rfl .no rfl (.u rfl) (.u rfl) (fun _=>by omega) ?_
  refine bw (k:=.u64) rfl .no rfl (.u rfl) (.u rfl) rfl (aS rfl rfl (.nil (.code (.seq (rq2 rfl rfl (mV rfl rfl (cp rfl .no (.u rfl) (.u rfl) rfl (.nil (.code (.cond rfl (fun c3=>?_) (fun c3=>?_)))))))))))
  ·have c3k:=c3
   try simp only [qcA,qcC,qcB] at c3
   refine .seq (.seq (rq6 rfl rfl (mV rfl rfl (cp rfl .no (.u rfl) (.u rfl) rfl (mV rfl rfl (mv rfl (.t rfl rfl) (.u rfl) (cp rfl (.t rfl rfl) (.s rfl) (.u rfl) rfl (pkA rfl .no (.u rfl) (.s rfl) (.nil (.code (.cond rfl (fun c4=>?_) (fun c4=>?_))))))))))))
   ·have c4k:=c4
    try simp only [qcA,qcC,qcB] at c4
    refine .seq (rq3 rfl rfl (aS rfl rfl (aS rfl rfl (aS rfl rfl (.nil (.code (.ret (We.fin0 Tryd.results74 (.tmp rfl (.tmp rfl (.tmp rfl .nil))) ?_))))))))
    exact ⟨0,0,11,.of (np_zero e (by omega) (by omega) (by omega)),rfl,rfl⟩
   have c4k:=c4
   try simp only [qcA,qcC,qcB] at c4
   refine .skip (.code (.seq (rq6 rfl rfl (mV rfl rfl (mV rfl rfl (arn (((k+1):Nat):Int) rfl .no (.u rfl) (.u rfl) rfl (fun _=>by omega) (fun _=>wrap_i64 (by omega) (by omega)) ?_))))))
   refine aS rfl rfl (aS rfl rfl (aS rfl rfl (.nil (.code (.ret (We.fin0 Tryd.results74 (.tmp rfl (.tmp rfl (.tmp rfl .nil))) ?_))))))
   exact ⟨_,_,0,.of (np_end e hw h9 (by omega) (by omega) (by omega) (by omega)),rfl,rfl⟩
  have c3k:=c3
  try simp only [qcA,qcC,qcB] at c3
  refine .skip (.blk (.code (rq2 rfl rfl (arn (((k+1):Nat):Int) rfl .no (.u rfl) (.u rfl) rfl (fun _=>by omega) (fun _=>wrap_i64 (by omega) (by omega)) ?_))))
  refine mV rfl rfl (.nil (We.lpo (k+1,w ||| (xs.getD k 0 &&& 127#8).setWidth 64 <<< (7*k)) ?_ ?_ ?_ ?_ ?_))
  ·exact (esD rfl (esC rfl (by first|rfl|exact evi (by omega)) (esD rfl (esD rfl eZ))))
  ·exact mN
  ·first|omega|(dsimp only; omega)
  ·exact hGl0
  refine ⟨?_,?_,?_,?_⟩
  ·(try dsimp only)<;>(first|omega|rfl|assumption|(simp; done))
  ·(try dsimp only)<;>(exact (np_more e hw h9 (by omega) (by omega) (by omega)).2.2)
  ·(try dsimp only)<;>(exact (np_more e hw h9 (by omega) (by omega) (by omega)).2.1)
  (try dsimp only)<;>(exact (np_more e hw h9 (by omega) (by omega) (by omega)).1)
 have c1k:=c1
 try simp only [qcA,qcC,qcB] at c1
 refine .exit (.xcode (.xlp (.xblk (.code (.seq (rq3 rfl rfl (aS rfl rfl (aS rfl rfl (aS rfl rfl (.nil (.code (.ret (We.fin0 Tryd.results74 (.tmp rfl (.tmp rfl (.tmp rfl .nil))) ?_)))))))))))))
 exact ⟨0,0,10,.of (np_short e (by omega)),rfl,rfl⟩
namespace FxVerS
theorem bp145_0:bPl Tryd.prog 145 [0]=some ([.slice none 0 0,.int .i64 0],[(0,1)]):=by kernel_rfl
theorem pt120:ptT Tryd.prog 120=true:=by kernel_rfl
theorem fo145_1:fOff Tryd.prog 145 1=some 1:=by kernel_rfl
theorem ag39:aggN Tryd.prog 39=some none:=by kernel_rfl
theorem fo145_0:fOff Tryd.prog 145 0=some 0:=by kernel_rfl
theorem ag36:aggN Tryd.prog 36=some none:=by kernel_rfl
theorem sz36:szT Tryd.prog 36=some 1:=by kernel_rfl
theorem bs36_9:bsT Tryd.prog 36 9=true:=by kernel_rfl
end FxVerS
namespace Fx
theorem go74:goFn Tryd.prog 74=true:=by kernel_rfl
theorem sz39:szT Tryd.prog 39=some 1:=by kernel_rfl
theorem cv24_3:cvK Tryd.prog 24 3=some .i64:=by kernel_rfl
theorem go58:goFn Tryd.prog 58=true:=by kernel_rfl
theorem go75:goFn Tryd.prog 75=true:=by kernel_rfl
end Fx
theorem rNum_ok (xs:List Y) (e:Int) (s:Sh) (b:Nat) (G:PM) (hs:SlR G 1 encY s xs) (hl:xs.length≤100000000000000):Ct Tryd.prog 57 ([.pointer (some ⟨b,0,none⟩)]:List Value).toArray G [.blk b (cl [s.val xs.length,.int .i64 e] 145)] (fun G' μ' u=>∃ n L e' s',rdNum ⟨xs,e⟩=(n,⟨L,e'⟩)∧μ'=[.blk b (cl [Sh.val s' L.length,.int .i64 e'] 145)]∧u=.int .u64 (n:Int)∧SlR G' 1 encY s' L):=by
 refine Ct.of Tryd.func57 rfl Tryd.ntmps57 rfl fun w0 hs0=>?_
 refine .seq (rq1 rfl rfl (aS rfl rfl (.nil (.code (.seq (.seq (rq9 rfl rfl (mV rfl rfl (pe rfl .no FxVerS.pt120 (.u rfl) (.u rfl) ?_)))))))))
 refine mV rfl rfl (mv rfl (Gd.f (b:=false) rfl rfl) (.u rfl) (nc rfl (Gd.f (b:=false) rfl rfl) (.u rfl) (fz rfl (Gd.f (b:=false) rfl rfl) FxVerS.fo145_1 (.u rfl) (ld rfl (Gd.f (b:=false) rfl rfl) FxVerS.ag39 (.u rfl) (fun _=>Rd.own .here (by first|exact wap_f rfl|rfl)) ?_))))
 refine cp rfl (Gd.f (b:=false) rfl rfl) (.u rfl) (.u rfl) rfl (pkO rfl .no (.u rfl) (.u rfl) (.nil (.code (.cond rfl (fun c1=>?_) (fun c1=>?_)))))
 ·have c1k:=c1
  try simp only [qcA,qcC,qcB] at c1
  refine .seq (rq1 rfl rfl (aS rfl rfl (.nil (.code (.ret (We.fin Tryd.results57 (.tmp rfl .nil) (mS .here rfl mN) ?_))))))
  exact ⟨0,xs,e,s,rd_num_bad (by simpa using c1k),rfl,rfl,hs⟩
 have c1k:=c1
 try simp only [qcA,qcC,qcB] at c1
 refine .skip (.code (.seq (Wk.rg [0,1,2,3,4,5,6,7,8,9,10,11] rfl rfl (mV rfl rfl (nc rfl .no (.u rfl) (fz rfl .no FxVerS.fo145_0 (.u rfl) (ld rfl .no FxVerS.ag36 (.u rfl) (fun _=>Rd.own .here (by first|exact wap_f rfl|rfl)) ?_)))))))
 refine kc rfl Fx.go74 (Evc rfl Evn) (number_ok xs s _ hs hl) ?_
 rintro _ G20 μ20 hG20 ⟨n20,k20,e20,hN,rfl,rfl⟩
 have hNl:=hN.le; have hNt:=hN.lt
 have hs:=hs.mono hG20
 refine mV rfl rfl (ex rfl .no (.u rfl) rfl (ex rfl .no (.u rfl) rfl (ex rfl .no (.u rfl) rfl (aS rfl rfl (aS rfl rfl (aS rfl rfl (.nil (.code (.seq (rq5 rfl rfl (mV rfl rfl (mV rfl rfl (nc rfl .no (.u rfl) (fz rfl .no FxVerS.fo145_1 (.u rfl) (s1 rfl (.u rfl) (.u rfl) rfl Fx.sz39 .here (by first|decide|(simp only [wa_len,ba_len,qlA]; omega)) (rfl) ?_)))))))))))))))
 refine .nil (.code (.seq (rq10 rfl rfl (mV rfl rfl (mV rfl rfl (nc rfl .no (.u rfl) (fz rfl .no FxVerS.fo145_0 (.u rfl) (ld rfl .no FxVerS.ag36 (.u rfl) (fun _=>Rd.own .here (by first|exact wap_f rfl|rfl)) ?_))))))))
 refine mV rfl rfl (kD (k20) rfl .no FxVerR.se36 hs (.u rfl) (.u rfl) (fun _=>by omega) (fun _=>by omega) ?_)
 intro h34 L34 eL34 lL34 hs34
 have lL34:=lL34 rfl
 refine nc rfl .no (.u rfl) (fz rfl .no FxVerS.fo145_0 (.u rfl) (s1 rfl (.u rfl) (.u rfl) rfl FxVerS.sz36 .here (show 0<2 by decide) (rfl) ?_))
 refine .nil (.code (.seq (rq2 rfl rfl (mV rfl rfl (aS rfl rfl (.nil (.code (.ret (We.fin Tryd.results57 (.tmp rfl .nil) (mS .here rfl mN) ?_)))))))))
 exact ⟨n20,L34,e20,h34,rd_num_ok (by simpa using c1k) hN eL34,rfl,rfl,hs34⟩
theorem rStr_ok (xs:List Y) (e:Int) (s:Sh) (b:Nat) (G:PM) (hs:SlR G 1 encY s xs) (hl:xs.length≤100000000000000) (most:Nat) (hm:most≤100000000000000):Ct Tryd.prog 59 ([.pointer (some ⟨b,0,none⟩),.int .i64 (most:Int)]:List Value).toArray G [.blk b (cl [s.val xs.length,.int .i64 e] 145)] (fun G' μ' u=>∃ M L e' s',rdStr most ⟨xs,e⟩=(M,⟨L,e'⟩)∧μ'=[.blk b (cl [Sh.val s' L.length,.int .i64 e'] 145)]∧u=.string (bstr M)∧SlR G' 1 encY s' L):=by
 refine Ct.of Tryd.func59 rfl Tryd.ntmps59 rfl fun w0 hs0=>?_
 refine .seq (rq1 rfl rfl (aS rfl rfl (.nil (.code (.seq (.seq (rq9 rfl rfl (mV rfl rfl (pe rfl .no FxVerS.pt120 (.u rfl) (.u rfl) ?_)))))))))
 refine mV rfl rfl (mv rfl (Gd.f (b:=false) rfl rfl) (.u rfl) (nc rfl (Gd.f (b:=false) rfl rfl) (.u rfl) (fz rfl (Gd.f (b:=false) rfl rfl) FxVerS.fo145_1 (.u rfl) (ld rfl (Gd.f (b:=false) rfl rfl) FxVerS.ag39 (.u rfl) (fun _=>Rd.own .here (by first|exact wap_f rfl|rfl)) ?_))))
 refine cp rfl (Gd.f (b:=false) rfl rfl) (.u rfl) (.u rfl) rfl (pkO rfl .no (.u rfl) (.u rfl) (.nil (.code (.cond rfl (fun c1=>?_) (fun c1=>?_)))))
 ·have c1k:=c1
  try simp only [qcA,qcC,qcB] at c1
  refine .seq (rq1 rfl rfl (aS rfl rfl (.nil (.code (.ret (We.fin Tryd.results59 (.tmp rfl .nil) (mS .here rfl mN) ?_))))))
  exact ⟨[],xs,e,s,rd_str_bad (by simpa using c1k),rfl,rfl,hs⟩
 have c1k:=c1
 try simp only [qcA,qcC,qcB] at c1
 refine .skip (.code (.seq (Wk.rg [0,1,2,3,4,5,6,7,8,9,10,11] rfl rfl (mV rfl rfl (nc rfl .no (.u rfl) (fz rfl .no FxVerS.fo145_0 (.u rfl) (ld rfl .no FxVerS.ag36 (.u rfl) (fun _=>Rd.own .here (by first|exact wap_f rfl|rfl)) ?_)))))))
 refine kc rfl Fx.go74 (Evc rfl Evn) (number_ok xs s _ hs hl) ?_
 rintro _ G24 μ24 hG24 ⟨n20,k20,e20,hN,rfl,rfl⟩
 have hNl:=hN.le; have hNt:=hN.lt
 have hs:=hs.mono hG24
 refine mV rfl rfl (ex rfl .no (.u rfl) rfl (ex rfl .no (.u rfl) rfl (ex rfl .no (.u rfl) rfl (aS rfl rfl (aS rfl rfl (aS rfl rfl (.nil (.code (.seq (.block (.seq (rq3 rfl rfl (mV rfl rfl (cp rfl .no (.u rfl) (.u rfl) rfl (aS rfl rfl (.nil (.code (.cond rfl (fun c2=>?_) (fun c2=>?_)))))))))))))))))))
 ·have c2k:=c2
  try simp only [qcA,qcC,qcB] at c2
  refine .seq (rq5 rfl rfl (mV rfl rfl (mV rfl rfl (nc rfl .no (.u rfl) (fz rfl .no FxVerS.fo145_1 (.u rfl) (s1 rfl (.u rfl) (.u rfl) rfl Fx.sz39 .here (by first|decide|(simp only [wa_len,ba_len,qlA]; omega)) (rfl) ?_))))))
  refine .nil (.code (.seq (rq1 rfl rfl (aS rfl rfl (.nil (.code (.ret (We.fin Tryd.results59 (.tmp rfl .nil) (mS .here rfl mN) ?_))))))))
  exact ⟨[],xs,e20,s,rd_str_form (by simpa using c1k) hN (by simpa using c2k),rfl,rfl,hs⟩
 have c2k:=c2
 try simp only [qcA,qcC,qcB] at c2
 refine .seq (rq6 rfl rfl (mV rfl rfl (mV rfl rfl (mAn (0) (most) rfl .no (.u rfl) (.u rfl) (fun _=>by omega) (fun _=>by omega) ?_))))
 refine cw rfl .no FxVerR.cv3_24 (.u rfl) (fun _=>wrap_u64 (by omega) (by omega)) ?_
 refine cp rfl .no (.u rfl) (.u rfl) rfl (aS rfl rfl (.nil (.code (.cond rfl (fun c3=>?_) (fun c3=>?_)))))
 ·have c3k:=c3
  try simp only [qcA,qcC,qcB] at c3
  refine .seq (rq4 rfl rfl (mV rfl rfl (nc rfl .no (.u rfl) (fz rfl .no FxVerS.fo145_1 (.u rfl) (s1 rfl (.u rfl) (.u rfl) rfl Fx.sz39 .here (by first|decide|(simp only [wa_len,ba_len,qlA]; omega)) (rfl) ?_)))))
  refine .nil (.code (.seq (rq1 rfl rfl (aS rfl rfl (.nil (.code (.ret (We.fin Tryd.results59 (.tmp rfl .nil) (mS .here rfl mN) ?_))))))))
  exact ⟨[],xs,4,s,rd_str_long (by simpa using c1k) hN (by simpa using c2k) (by omega),rfl,rfl,hs⟩
 have c3k:=c3
 try simp only [qcA,qcC,qcB] at c3
 refine .seq (Wk.rg [0,1,2,3,4,5,6,7,8,9,10] rfl rfl (mV rfl rfl (mV rfl rfl (nc rfl .no (.u rfl) (fz rfl .no FxVerS.fo145_0 (.u rfl) (ld rfl .no FxVerS.ag36 (.u rfl) (fun _=>Rd.own .here (by first|exact wap_f rfl|rfl)) ?_))))))
 refine ln rfl .no FxVerR.sn36 (.u rfl) (mV rfl rfl (ar rfl .no (.u rfl) (.u rfl) rfl (fun _=>wrap_i64 (by omega) (by omega)) ?_))
 refine cw rfl .no FxVerR.cv3_24 (.u rfl) (fun _=>wrap_u64 (by omega) (by omega)) ?_
 refine cp rfl .no (.u rfl) (.u rfl) rfl (aS rfl rfl (.nil (.code (.cond rfl (fun c4=>?_) (fun c4=>?_)))))
 ·have c4k:=c4
  try simp only [qcA,qcC,qcB] at c4
  refine .seq (rq4 rfl rfl (mV rfl rfl (nc rfl .no (.u rfl) (fz rfl .no FxVerS.fo145_1 (.u rfl) (s1 rfl (.u rfl) (.u rfl) rfl Fx.sz39 .here (by first|decide|(simp only [wa_len,ba_len,qlA]; omega)) (rfl) ?_)))))
  refine .nil (.code (.seq (rq1 rfl rfl (aS rfl rfl (.nil (.code (.ret (We.fin Tryd.results59 (.tmp rfl .nil) (mS .here rfl mN) ?_))))))))
  exact ⟨[],xs,10,s,rd_str_short (by simpa using c1k) hN (by simpa using c2k) (by omega) (by omega),rfl,rfl,hs⟩
 have c4k:=c4
 try simp only [qcA,qcC,qcB] at c4
 refine .skip (.blk (.code (.seq (rq5 rfl rfl (mV rfl rfl (mV rfl rfl (cw rfl .no Fx.cv24_3 (.u rfl) (fun _=>wrap_i64 (by omega) (by omega)) ?_)))))))
 refine arn (((k20+n20):Nat):Int) rfl .no (.u rfl) (.u rfl) rfl (fun _=>by omega) (fun _=>wrap_i64 (by omega) (by omega)) ?_
 refine aS rfl rfl (.nil (.code (.seq (rq9 rfl rfl (mV rfl rfl (nc rfl .no (.u rfl) (fz rfl .no FxVerS.fo145_0 (.u rfl) (ld rfl .no FxVerS.ag36 (.u rfl) (fun _=>Rd.own .here (by first|exact wap_f rfl|rfl)) ?_))))))))
 refine mV rfl rfl (mV rfl rfl (kS (k20) ((k20+n20)) rfl .no FxVerR.se36 hs (.u rfl) (.u rfl) (.u rfl) (fun _=>by omega) (fun _=>by omega) (fun _=>by omega) (fun _=>by omega) ?_))
 intro h68 L68 eL68 lL68 hs68
 have lL68:=lL68 rfl
 refine sB rfl .no FxVerS.bs36_9 (.u rfl) (fun _=>hs68.sc) ?_
 refine aS rfl rfl (.nil (.code (.seq (rq10 rfl rfl (mV rfl rfl (mV rfl rfl (nc rfl .no (.u rfl) (fz rfl .no FxVerS.fo145_0 (.u rfl) (ld rfl .no FxVerS.ag36 (.u rfl) (fun _=>Rd.own .here (by first|exact wap_f rfl|rfl)) ?_)))))))))
 refine mV rfl rfl (kD ((k20+n20)) rfl .no FxVerR.se36 hs (.u rfl) (.u rfl) (fun _=>by omega) (fun _=>by omega) ?_)
 intro h76 L76 eL76 lL76 hs76
 have lL76:=lL76 rfl
 refine nc rfl .no (.u rfl) (fz rfl .no FxVerS.fo145_0 (.u rfl) (s1 rfl (.u rfl) (.u rfl) rfl FxVerS.sz36 .here (by first|decide|(simp only [wa_len,ba_len,qlA]; omega)) (rfl) ?_))
 refine .nil (.code (.seq (rq2 rfl rfl (mV rfl rfl (aS rfl rfl (.nil (.code (.ret (We.fin Tryd.results59 (.tmp rfl .nil) (mS .here rfl mN) ?_)))))))))
 obtain rfl:e=0:=by simpa using c1k
 exact ⟨L68,L76,0,h76,rd_str_ok rfl hN (by simpa using c2k) (by omega) (by omega) eL68 eL76,rfl,rfl,hs76⟩
theorem rFix_ok (xs:List Y) (e:Int) (s:Sh) (b:Nat) (G:PM) (hs:SlR G 1 encY s xs) (hl:xs.length≤100000000000000):Ct Tryd.prog 55 ([.pointer (some ⟨b,0,none⟩),.int .i64 ((1:Nat):Int)]:List Value).toArray G [.blk b (cl [s.val xs.length,.int .i64 e] 145)] (fun G' μ' u=>∃ y L e' s',rdByte ⟨xs,e⟩=(y,⟨L,e'⟩)∧μ'=[.blk b (cl [Sh.val s' L.length,.int .i64 e'] 145)]∧u=uv .u64 (y.setWidth 64)∧SlR G' 1 encY s' L):=by
 refine Ct.of Tryd.func55 rfl Tryd.ntmps55 rfl fun w0 hs0=>?_
 refine .seq (rq1 rfl rfl (aS rfl rfl (.nil (.code (.seq (.seq (rq9 rfl rfl (mV rfl rfl (pe rfl .no FxVerS.pt120 (.u rfl) (.u rfl) ?_)))))))))
 refine mV rfl rfl (mv rfl (Gd.f (b:=false) rfl rfl) (.u rfl) (nc rfl (Gd.f (b:=false) rfl rfl) (.u rfl) (fz rfl (Gd.f (b:=false) rfl rfl) FxVerS.fo145_1 (.u rfl) (ld rfl (Gd.f (b:=false) rfl rfl) FxVerS.ag39 (.u rfl) (fun _=>Rd.own .here (by first|exact wap_f rfl|rfl)) ?_))))
 refine cp rfl (Gd.f (b:=false) rfl rfl) (.u rfl) (.u rfl) rfl (pkO rfl .no (.u rfl) (.u rfl) (.nil (.code (.cond rfl (fun c1=>?_) (fun c1=>?_)))))
 ·have c1k:=c1
  try simp only [qcA,qcC,qcB] at c1
  refine .seq (rq1 rfl rfl (aS rfl rfl (.nil (.code (.ret (We.fin Tryd.results55 (.tmp rfl .nil) (mS .here rfl mN) ?_))))))
  exact ⟨0,xs,e,s,rd_byte_bad (by simpa using c1k),rfl,rfl,hs⟩
 have c1k:=c1
 try simp only [qcA,qcC,qcB] at c1
 refine .skip (.code (.seq (.seq (rq6 rfl rfl (mV rfl rfl (cp rfl .no (.u rfl) (.u rfl) rfl (mV rfl rfl (mv rfl (.f rfl rfl) (.u rfl) (cp rfl (.f rfl rfl) (.s rfl) (.u rfl) rfl (pkO rfl .no (.u rfl) (.s rfl) (.nil (.code (.cond rfl (fun c2=>?_) (fun c2=>?_))))))))))))))
 ·have c2k:=c2
  exact absurd c2 (by decide)
 have c2k:=c2
 try simp only [qcA,qcC,qcB] at c2
 refine .skip (.code (.seq (.seq (rq7 rfl rfl (mV rfl rfl (mV rfl rfl (nc rfl .no (.u rfl) (fz rfl .no FxVerS.fo145_0 (.u rfl) (ld rfl .no FxVerS.ag36 (.u rfl) (fun _=>Rd.own .here (by first|exact wap_f rfl|rfl)) ?_)))))))))
 refine ln rfl .no FxVerR.sn36 (.u rfl) (cp rfl .no (.u rfl) (.u rfl) rfl (.nil (.code (.cond rfl (fun c3=>?_) (fun c3=>?_)))))
 ·have c3k:=c3
  try simp only [qcA,qcC,qcB] at c3
  refine .seq (rq4 rfl rfl (mV rfl rfl (nc rfl .no (.u rfl) (fz rfl .no FxVerS.fo145_1 (.u rfl) (s1 rfl (.u rfl) (.u rfl) rfl Fx.sz39 .here (by first|decide|(simp only [wa_len,ba_len,qlA]; omega)) (rfl) ?_)))))
  refine .nil (.code (.seq (rq1 rfl rfl (aS rfl rfl (.nil (.code (.ret (We.fin Tryd.results55 (.tmp rfl .nil) (mS .here rfl mN) ?_))))))))
  exact ⟨0,xs,10,s,rd_byte_short (by simpa using c1k) (by omega),rfl,rfl,hs⟩
 have c3k:=c3
 try simp only [qcA,qcC,qcB] at c3
 refine .skip (.code (.seq (rq1 rfl rfl (aS rfl rfl (.nil (.code (.seq (.seq (rq2 rfl rfl (mV rfl rfl (mV rfl rfl (.nil (.code (.block ?_))))))))))))))
 refine Wk.lop (α:=Nat×BitVec 64) (fun gh=>[(5,true,uv .u64 gh.2),(36,true,.int .i64 (gh.1:Int))]) (fun _=>[])
  (fun gh Gl=>(gh.1≤1)∧(gh.2=if gh.1=0 then 0#64 else (xs.getD 0 0).setWidth 64)) (fun gh=>1-gh.1) (0,0#64) [(0,true,_),(1,true,_),(35,true,_)] [_]
  (esD rfl (esC rfl (by first|rfl|exact evi (by omega)) (esD rfl (esD rfl (esD rfl eZ)))))
  (mS .here rfl mN) ?_ ?_
 ·refine ⟨?_,?_⟩
  ·(try dsimp only)<;>(first|omega|rfl|assumption|(simp; done))
  (try dsimp only)<;>(rfl)
 intro gh N0 Gl0 hN0 hGl0 hF0
 obtain ⟨k,m⟩:=gh; dsimp only at hF0 hN0 ⊢
 obtain ⟨hk,em⟩:=hF0
 have hs:=hs.mono hGl0
 refine .seq (rq1 rfl rfl (cp rfl .no (.u rfl) (.u rfl) rfl (.nil (.code (.seq (.cond rfl (fun c4=>?_) (fun c4=>?_)))))))
 ·have c4k:=c4
  try simp only [qcA,qcC,qcB] at c4
  refine .skip (.code (.seq (.block (.seq (rq2 rfl rfl (mV rfl rfl (aS rfl rfl (.nil (.code (Wk.rg [0,1,2,3,4,5,6,7,8,9,10,11,12,13] rfl rfl (mV rfl rfl (mV rfl rfl (nc rfl .no (.u rfl) (fz rfl .no FxVerS.fo145_0 (.u rfl) (ld rfl .no FxVerS.ag36 (.u rfl) (fun _=>Rd.own .here (by first|exact wap_f rfl|rfl)) ?_)))))))))))))))
  refine mV rfl rfl (ih rfl .no FxVerR.se36 (.u rfl) (.u rfl) (fun _=>by omega) (fun _=>by omega) (fun _=>hs.nn (k:=k) (by omega)) ?_)
  refine ld rfl .no FxVerR.ag5 (.u rfl) (fun _=>(hs.yat (k) (by omega) (by omega)).rd) ?_
  refine cu (k:=.u8) rfl .no rfl FxVerR.cv5_24 (.u rfl) ?_
  refine mV rfl rfl (arn (((8*k):Nat):Int) rfl .no (.u rfl) (.u rfl) rfl (fun _=>by omega) (fun _=>wrap_i64 (by omega) (by omega)) ?_)
  refine lw (k:=.u64) rfl .no rfl (.u rfl) (.u rfl) (fun _=>by omega) ?_
  refine bw (k:=.u64) rfl .no rfl (.u rfl) (.u rfl) rfl (aS rfl rfl (.nil (.blk (.code (rq2 rfl rfl (arn (((k+1):Nat):Int) rfl .no (.u rfl) (.u rfl) rfl (fun _=>by omega) (fun _=>wrap_i64 (by omega) (by omega)) ?_))))))
  refine mV rfl rfl (.nil (We.lpo (k+1,m ||| (xs.getD k 0).setWidth 64 <<< (8*k)) ?_ ?_ ?_ ?_ ?_))
  ·exact (esD rfl (esC rfl (by first|rfl|exact evi (by omega)) (esD rfl (esD rfl (esD rfl eZ)))))
  ·exact (mS .here rfl mN)
  ·first|omega|(dsimp only; omega)
  ·exact hGl0
  refine ⟨?_,?_⟩
  ·(try dsimp only)<;>(first|omega|rfl|assumption|(simp; done))
  (try dsimp only)<;>((obtain rfl:k=0:=by omega); rw [em,if_pos rfl]; simp)
 have c4k:=c4
 try simp only [qcA,qcC,qcB] at c4
 refine .exit (.xcode (.xlp (.xblk (.code (.seq (rq10 rfl rfl (mV rfl rfl (mV rfl rfl (nc rfl .no (.u rfl) (fz rfl .no FxVerS.fo145_0 (.u rfl) (ld rfl .no FxVerS.ag36 (.u rfl) (fun _=>Rd.own .here (by first|exact wap_f rfl|rfl)) ?_)))))))))))
 refine mV rfl rfl (kD (1) rfl .no FxVerR.se36 hs (.u rfl) (.u rfl) (fun _=>by omega) (fun _=>by omega) ?_)
 intro h59 L59 eL59 lL59 hs59
 have lL59:=lL59 rfl
 refine nc rfl .no (.u rfl) (fz rfl .no FxVerS.fo145_0 (.u rfl) (s1 rfl (.u rfl) (.u rfl) rfl FxVerS.sz36 .here (by first|decide|(simp only [wa_len,ba_len,qlA]; omega)) (rfl) ?_))
 refine .nil (.code (.seq (rq2 rfl rfl (mV rfl rfl (aS rfl rfl (.nil (.code (.ret (We.fin Tryd.results55 (.tmp rfl .nil) (mS .here rfl mN) ?_)))))))))
 obtain rfl:k=1:=by omega
 obtain rfl:e=0:=by simpa using c1k
 exact ⟨_,L59,0,h59,rd_byte_ok rfl (by omega) eL59,rfl,by rw [em]; rfl,hs59⟩
theorem rFault_ok (xs:List Y) (e:Int) (s:Sh) (b:Nat) (G:PM) (hp:RdNP G b 0 [s.val xs.length,.int .i64 e]):Ct Tryd.prog 58 ([.pointer (some ⟨b,0,none⟩)]:List Value).toArray G [] (fun _ μ' u=>μ'=[]∧u=.int .i64 e):=by
 refine Ct.of Tryd.func58 rfl Tryd.ntmps58 rfl fun w0 hs0=>?_
 refine .seq (rq1 rfl rfl (aS rfl rfl (.nil (.code (.seq (.seq (rq2 rfl rfl (mV rfl rfl (pe rfl .no FxVerS.pt120 (.u rfl) (.u rfl) ?_)))))))))
 refine .nil (.code (Wk.condF rfl rfl ?_))
 refine .skip (.code (.seq (rq5 rfl rfl (mV rfl rfl (nc rfl .no (.u rfl) (fz rfl .no FxVerS.fo145_1 (.u rfl) (ld rfl .no FxVerS.ag39 (.u rfl) (fun _=>(hp.z rfl).rd) ?_)))))))
 refine aS rfl rfl (.nil (.code (.ret (We.fin0 Tryd.results58 (.tmp rfl .nil) ?_))))
 exact ⟨rfl,rfl⟩
theorem rLeft_ok (xs:List Y) (e:Int) (s:Sh) (b:Nat) (G:PM) (hp:RdNP G b 0 [s.val xs.length,.int .i64 e]):Ct Tryd.prog 75 ([.pointer (some ⟨b,0,none⟩)]:List Value).toArray G [] (fun _ μ' u=>μ'=[]∧u=.int .i64 (xs.length:Int)):=by
 refine Ct.of Tryd.func75 rfl Tryd.ntmps75 rfl fun w0 hs0=>?_
 refine .seq (rq1 rfl rfl (aS rfl rfl (.nil (.code (.seq (.seq (rq2 rfl rfl (mV rfl rfl (pe rfl .no FxVerS.pt120 (.u rfl) (.u rfl) ?_)))))))))
 refine .nil (.code (Wk.condF rfl rfl ?_))
 refine .skip (.code (.seq (rq6 rfl rfl (mV rfl rfl (nc rfl .no (.u rfl) (fz rfl .no FxVerS.fo145_0 (.u rfl) (ld rfl .no FxVerS.ag36 (.u rfl) (fun _=>(hp.z rfl).rd) ?_)))))))
 refine ln rfl .no FxVerR.sn36 (.u rfl) (aS rfl rfl (.nil (.code (.ret (We.fin0 Tryd.results75 (.tmp rfl .nil) ?_)))))
 exact ⟨rfl,rfl⟩
theorem rEnd_ok (xs:List Y) (e:Int) (s:Sh) (b:Nat) (G:PM) (hp:RdNP G b 0 [s.val xs.length,.int .i64 e]):Ct Tryd.prog 60 ([.pointer (some ⟨b,0,none⟩)]:List Value).toArray G [] (fun _ μ' u=>μ'=[]∧u=.int .i64 (endI xs e)):=by
 refine Ct.of Tryd.func60 rfl Tryd.ntmps60 rfl fun w0 hs0=>?_
 refine .seq (rq1 rfl rfl (aS rfl rfl (.nil (.code (.seq (.seq (rq8 rfl rfl (mV rfl rfl (kv rfl .no Fx.go58 (Evc rfl Evn) (fun _=>rFault_ok xs e s b _ hp) ?_)))))))))
 refine cp rfl .no (.u rfl) (.u rfl) rfl (mV rfl rfl (mv rfl (.t rfl rfl) (.u rfl) (kv rfl (.t rfl rfl) Fx.go75 (Eva.cons (.s rfl) Evn) (fun hc=>rLeft_ok xs e s b _ hp) ?_)))
 refine cp rfl (.t rfl rfl) (.s rfl) (.u rfl) rfl (pkA rfl .no (.u rfl) (.s rfl) (.nil (.code (.cond rfl (fun c1=>?_) (fun c1=>?_)))))
 ·have c1k:=c1
  try simp only [qcA,qcB] at c1
  refine .seq (rq1 rfl rfl (aS rfl rfl (.nil (.code (.ret (We.fin0 Tryd.results60 (.tmp rfl .nil) ?_))))))
  exact ⟨rfl,congrArg (Value.int .i64) (by unfold endI; rw [if_pos (by simpa using c1k)])⟩
 have c1k:=c1
 try simp only [qcA,qcB] at c1
 refine .skip (.code (.seq (rq3 rfl rfl (mV rfl rfl (kv rfl .no Fx.go58 (Evc rfl Evn) (fun _=>rFault_ok xs e s b _ hp) ?_)))))
 refine aS rfl rfl (.nil (.code (.ret (We.fin0 Tryd.results60 (.tmp rfl .nil) ?_))))
 exact ⟨rfl,congrArg (Value.int .i64) (by unfold endI; rw [if_neg (by simpa using c1k)])⟩
namespace Fx
theorem fo26_0:fOff Tryd.prog 26 0=some 0:=by kernel_rfl
theorem fo26_1:fOff Tryd.prog 26 1=some 1:=by kernel_rfl
theorem fo26_2:fOff Tryd.prog 26 2=some 2:=by kernel_rfl
theorem ag24:aggN Tryd.prog 24=some none:=by kernel_rfl
theorem zq113:zrL Tryd.prog 113=some (ba 12 (fun _=>0#8)):=by kernel_rfl
theorem sz113:szT Tryd.prog 113=some 12:=by kernel_rfl
theorem fo26_3:fOff Tryd.prog 26 3=some 3:=by kernel_rfl
theorem fo26_4:fOff Tryd.prog 26 4=some 4:=by kernel_rfl
theorem bp103_0_1_2:bPl Tryd.prog 103 [0,1,2]=some ([.int .u64 0,.int .u64 0,.int .u64 0],[(0,1),(1,1),(2,1)]):=by kernel_rfl
theorem ar103:arE Tryd.prog 103=some (3,24,1):=by kernel_rfl
end Fx
theorem nRight_ok (h:Hd) (G:PM):Ct Tryd.prog 20 ([.agg ([V h.kind,V h.level,uv .u64 h.gen,uv .u64 h.epoch,uv .u64 h.num]:List Value).toArray]:List Value).toArray G [] (fun _ μ' u=>μ'=[]∧u=.bool h.right):=by
 refine Ct.of Tryd.func20 rfl Tryd.ntmps20 rfl fun w0 hs0=>?_
 refine .seq (rq2 rfl rfl ?_)
 refine bx rfl (.u rfl) rfl ?_; intro b1
 refine aS rfl rfl (.nil (.code (.seq (.seq (rq2 rfl rfl (fz rfl .no Fx.fo26_0 (.u rfl) (ld rfl .no Fx.ag5 (.u rfl) (fun _=>Rd.own .here (by first|exact wap_f rfl|rfl)) ?_)))))))
 refine .nil (.code (.block (.seq (rq2 rfl rfl (cp rfl .no (.u rfl) (.u rfl) rfl (aS rfl rfl (.nil (.code (.cond rfl (fun c1=>?_) (fun c1=>?_))))))))))
 ·have c1k:=c1
  try simp only [qcA,qcB] at c1
  refine .seq (rq4 rfl rfl (fz rfl .no Fx.fo26_1 (.u rfl) (ld rfl .no Fx.ag5 (.u rfl) (fun _=>Rd.own .here (by first|exact wap_f rfl|rfl)) ?_)))
  refine cp rfl .no (.u rfl) (.u rfl) rfl (aS rfl rfl (.nil (.code (.ret (We.fin0 Tryd.results20 (.tmp rfl .nil) ?_)))))
  exact ⟨rfl,congrArg Value.bool (Hd.right2 c1).symm⟩
 have c1k:=c1
 try simp only [qcA,qcB] at c1
 refine .seq (.seq (rq2 rfl rfl (cp rfl .no (.u rfl) (.u rfl) rfl (aS rfl rfl (.nil (.code (.cond rfl (fun c2=>?_) (fun c2=>?_))))))))
 ·have c2k:=c2
  try simp only [qcA,qcB] at c2
  refine .skip (.code (Wk.condT rfl c2k ?_))
  refine .seq (rq9 rfl rfl (fz rfl .no Fx.fo26_1 (.u rfl) (ld rfl .no Fx.ag5 (.u rfl) (fun _=>Rd.own .here (by first|exact wap_f rfl|rfl)) ?_)))
  refine cp rfl .no (.u rfl) (.u rfl) rfl (mV rfl rfl (fz rfl (.t rfl rfl) Fx.fo26_2 (.u rfl) (ld rfl (.t rfl rfl) Fx.ag24 (.s rfl) (fun hc=>Rd.own .here (by first|exact wap_f rfl|rfl)) ?_)))
  refine cp rfl (.t rfl rfl) (.s rfl) (.u rfl) rfl (pkA rfl .no (.u rfl) (.s rfl) (aS rfl rfl (.nil (.code (.ret (We.fin0 Tryd.results20 (.tmp rfl .nil) ?_))))))
  exact ⟨rfl,congrArg Value.bool (Hd.right1 c2).symm⟩
 have c2k:=c2
 try simp only [qcA,qcB] at c2
 refine rq2 rfl rfl (cp rfl .no (.u rfl) (.u rfl) rfl (aS rfl rfl (.nil (.code (.cond rfl (fun c3=>?_) (fun c3=>?_))))))
 ·have c3k:=c3
  try simp only [qcA,qcB] at c3
  refine .seq (rq9 rfl rfl (fz rfl .no Fx.fo26_1 (.u rfl) (ld rfl .no Fx.ag5 (.u rfl) (fun _=>Rd.own .here (by first|exact wap_f rfl|rfl)) ?_)))
  refine cp rfl .no (.u rfl) (.u rfl) rfl (mV rfl rfl (fz rfl (.t rfl rfl) Fx.fo26_2 (.u rfl) (ld rfl (.t rfl rfl) Fx.ag24 (.s rfl) (fun hc=>Rd.own .here (by first|exact wap_f rfl|rfl)) ?_)))
  refine cp rfl (.t rfl rfl) (.s rfl) (.u rfl) rfl (pkA rfl .no (.u rfl) (.s rfl) (aS rfl rfl (.nil (.code (.ret (We.fin0 Tryd.results20 (.tmp rfl .nil) ?_))))))
  exact ⟨rfl,congrArg Value.bool (Hd.right3 c3).symm⟩
 have c3k:=c3
 try simp only [qcA,qcB] at c3
 refine .skip (.blk (.code (.seq (rq1 rfl rfl (aS rfl rfl (.nil (.code (.ret (We.fin0 Tryd.results20 (.tmp rfl .nil) ?_)))))))))
 exact ⟨rfl,congrArg Value.bool (Hd.right0 c2 c1 c3).symm⟩
theorem Nonce_ok (n:BitVec 64) (G:PM):Ct Tryd.prog 51 ([uv .u64 n]:List Value).toArray G [] (fun _ μ' u=>μ'=[]∧u=.agg (ba 12 (nonceF n)).toArray):=by
 refine Ct.of Tryd.func51 rfl Tryd.ntmps51 rfl fun w0 hs0=>?_
 refine .seq (rq1 rfl rfl ?_)
 refine al rfl Fx.zq113 ?_; intro b2
 refine .nil (.code (.seq (rq1 rfl rfl ?_)))
 refine al rfl Fx.zq113 ?_; intro b3
 refine .nil (.code (.seq (.seq (rq1 rfl rfl (mV rfl rfl (.nil (.code (.block ?_))))))))
 refine Wk.lop (α:=Nat×(Nat→Y)) (fun gh=>[(5,true,.int .i64 (gh.1:Int))]) (fun gh=>[.blk b3 (cl (ba 12 gh.2) 113)])
  (fun gh Gl=>(gh.1≤8)∧(gh.2=outs (nonceF n) gh.1)) (fun gh=>8-gh.1) (0,fun _=>0#8) [(0,true,_),(2,true,_),(3,true,_)] [_]
  (esC rfl (by first|rfl|exact evi (by omega)) (esD rfl (esD rfl (esD rfl eZ))))
  (mS .here rfl (mS .here rfl mN)) ?_ ?_
 ·refine ⟨?_,?_⟩
  ·(try dsimp only)<;>(first|omega|rfl|assumption|(simp; done))
  (try dsimp only)<;>(first|omega|rfl|assumption|(simp; done))
 intro gh N0 Gl0 hN0 hGl0 hF0
 obtain ⟨k,f⟩:=gh; dsimp only at hF0 hN0 ⊢
 obtain ⟨hk,ef⟩:=hF0
 refine .seq (rq1 rfl rfl (cp rfl .no (.u rfl) (.u rfl) rfl (.nil (.code (.seq (.cond rfl (fun c1=>?_) (fun c1=>?_)))))))
 ·have c1k:=c1
  try simp only [qcA,qcB] at c1
  refine .skip (.code (.seq (.block (.seq (rq2 rfl rfl (mV rfl rfl (aS rfl rfl (.nil (.code (rq8 rfl rfl (mV rfl rfl (mV rfl rfl (mV rfl rfl (arn (((8*k):Nat):Int) rfl .no (.u rfl) (.u rfl) rfl (fun _=>by omega) (fun _=>wrap_i64 (by omega) (by omega)) ?_))))))))))))))
  refine rw' (k:=.u64) rfl .no (.u rfl) (.u rfl) (fun _=>by omega) ?_
  refine cu (k:=.u64) rfl .no rfl Fx.cv24_5 (.u rfl) ?_
  refine iA rfl .no Fx.ar113 (.u rfl) (.u rfl) (fun _=>by omega) (fun _=>by omega) ?_
  refine s1 rfl (.u rfl) (.u rfl) rfl Fx.sz5 .here (by first|decide|(simp only [wa_len,ba_len,qlA]; omega)) (by first|exact wa_set1 (k) (by omega)|exact ba_set1 (k) (by omega)|exact wap_set1 (k) (by omega) (by omega)|rfl) ?_
  refine .nil (.blk (.code (rq2 rfl rfl (arn (((k+1):Nat):Int) rfl .no (.u rfl) (.u rfl) rfl (fun _=>by omega) (fun _=>wrap_i64 (by omega) (by omega)) ?_))))
  refine mV rfl rfl (.nil (We.lpo (k+1,upd f k ((n >>> (8*k)).setWidth 8)) ?_ ?_ ?_ ?_ ?_))
  ·exact (esC rfl (by first|rfl|exact evi (by omega)) (esD rfl (esD rfl (esD rfl eZ))))
  ·exact (mS .here rfl (mS .here rfl mN))
  ·first|omega|(dsimp only; omega)
  ·exact hGl0
  refine ⟨?_,?_⟩
  ·(try dsimp only)<;>(first|omega|rfl|assumption|(simp; done))
  (try dsimp only)<;>(exact outs_step1 ef (by unfold nonceF; rw [if_pos (by omega)]))
 have c1k:=c1
 try simp only [qcA,qcB] at c1
 refine .exit (.xcode (.xlp (.xblk (.code (.seq (rq2 rfl rfl (lA rfl .no Fx.ag113 (.u rfl) (fun _=>RdN.own .here) (fun _=>(by first|exact qE|exact qL|rfl)) ?_)))))))
 refine sw rfl (.u rfl) (.u rfl) rfl Fx.sz113 tk1 (by first|exact qE|exact qL|rfl) (by first|exact ba_one _ _|exact wa_one _ _|exact one_V _|decide|exact one_app (wa_one _ _) (by simp [Value.oneCell'])) ?_
 refine .nil (.code (.ret (We.fin0 Tryd.results51 (.cell rfl (fun w hw=>run_loadVarN Fx.ag113 (RdN.own .here) ((by first|exact qE|exact qL|rfl)) hw) .nil) ?_)))
 obtain rfl:k=8:=by omega
 exact ⟨rfl,by rw [ef,ba_congr (fun i hi=>nonce_outs n hi)]; rfl⟩
theorem nLay_ok (h:Hd) (G:PM):Ct Tryd.prog 15 ([.agg ([V h.kind,V h.level,uv .u64 h.gen,uv .u64 h.epoch,uv .u64 h.num]:List Value).toArray]:List Value).toArray G [] (PR 5 (fun L=>L=headL h)):=by
 refine Ct.of Tryd.func15 rfl Tryd.ntmps15 rfl fun w0 hs0=>?_
 refine .seq (rq2 rfl rfl ?_)
 refine bx rfl (.u rfl) rfl ?_; intro b1
 refine aS rfl rfl (.nil (.code (.seq (rq9 rfl rfl ?_))))
 refine Go.Tan.bN rfl Fx.se36 Fx.zv5 (Evp.cons (.u rfl) (Evp.cons (.u rfl) (Evp.cons (.u rfl) (Evp.cons (.u rfl) Evp.nil)))) rfl (by decide) (by simp [Value.oneCell',Sh.val]) ?_; intro b6
 refine mkS [116#8,97#8,110#8,116#8] rfl rfl Fx.cst36 (.u rfl) .here rfl rfl (by decide) ?_; intro G7 hG7 hs7
 refine fz rfl .no Fx.fo26_0 (.u rfl) (ld rfl .no Fx.ag5 (.u rfl) (fun _=>Rd.own .here (by first|exact wap_f rfl|rfl)) ?_)
 refine fz rfl .no Fx.fo26_1 (.u rfl) (ld rfl .no Fx.ag5 (.u rfl) (fun _=>Rd.own .here (by first|exact wap_f rfl|rfl)) ?_)
 refine Go.Tan.bN rfl Fx.se36 Fx.zv5 (Evp.cons (.u rfl) (Evp.cons (.u rfl) Evp.nil)) rfl (by decide) (one2 rfl rfl) ?_; intro b12
 refine apF (.inr rfl) rfl Fx.se36 Fx.zv5 (.u rfl) (.u rfl) hs7 rfl (Sc.blk (ys:=[h.kind,h.level]) .here rfl rfl) (by (try simp only [List.length_cons,List.length_nil]); omega) (by (try simp only [List.length_cons,List.length_nil]); omega) (by (try simp only [List.length_cons,List.length_nil]); omega) ?_; intro v13 L13 ov13 eL13
 have lL13:L13.length=[116#8,97#8,110#8,116#8].length+2:=by rw [eL13,List.length_append]; first|rfl | simp [yl_len]
 refine aS rfl rfl (.nil (.code (.seq (.seq (rq8 rfl rfl (fz rfl .no Fx.fo26_2 (.u rfl) (ld rfl .no Fx.ag24 (.u rfl) (fun _=>Rd.own tk2 (by first|exact wap_f rfl|rfl)) ?_)))))))
 refine fz rfl .no Fx.fo26_3 (.u rfl) (ld rfl .no Fx.ag24 (.u rfl) (fun _=>Rd.own tk2 (by first|exact wap_f rfl|rfl)) ?_)
 refine fz rfl .no Fx.fo26_4 (.u rfl) (ld rfl .no Fx.ag24 (.u rfl) (fun _=>Rd.own tk2 (by first|exact wap_f rfl|rfl)) ?_)
 refine bC rfl .no Fx.bp103_0_1_2 (.cons (.u rfl) rfl (.cons (.u rfl) rfl (.cons (.u rfl) rfl .nil))) rfl ?_
 refine mV rfl rfl (.nil (.code (.block ?_)))
 refine Wk.lop (α:=Nat×Value×List Y) (fun gh=>[(3,true,gh.2.1),(21,true,.int .i64 (gh.1:Int))]) (fun gh=>[rB gh.2.1 5 gh.2.2])
  (fun gh Gl=>(gh.1≤3)∧(gh.2.2=h.some gh.1)) (fun gh=>3-gh.1) (0,_,_) [(20,true,_)] [_,_]
  (esD rfl (esC rfl (by first|rfl|exact evi (by omega)) (esD rfl eZ)))
  (mS .here rfl (mS .here rfl (mS .here rfl mN))) ?_ ?_
 ·refine ⟨?_,?_⟩
  ·(try dsimp only)<;>(first|omega|rfl|assumption|(simp; done))
  (try dsimp only)<;>(rw [eL13]; rfl)
 intro gh N0 Gl0 hN0 hGl0 hF0
 obtain ⟨k,v,L⟩:=gh; dsimp only at hF0 hN0 ⊢
 obtain ⟨hk,eL⟩:=hF0
 have lL:L.length=6+8*k:=by rw [eL,Hd.some_len]
 refine .seq (rq1 rfl rfl (cp rfl .no (.u rfl) (.u rfl) rfl (.nil (.code (.seq (.cond rfl (fun c1=>?_) (fun c1=>?_)))))))
 ·have c1k:=c1
  try simp only [qcA,qcB] at c1
  refine .skip (.code (.seq (.block (.seq (rq2 rfl rfl (ix rfl .no Fx.ar103 Fx.ag24 (.u rfl) (.u rfl) (fun _=>by omega) (fun _=>by omega) (fun _=>Hd.three_at (by omega)) ?_))))))
  refine aS rfl rfl (.nil (.code ?_))
  refine wk_fb .here (by first|(intro b hb; cases hb; done) | simp [keys,Res.keys]) ?_; intro GfR13 hR13 hleR13 evR13 hsR13; subst evR13
  refine rq4 rfl rfl (mV rfl rfl (mV rfl rfl (kc rfl Fx.go32 (Evc rfl (Evc rfl (Evc rfl Evn))) (Ct.rowc (Fix_ok L _ _ 8 _ hsR13 (by omega) (by decide))) ?_)))
  rintro v26 G26 μ26 hG26 ⟨L26,ov26,eL26,rfl⟩
  refine aS rfl rfl (.nil (.blk (.code (rq2 rfl rfl (arn (((k+1):Nat):Int) rfl .no (.u rfl) (.u rfl) rfl (fun _=>by omega) (fun _=>wrap_i64 (by omega) (by omega)) ?_)))))
  refine mV rfl rfl (.nil (We.lpo (k+1,v26,L26) ?_ ?_ ?_ ?_ ?_))
  ·exact (esD rfl (esC rfl (by first|rfl|exact evi (by omega)) (esD rfl eZ)))
  ·exact (mS .here rfl (mS .here rfl (mS .here rfl mN)))
  ·first|omega|(dsimp only; omega)
  ·exact ((hGl0).trans hleR13).trans hG26
  refine ⟨?_,?_⟩
  ·(try dsimp only)<;>(first|omega|rfl|assumption|(simp; done))
  (try dsimp only)<;>(rw [eL26,eL,Hd.some_succ]; rfl)
 have c1k:=c1
 try simp only [qcA,qcB] at c1
 refine .exit (.xcode (.xlp (.xblk (.code (.seq (rq2 rfl rfl (mV rfl rfl (aS rfl rfl (.nil (.code (.ret (We.fin Tryd.results15 (.tmp rfl .nil) (mS .here rfl mN) ?_))))))))))))
 obtain rfl:k=3:=by omega
 exact ⟨L,by rw [eL,Hd.some_all],rfl⟩
theorem mac1_ok {G:PM} {b T:Nat} {hk h1:Sh} {key L1:List Y} (hle:PM.le G (G.add b (cl [h1.val L1.length] T))) (hsk:SlR G 1 encY hk key) (hs:SlR G 1 encY h1 L1) (hK:RdNP G 0 0 (wa 64 kW)) (hlk:key.length≤140737488351232) (hl:L1.length≤1000000000000000) :
  Ct Tryd.prog 80 ([hk.val key.length,.slice (some ⟨b,0,none⟩) 1 1]:List Value).toArray (G.add b (cl [h1.val L1.length] T)) [] (fun _ μ' u=>μ'=[]∧u=.agg (ba 32 (macL key L1)).toArray):=by
 have h:=macSum_ok key hk [(h1,L1)] ⟨some ⟨b,0,none⟩,1⟩ _ (hsk.mono hle) (SlP.one hle hs) (hK.mono hle) hlk (by simpa [catL] using hl) (by simp)
 rw [show catL [(h1,L1)]=L1 by simp [catL]] at h
 exact h
theorem Extract_ok (salt:List Y) (hk:Sh) (xs:List Y) (h:Sh) (G:PM) (hsk:SlR G 1 encY hk salt) (hs:SlR G 1 encY h xs) (hK:RdNP G 0 0 (wa 64 kW)) (hlk:salt.length≤140737488351232) (hl:xs.length≤1000000000000000):Ct Tryd.prog 67 ([hk.val salt.length,h.val xs.length]:List Value).toArray G [] (fun _ μ' u=>μ'=[]∧u=.agg (ba 32 (macL salt xs)).toArray):=by
 refine Ct.of Tryd.func67 rfl Tryd.ntmps67 rfl fun w0 hs0=>?_
 refine .seq (rq1 rfl rfl ?_)
 refine al rfl Fx.zq23 ?_; intro b4
 refine .nil (.code (.seq (rq5 rfl rfl (mV rfl rfl (mV rfl rfl ?_)))))
 refine Go.Tan.b1 rfl Fx.se56 Fx.zv36 (.u rfl) rfl rfl (by decide) ?_; intro b7
 refine kp rfl .no Fx.go80 (Evc rfl (Evc rfl Evn)) (Gp.add .here Gp.nil) (fun _ hle hq=>mac1_ok hle hsk hs hK hlk hl) ?_
 refine sw rfl (.u rfl) (.u rfl) rfl Fx.sz23 tk1 (by first|exact qE|exact qL|rfl) (by first|exact ba_one _ _|exact wa_one _ _|exact one_V _|decide|exact one_app (wa_one _ _) (by simp [Value.oneCell'])) ?_
 refine .nil (.code (.ret (We.fin0 Tryd.results67 (.cell rfl (fun w hw=>run_loadVarN Fx.ag23 (RdN.own .here) ((by first|exact qE|exact qL|rfl)) hw) .nil) ?_)))
 exact ⟨rfl,rfl⟩
theorem SlP.three {G:PM} {b T:Nat} {h1 h2 h3:Sh} {L1 L2 L3:List Y} (hle:PM.le G (G.add b (cl [h1.val L1.length,h2.val L2.length,h3.val L3.length] T))) (hs:SlR G 1 encY h1 L1) (hs2:SlR G 1 encY h2 L2) (hs3:SlR G 1 encY h3 L3) :
  SlP (G.add b (cl [h1.val L1.length,h2.val L2.length,h3.val L3.length] T)) ⟨some ⟨b,0,none⟩,3⟩ [(h1,L1),(h2,L2),(h3,L3)] :=
 ⟨SlR.ofBlk (T:=T) (PM.add_same _ _ _) (fun _ _=>rfl) (by simp),fun p hp=>by
  simp only [List.mem_cons,List.not_mem_nil,or_false] at hp
  rcases hp with rfl|rfl|rfl
  ·exact hs.mono hle
  ·exact hs2.mono hle
  ·exact hs3.mono hle⟩
theorem mac3_row {G:PM} {b c T T' E lo:Nat} {hk hu s:Sh} {key use L:List Y} {y:Y} (hsk:SlR G 1 encY hk key) (hsu:SlR G 1 encY hu use) (hK:RdNP G 0 0 (wa 64 kW)) (hlo:lo≤L.length) (hlk:key.length≤140737488351232) (hl:L.length+use.length≤100000000000000) :
  Ct Tryd.prog 80 ([hk.val key.length,.slice (some ⟨c,0,none⟩) 3 3]:List Value).toArray G [rB (s.val L.length) E L,.blk b (cl [V y] T),.blk c (cl [(s.cut lo 1).val (L.length-lo),hu.val use.length,.slice (some ⟨b,0,none⟩) 1 1] T')]
   (fun _ μ' u=>∃ ν,μ'=rB (s.val L.length) E L :: ν∧∃ ν2,ν=.blk b (cl [V y] T) :: ν2∧∃ ν3,ν2=.blk c (cl [(s.cut lo 1).val (L.length-lo),hu.val use.length,.slice (some ⟨b,0,none⟩) 1 1] T') :: ν3∧ν3=[]∧u=.agg (ba 32 (macL key (L.drop lo++use++[y]))).toArray) :=
 Ct.lendB (fun s' G2 hle hv hs=>Ct.lendK (fun h1=>Ct.lendK (fun h2=>by
  obtain rfl:=Sh.val_inj hv
  have e1:SlR G2 1 encY (s.cut lo 1) (L.drop lo):=by
   have:=hs.cutn (lo:=lo) (m:=L.length-lo) (by omega)
   rwa [List.take_of_length_le (by simp)] at this
  have e2:SlR (G2.add b (cl [V y] T)) 1 encY ⟨some ⟨b,0,none⟩,1⟩ [y]:=SlR.ofBlk (T:=T) (PM.add_same _ _ _) (fun _ _=>rfl) (by simp)
  have e3:L.length-lo=(L.drop lo).length:=by simp
  rw [e3] at h2 ⊢
  have hP:=SlP.three (h1:=s.cut lo 1) (h2:=hu) (h3:=⟨some ⟨b,0,none⟩,1⟩) h2 (e1.mono h1) ((hsu.mono hle).mono h1) e2
  have h:=macSum_ok key hk _ ⟨some ⟨c,0,none⟩,3⟩ _ (((hsk.mono hle).mono h1).mono h2) hP (((hK.mono hle).mono h1).mono h2) hlk (by simp [catL]; omega) (by simp)
  rw [show catL [((s.cut lo 1),L.drop lo),(hu,use),((⟨some ⟨b,0,none⟩,1⟩ : Sh),[y])]=L.drop lo++use++[y] by simp [catL]] at h
  exact h)))
theorem Expand_ok (key:List Y) (hk:Sh) (use:List Y) (hu:Sh) (G:PM) (hsk:SlR G 1 encY hk key) (hsu:SlR G 1 encY hu use) (hK:RdNP G 0 0 (wa 64 kW)) (hlk:key.length≤1000) (hl:use.length≤1000000):Ct Tryd.prog 68 ([hk.val key.length,hu.val use.length,.int .i64 ((64:Nat):Int)]:List Value).toArray G [] (fun G' μ' u=>∃ s L,L=expL key use 2∧μ'=[]∧u=.tuple #[s.val L.length,.int .i64 0]∧SlR G' 1 encY s L):=by
 refine Ct.of Tryd.func68 rfl Tryd.ntmps68 rfl fun w0 hs0=>?_
 refine .seq (rq2 rfl rfl (aS rfl rfl (aS rfl rfl (.nil (.code (.seq (.seq (rq6 rfl rfl (mV rfl rfl (cp rfl .no (.u rfl) (.u rfl) rfl (mV rfl rfl (mv rfl (.f rfl rfl) (.u rfl) (cp rfl (.f rfl rfl) (.s rfl) (.u rfl) rfl (pkO rfl .no (.u rfl) (.s rfl) (.nil (.code (.cond rfl (fun c1=>?_) (fun c1=>?_))))))))))))))))))
 ·have c1k:=c1
  exact absurd c1 (by decide)
 have c1k:=c1
 try simp only [qcA,qcB] at c1
 refine .skip (.code (.seq (rq4 rfl rfl (mV rfl rfl (arn (((64+32):Nat):Int) rfl .no (.u rfl) (.u rfl) rfl (fun _=>by omega) (fun _=>wrap_i64 (by omega) (by omega)) ?_)))))
 refine mkY (0) ((64+32)) rfl Fx.se36 Fx.zv5 (.u rfl) (.u rfl) (by first|rfl|omega) (by first|rfl|omega) (by omega) (by omega) ?_; intro b19
 have lR19:(List.replicate (0) (0#8:Y)).length=0:=List.length_replicate
 refine aS rfl rfl (.nil (.code (.seq (.seq (rq1 rfl rfl (aS rfl rfl (.nil (.code (.block ?_)))))))))
 refine Wk.lop (α:=Nat×Value×List Y) (fun gh=>[(8,true,gh.2.1),(9,true,V (BitVec.ofNat 8 (gh.1+1)))]) (fun gh=>[rB gh.2.1 5 gh.2.2])
  (fun gh Gl=>(gh.1≤2)∧(gh.2.2=expL key use gh.1)) (fun gh=>2-gh.1) (0,_,_) [(0,true,_),(1,true,_),(2,true,_)] []
  (esD rfl (esD rfl (esD rfl (esD rfl (esD rfl eZ)))))
  (mS .here rfl mN) ?_ ?_
 ·refine ⟨?_,?_⟩
  ·(try dsimp only)<;>(first|omega|rfl|assumption|(simp; done))
  (try dsimp only)<;>(rfl)
 intro gh N0 Gl0 hN0 hGl0 hF0
 obtain ⟨j,v,L⟩:=gh; dsimp only at hF0 hN0 ⊢
 obtain ⟨hj,eL⟩:=hF0
 have hsk:=hsk.mono hGl0
 have hsu:=hsu.mono hGl0
 have hK:=hK.mono hGl0
 have lL:L.length=32*j:=by rw [eL,exp_len]
 refine .seq (.seq (rq4 rfl rfl (mV rfl rfl (lr rfl .no Fx.sn36 (.u rfl) .here ?_))))
 refine mV rfl rfl (cp rfl .no (.u rfl) (.u rfl) rfl (.nil (.code (.cond rfl (fun c2=>?_) (fun c2=>?_)))))
 ·have c2k:=c2
  try simp only [qcA,qcB] at c2
  refine .skip (.code (.seq (.block (.seq ?_))))
  refine wk_rs .here ?_; intro sR19 bbR19 evR19 lcR19 oaR19; subst evR19
  refine Wk.rg [0,1,2,3,4,5,6,7,8,9,10,11,12,13] rfl rfl (mV rfl rfl (mV rfl rfl (mV rfl rfl (lr rfl .no Fx.sn36 (.u rfl) .here ?_))))
  refine ar rfl .no (.u rfl) (.u rfl) rfl (fun _=>wrap_i64 (by omega) (by omega)) ?_
  refine mAq ((32*j-32:Nat):Int) rfl (.u rfl) (.u rfl) (by split<;>omega) ?_
  refine sd rfl .no Fx.se36 (.u rfl) (.u rfl) (fun _=>by omega) (fun _=>by omega) ?_
  refine mV rfl rfl (mV rfl rfl ?_)
  refine Go.Tan.b1 rfl Fx.se36 Fx.zv5 (.u rfl) rfl rfl (by decide) ?_; intro b35
  refine Go.Tan.bN rfl Fx.se56 Fx.zv36 (Evp.cons (.u rfl) (Evp.cons (.u rfl) (Evp.cons (.u rfl) Evp.nil))) rfl (by decide) (by simp [Value.oneCell',Sh.val]) ?_; intro b36
  refine ka rfl (.inr rfl) Fx.go80 (Evc rfl (Evc rfl Evn)) (mtk3 tk2 tk1 .here) (mac3_row (lo:=32*j-32) hsk hsu hK (by omega) (by omega) (by omega)) ?_
  rintro _ G37 μ37 hG37 ⟨_,rfl,_,rfl,_,rfl,rfl,rfl⟩
  refine al rfl Fx.zq23 ?_; intro b10
  refine sw rfl (.u rfl) (.u rfl) rfl Fx.sz23 .here (by first|exact qE|exact qL|rfl) (by first|exact ba_one _ _|exact wa_one _ _|exact one_V _|decide|exact one_app (wa_one _ _) (by simp [Value.oneCell'])) ?_
  refine .nil (.code (rq4 rfl rfl (mV rfl rfl (sa0 rfl .no Fx.ar23 (.u rfl) (apY rfl Fx.se36 Fx.zv5 (.u rfl) (.u rfl) tk1 (Sc.arr .here) (by (try simp only [qlA,yl_len]); omega) ?_)))))
  intro v40 L40 ov40 eL40
  have lL40:L40.length=L.length+32:=by rw [eL40,List.length_append]; first|rfl | simp [yl_len]
  refine aS rfl rfl (.nil (.blk (.code (rq3 rfl rfl (mV rfl rfl (bw (k:=.u8) (b:=1#8) rfl .no rfl (.u rfl) (.u rfl) rfl (aS rfl rfl (.nil (We.lpo (j+1,v40,L40) ?_ ?_ ?_ ?_ ?_)))))))))
  ·exact (esD rfl (esC rfl (by show V (BitVec.ofNat 8 (j+1)+1#8)=_; rw [← BitVec.ofNat_add]) (esD rfl (esD rfl (esD rfl eZ)))))
  ·exact (mS .here rfl mN)
  ·first|omega|(dsimp only; omega)
  ·exact (hGl0).trans hG37
  refine ⟨?_,?_⟩
  ·(try dsimp only)<;>(first|omega|rfl|assumption|(simp; done))
  (try dsimp only)<;>(rw [eL40,eL,exp_last]; rfl)
 have c2k:=c2
 try simp only [qcA,qcB] at c2
 refine .exit (.xcode (.xlp (.xblk (.code (.seq ?_)))))
 refine wk_fb .here (by first|(intro b hb; cases hb; done) | simp [keys,Res.keys]) ?_; intro GfR19 hR19 hleR19 evR19 hsR19; subst evR19
 refine rq6 rfl rfl (mV rfl rfl (mV rfl rfl (mV rfl rfl ?_)))
 refine kM 64 rfl Fx.se36 hsR19 (.u rfl) (.u rfl) (.u rfl) (by omega) ?_; intro h44 L44 eL44 lL44 hs44
 refine aS rfl rfl (aS rfl rfl (.nil (.code (.ret (We.fin0 Tryd.results68 (.tmp rfl (.tmp rfl .nil)) ?_)))))
 obtain rfl:j=2:=by omega
 exact ⟨h44,L44,by rw [eL44,eL]; exact List.take_of_length_le (by rw [exp_len]; omega),rfl,rfl,hs44⟩
namespace Fx
theorem zq70:zrL Tryd.prog 70=some (ba 32 (fun _=>0#8)++ba 32 (fun _=>0#8)):=by kernel_rfl
theorem go67:goFn Tryd.prog 67=true:=by kernel_rfl
theorem go68:goFn Tryd.prog 68=true:=by kernel_rfl
theorem bp70_0_1:bPl Tryd.prog 70 [0,1]=some (ba 32 (fun _=>0#8)++ba 32 (fun _=>0#8),[(0,32),(32,32)]):=by kernel_rfl
theorem sz70:szT Tryd.prog 70=some 64:=by kernel_rfl
theorem ag26:aggN Tryd.prog 26=some (some 5):=by kernel_rfl
theorem go15:goFn Tryd.prog 15=true:=by kernel_rfl
theorem go47:goFn Tryd.prog 47=true:=by kernel_rfl
end Fx
theorem Derive_ok (root:Nat→Y) (use:List Y) (hu:Sh) (G:PM) (hsu:SlR G 1 encY hu use) (hK:RdNP G 0 0 (wa 64 kW)) (hl:use.length≤1000000):Ct Tryd.prog 47 ([.agg (ba 32 root).toArray,hu.val use.length]:List Value).toArray G [] (fun _ μ' u=>μ'=[]∧u=.agg (ba 32 (keyEnc root use)++ba 32 (keyMac root use)).toArray):=by
 refine Ct.of Tryd.func47 rfl Tryd.ntmps47 rfl fun w0 hs0=>?_
 refine .seq (rq2 rfl rfl ?_)
 refine bx rfl (.u rfl) rfl ?_; intro b2
 refine al rfl Fx.zq70 ?_; intro b4
 refine .nil (.code (.seq ?_))
 refine wk_fz tk1 (by intro b hb; cases hb) ?_; intro Gfb2 hleb2 hbb2
 have hsu:=hsu.mono hleb2
 have hK:=hK.mono hleb2
 refine rq6 rfl rfl ?_
 refine Go.Tan.bN rfl Fx.se36 Fx.zv5 (Evp.cons (.u rfl) (Evp.cons (.u rfl) (Evp.cons (.u rfl) (Evp.cons (.u rfl) (Evp.cons (.u rfl) (Evp.cons (.u rfl) (Evp.cons (.u rfl) (Evp.cons (.u rfl) Evp.nil)))))))) rfl (by decide) (by simp [Value.oneCell',Sh.val]) ?_; intro b8
 refine mkS saltL rfl rfl Fx.cst36 (.u rfl) .here rfl rfl (by decide) ?_; intro G9 hG9 hs9
 have hsu:=hsu.mono hG9
 have hK:=hK.mono hG9
 have hbb2:=hbb2.mono hG9
 refine kA rfl .no Fx.ar23 (.u rfl) hbb2 (by first|exact ba_all|exact app_l|exact app_r) ?_; intro h10 L10 eL10 lL10 hs10
 refine kv rfl .no Fx.go67 (Evc rfl (Evc rfl Evn)) (fun _=>Extract_ok saltL _ L10 h10 _ hs9 hs10 hK (by decide) (by omega)) ?_
 refine al rfl Fx.zq23 ?_; intro b5
 refine sw rfl (.u rfl) (.u rfl) rfl Fx.sz23 .here (by first|exact qE|exact qL|rfl) (by first|exact ba_one _ _|exact wa_one _ _|exact one_V _|decide|exact one_app (wa_one _ _) (by simp [Value.oneCell'])) ?_
 refine .nil (.code (.seq ?_))
 refine wk_fz .here (by intro b hb; cases hb) ?_; intro Gfb5 hleb5 hbb5
 have hsu:=hsu.mono hleb5
 have hK:=hK.mono hleb5
 refine rq8 rfl rfl ?_
 refine kA rfl .no Fx.ar23 (.u rfl) hbb5 (by first|exact ba_all|exact app_l|exact app_r) ?_; intro h13 L13 eL13 lL13 hs13
 refine mV rfl rfl (kc rfl Fx.go68 (Evc rfl (Evc rfl (Evc rfl Evn))) (Expand_ok L13 h13 use hu _ hs13 hsu hK (by omega) hl) ?_)
 rintro _ G15 μ15 hG15 ⟨h15,L15,eL15,rfl,rfl,hs15⟩
 refine mV rfl rfl (ex rfl .no (.u rfl) rfl (ex rfl .no (.u rfl) rfl (aS rfl rfl ?_)))
 have lL15:L15.length=64:=by rw [eL15,exp_len]
 refine aS rfl rfl (.nil (.code (.seq (Wk.draw (mc:=⟨false,false⟩) [0,1,2,3,4,5,6,7,8,9] Fx.mix (by kernel_rfl) ?_))))
 refine mV rfl rfl (kE (32) rfl .no Fx.se36 hs15 (.u rfl) (.u rfl) (fun _=>by omega) (fun _=>by omega) ?_)
 intro h19 L19 eL19 lL19 hs19
 have lL19:=lL19 rfl
 refine spS rfl .no Fx.ar22 hs19 (.u rfl) (fun _=>by omega) (by decide) ?_
 refine lA rfl .no Fx.ag22 (.u rfl) (fun _=>(hs19.arr (m:=32) (by omega)).rd) (fun _=>ba_len _ _) ?_
 refine mV rfl rfl (kD (32) rfl .no Fx.se36 hs15 (.u rfl) (.u rfl) (fun _=>by omega) (fun _=>by omega) ?_)
 intro h23 L23 eL23 lL23 hs23
 have lL23:=lL23 rfl
 refine spS rfl .no Fx.ar22 hs23 (.u rfl) (fun _=>by omega) (by decide) ?_
 refine lA rfl .no Fx.ag22 (.u rfl) (fun _=>(hs23.arr (m:=32) (by omega)).rd) (fun _=>ba_len _ _) ?_
 refine bCe (ba 32 (fun i=>L19.getD i 0)++ba 32 (fun i=>L23.getD i 0)) rfl .no Fx.bp70_0_1 (.cons (.u rfl) rfl (.cons (.u rfl) rfl .nil)) rfl (key_put (by decide) _ _) ?_
 refine sw rfl (.u rfl) (.u rfl) rfl Fx.sz70 .here (by first|exact qE|exact qL|rfl) (key_one _ _) ?_
 refine .nil (.code (.ret (We.fin0 Tryd.results47 (.cell rfl (fun w hw=>run_loadVarN Fx.ag70 (RdN.own .here) ((by first|exact qE|exact qL|rfl)) hw) .nil) ?_)))
 have e:L15=deriveL root use:=by rw [eL15,eL13,eL10]; rfl
 exact ⟨rfl,congrArg (fun z=>Value.agg (List.toArray z)) (key_cells e eL19 eL23)⟩
theorem KeyOf_ok (root:Nat→Y) (h:Hd) (G:PM) (hK:RdNP G 0 0 (wa 64 kW)):Ct Tryd.prog 23 ([.agg (ba 32 root).toArray,.agg ([V h.kind,V h.level,uv .u64 h.gen,uv .u64 h.epoch,uv .u64 h.num]:List Value).toArray]:List Value).toArray G [] (fun _ μ' u=>μ'=[]∧u=.agg (ba 32 (keyEnc root (headL h))++ba 32 (keyMac root (headL h))).toArray):=by
 refine Ct.of Tryd.func23 rfl Tryd.ntmps23 rfl fun w0 hs0=>?_
 refine .seq (rq3 rfl rfl ?_)
 refine bx rfl (.u rfl) rfl ?_; intro b2
 refine bx rfl (.u rfl) rfl ?_; intro b3
 refine al rfl Fx.zq70 ?_; intro b4
 refine .nil (.code (.seq (Wk.draw (mc:=⟨false,false⟩) [0,1,2,3,4] Fx.mix (by kernel_rfl) ?_)))
 refine lA rfl .no Fx.ag23 (.u rfl) (fun _=>RdN.own tk2) (fun _=>(by first|exact qE|exact qL|rfl)) ?_
 refine lA rfl .no Fx.ag26 (.u rfl) (fun _=>RdN.own tk1) (fun _=>(by first|exact qE|exact qL|rfl)) ?_
 refine kc rfl Fx.go15 (Evc rfl Evn) (Ct.frzB (nLay_ok h _)) ?_
 rintro _ G7 μ7 hG7 ⟨h7,L7,eL7,rfl,rfl,hs7⟩
 have hK:=hK.mono hG7
 refine kv rfl .no Fx.go47 (Evc rfl (Evc rfl Evn)) (fun _=>Derive_ok root L7 h7 _ hs7 hK (by rw [eL7,head_len]; decide)) ?_
 refine sw rfl (.u rfl) (.u rfl) rfl Fx.sz70 .here (by first|exact qE|exact qL|rfl) (key_one _ _) ?_
 refine .nil (.code (.ret (We.fin0 Tryd.results23 (.cell rfl (fun w hw=>run_loadVarN Fx.ag70 (RdN.own .here) ((by first|exact qE|exact qL|rfl)) hw) .nil) ?_)))
 subst eL7
 exact ⟨rfl,rfl⟩
namespace Fx
theorem bp145_0:bPl Tryd.prog 145 [0]=some ([.slice none 0 0,.int .i64 0],[(0,1)]):=by kernel_rfl
theorem pt120:ptT Tryd.prog 120=true:=by kernel_rfl
theorem fo145_1:fOff Tryd.prog 145 1=some 1:=by kernel_rfl
theorem ag39:aggN Tryd.prog 39=some none:=by kernel_rfl
theorem fo145_0:fOff Tryd.prog 145 0=some 0:=by kernel_rfl
theorem cv5_24:cvK Tryd.prog 5 24=some .u64:=by kernel_rfl
end Fx
theorem wcNew_ok (xs:List Y) (h:Sh) (G:PM) (hs:SlR G 1 encY h xs) (hl:xs.length≤100000000000000):Ct Tryd.prog 54 ([h.val xs.length]:List Value).toArray G [] (fun G' μ' u=>∃ b s,μ'=[.blk b (cl [Sh.val s xs.length,.int .i64 0] 145)]∧u=.pointer (some ⟨b,0,none⟩)∧SlR G' 1 encY s xs):=by
 refine Ct.of Tryd.func54 rfl Tryd.ntmps54 rfl fun w0 hs0=>?_
 refine .seq (rq1 rfl rfl (aS rfl rfl (.nil (.code (.seq (rq6 rfl rfl ?_))))))
 refine b0B rfl Fx.se36 ?_; intro b3
 refine mV rfl rfl (apY0 rfl Fx.se36 Fx.zv5 (.u rfl) (.u rfl) .here hs.sc (by (try simp only [qlA,yl_len]); omega) ?_)
 intro v5 L5 _ ov5 eL5
 have lL5:L5.length=xs.length:=by rw [eL5]
 refine bCe ([v5,.int .i64 0]) rfl .no Fx.bp145_0 (.cons (.u rfl) (cells_one ov5) .nil) rfl (rfl) ?_
 refine bx rfl (.u rfl) rfl ?_; intro b7
 refine aS rfl rfl (.nil (.code (.ret ?_)))
 refine we_fb tk1 (by first|(intro b hb; cases hb; done) | simp [keys,Res.keys]) ?_; intro GfR5 hR5 hleR5 evR5 hsR5; subst evR5
 refine We.fin Tryd.results54 (.tmp rfl .nil) (mS .here rfl mN) ?_
 subst eL5
 exact ⟨b7,hR5,rfl,rfl,hsR5⟩
theorem rdFix_ok (xs:List Y) (s:Sh) (b:Nat) (G:PM) (hs:SlR G 1 encY s xs) (h8:8≤xs.length) (hl:xs.length≤100000000000000):Ct Tryd.prog 55 ([.pointer (some ⟨b,0,none⟩),.int .i64 ((8:Nat):Int)]:List Value).toArray G [.blk b (cl [s.val xs.length,.int .i64 0] 145)] (fun G' μ' u=>∃ s',μ'=[.blk b (cl [Sh.val s' (xs.drop 8).length,.int .i64 0] 145)]∧u=uv .u64 (unfK xs 8)∧SlR G' 1 encY s' (xs.drop 8)):=by
 refine Ct.of Tryd.func55 rfl Tryd.ntmps55 rfl fun w0 hs0=>?_
 refine .seq (rq1 rfl rfl (aS rfl rfl (.nil (.code (.seq (.seq (rq9 rfl rfl (mV rfl rfl (pe rfl .no Fx.pt120 (.u rfl) (.u rfl) ?_)))))))))
 refine mV rfl rfl (mv rfl (Gd.f (b:=false) rfl rfl) (.u rfl) (nc rfl (Gd.f (b:=false) rfl rfl) (.u rfl) (fz rfl (Gd.f (b:=false) rfl rfl) Fx.fo145_1 (.u rfl) (ld rfl (Gd.f (b:=false) rfl rfl) Fx.ag39 (.u rfl) (fun _=>Rd.own .here (by first|exact wap_f rfl|rfl)) ?_))))
 refine cp rfl (Gd.f (b:=false) rfl rfl) (.u rfl) (.u rfl) rfl (pkO rfl .no (.u rfl) (.u rfl) (.nil (.code (.cond rfl (fun c1=>?_) (fun c1=>?_)))))
 ·have c1k:=c1
  exact absurd c1 (by decide)
 have c1k:=c1
 try simp only [qcA,qcB] at c1
 refine .skip (.code (.seq (.seq (rq6 rfl rfl (mV rfl rfl (cp rfl .no (.u rfl) (.u rfl) rfl (mV rfl rfl (mv rfl (.f rfl rfl) (.u rfl) (cp rfl (.f rfl rfl) (.s rfl) (.u rfl) rfl (pkO rfl .no (.u rfl) (.s rfl) (.nil (.code (.cond rfl (fun c2=>?_) (fun c2=>?_))))))))))))))
 ·have c2k:=c2
  exact absurd c2 (by decide)
 have c2k:=c2
 try simp only [qcA,qcB] at c2
 refine .skip (.code (.seq (.seq (rq7 rfl rfl (mV rfl rfl (mV rfl rfl (nc rfl .no (.u rfl) (fz rfl .no Fx.fo145_0 (.u rfl) (ld rfl .no Fx.ag36 (.u rfl) (fun _=>Rd.own .here (by first|exact wap_f rfl|rfl)) ?_)))))))))
 refine ln rfl .no Fx.sn36 (.u rfl) (cp rfl .no (.u rfl) (.u rfl) rfl (.nil (.code (.cond rfl (fun c3=>?_) (fun c3=>?_)))))
 ·have c3k:=c3
  try simp only [qcA,qcB] at c3
  exfalso; omega
 have c3k:=c3
 try simp only [qcA,qcB] at c3
 refine .skip (.code (.seq (rq1 rfl rfl (aS rfl rfl (.nil (.code (.seq (.seq (rq2 rfl rfl (mV rfl rfl (mV rfl rfl (.nil (.code (.block ?_))))))))))))))
 refine Wk.lop (α:=Nat×BitVec 64) (fun gh=>[(5,true,uv .u64 gh.2),(36,true,.int .i64 (gh.1:Int))]) (fun _=>[])
  (fun gh Gl=>(gh.1≤8)∧(gh.2=unfK xs gh.1)) (fun gh=>8-gh.1) (0,0#64) [(0,true,_),(1,true,_),(35,true,_)] [_]
  (esD rfl (esC rfl (by first|rfl|exact evi (by omega)) (esD rfl (esD rfl (esD rfl eZ)))))
  (mS .here rfl mN) ?_ ?_
 ·refine ⟨?_,?_⟩
  ·(try dsimp only)<;>(first|omega|rfl|assumption|(simp; done))
  (try dsimp only)<;>(rfl)
 intro gh N0 Gl0 hN0 hGl0 hF0
 obtain ⟨k,m⟩:=gh; dsimp only at hF0 hN0 ⊢
 obtain ⟨hk,em⟩:=hF0
 have hs:=hs.mono hGl0
 refine .seq (rq1 rfl rfl (cp rfl .no (.u rfl) (.u rfl) rfl (.nil (.code (.seq (.cond rfl (fun c4=>?_) (fun c4=>?_)))))))
 ·have c4k:=c4
  try simp only [qcA,qcB] at c4
  refine .skip (.code (.seq (.block (.seq (rq2 rfl rfl (mV rfl rfl (aS rfl rfl (.nil (.code (Wk.rg [0,1,2,3,4,5,6,7,8,9,10,11,12,13] rfl rfl (mV rfl rfl (mV rfl rfl (nc rfl .no (.u rfl) (fz rfl .no Fx.fo145_0 (.u rfl) (ld rfl .no Fx.ag36 (.u rfl) (fun _=>Rd.own .here (by first|exact wap_f rfl|rfl)) ?_)))))))))))))))
  refine mV rfl rfl (ih rfl .no Fx.se36 (.u rfl) (.u rfl) (fun _=>by omega) (fun _=>by omega) (fun _=>hs.nn (k:=k) (by omega)) ?_)
  refine ld rfl .no Fx.ag5 (.u rfl) (fun _=>(hs.yat (k) (by omega) (by omega)).rd) ?_
  refine cu (k:=.u8) rfl .no rfl Fx.cv5_24 (.u rfl) ?_
  refine mV rfl rfl (arn (((8*k):Nat):Int) rfl .no (.u rfl) (.u rfl) rfl (fun _=>by omega) (fun _=>wrap_i64 (by omega) (by omega)) ?_)
  refine lw (k:=.u64) rfl .no rfl (.u rfl) (.u rfl) (fun _=>by omega) ?_
  refine bw (k:=.u64) rfl .no rfl (.u rfl) (.u rfl) rfl (aS rfl rfl (.nil (.blk (.code (rq2 rfl rfl (arn (((k+1):Nat):Int) rfl .no (.u rfl) (.u rfl) rfl (fun _=>by omega) (fun _=>wrap_i64 (by omega) (by omega)) ?_))))))
  refine mV rfl rfl (.nil (We.lpo (k+1,m ||| (xs.getD k 0).setWidth 64 <<< (8*k)) ?_ ?_ ?_ ?_ ?_))
  ·exact (esD rfl (esC rfl (by first|rfl|exact evi (by omega)) (esD rfl (esD rfl (esD rfl eZ)))))
  ·exact (mS .here rfl mN)
  ·first|omega|(dsimp only; omega)
  ·exact hGl0
  refine ⟨?_,?_⟩
  ·(try dsimp only)<;>(first|omega|rfl|assumption|(simp; done))
  (try dsimp only)<;>(rw [em]; rfl)
 have c4k:=c4
 try simp only [qcA,qcB] at c4
 refine .exit (.xcode (.xlp (.xblk (.code (.seq (rq10 rfl rfl (mV rfl rfl (mV rfl rfl (nc rfl .no (.u rfl) (fz rfl .no Fx.fo145_0 (.u rfl) (ld rfl .no Fx.ag36 (.u rfl) (fun _=>Rd.own .here (by first|exact wap_f rfl|rfl)) ?_)))))))))))
 refine mV rfl rfl (kD (8) rfl .no Fx.se36 hs (.u rfl) (.u rfl) (fun _=>by omega) (fun _=>by omega) ?_)
 intro h59 L59 eL59 lL59 hs59
 have lL59:=lL59 rfl
 refine nc rfl .no (.u rfl) (fz rfl .no Fx.fo145_0 (.u rfl) (s1 rfl (.u rfl) (.u rfl) rfl Fx.sz36 .here (by first|decide|(simp only [wa_len,ba_len,qlA]; omega)) (rfl) ?_))
 refine .nil (.code (.seq (rq2 rfl rfl (mV rfl rfl (aS rfl rfl (.nil (.code (.ret (We.fin Tryd.results55 (.tmp rfl .nil) (mS .here rfl mN) ?_)))))))))
 obtain rfl:k=8:=by omega
 exact ⟨h59,by rw [eL59]; rfl,by rw [em]; rfl,by rw [← eL59]; exact hs59⟩
namespace Fx
theorem zq26:zrL Tryd.prog 26=some ([V 0#8,V 0#8,uv .u64 0#64,uv .u64 0#64,uv .u64 0#64]):=by kernel_rfl
theorem bp26_:bPl Tryd.prog 26 []=some ([V 0#8,V 0#8,uv .u64 0#64,uv .u64 0#64,uv .u64 0#64],[]):=by kernel_rfl
theorem sz26:szT Tryd.prog 26=some 5:=by kernel_rfl
theorem go54:goFn Tryd.prog 54=true:=by kernel_rfl
theorem bp26_0_1:bPl Tryd.prog 26 [0,1]=some ([V 0#8,V 0#8,uv .u64 0#64,uv .u64 0#64,uv .u64 0#64],[(0,1),(1,1)]):=by kernel_rfl
theorem go55:goFn Tryd.prog 55=true:=by kernel_rfl
theorem sz24:szT Tryd.prog 24=some 1:=by kernel_rfl
theorem bs36_9:bsT Tryd.prog 36 9=true:=by kernel_rfl
theorem go20:goFn Tryd.prog 20=true:=by kernel_rfl
end Fx
theorem Take_ok (xs:List Y) (h:Sh) (G:PM) (hs:SlR G 1 encY h xs) (hl:xs.length≤100000000000000):Ct Tryd.prog 53 ([h.val xs.length]:List Value).toArray G [] (fun _ μ' u=>μ'=[]∧u=.tuple #[.agg (takeH xs).1.cells.toArray,.int .i64 (takeH xs).2]):=by
 refine Ct.of Tryd.func53 rfl Tryd.ntmps53 rfl fun w0 hs0=>?_
 refine .seq (rq2 rfl rfl ?_)
 refine al rfl Fx.zq26 ?_; intro b2
 refine aS rfl rfl (.nil (.code (.seq (.seq (rq3 rfl rfl (mV rfl rfl (ln rfl .no Fx.sn36 (.u rfl) (cp rfl .no (.u rfl) (.u rfl) rfl (.nil (.code (.cond rfl (fun c1=>?_) (fun c1=>?_))))))))))))
 ·have c1k:=c1
  try simp only [qcA,qcC,qcB] at c1
  refine .seq (rq3 rfl rfl (bC rfl .no Fx.bp26_ .nil rfl ?_))
  refine sw rfl (.u rfl) (.u rfl) rfl Fx.sz26 .here (by first|exact qE|exact qL|rfl) (one5 rfl rfl rfl rfl rfl) ?_
  refine aS rfl rfl (.nil (.code (.ret (We.fin0 Tryd.results53 (.cell rfl (fun w hw=>run_loadVarN Fx.ag26 (RdN.own .here) ((by first|exact qE|exact qL|rfl)) hw) (.tmp rfl .nil)) ?_))))
  exact ⟨rfl,by rw [take_short (by omega)]; rfl⟩
 have c1k:=c1
 try simp only [qcA,qcC,qcB] at c1
 refine .skip (.code (.seq (rq4 rfl rfl (mV rfl rfl (kS (6) (30) rfl .no Fx.se36 hs (.u rfl) (.u rfl) (.u rfl) (fun _=>by omega) (fun _=>by omega) (fun _=>by omega) (fun _=>by omega) ?_)))))
 intro h11 L11 eL11 lL11 hs11
 have lL11:=lL11 rfl
 refine kc rfl Fx.go54 (Evc rfl Evn) (wcNew_ok L11 h11 _ hs11 (by omega)) ?_
 rintro _ G12 μ12 hG12 ⟨b12,sn0,rfl,rfl,hsn0⟩
 have hs:=hs.mono hG12
 refine aS rfl rfl (.nil (.code (.seq (Wk.draw (mc:=⟨false,false⟩) [0,1,2,3,4,5,6,7,8] Fx.mix (by kernel_rfl) ?_))))
 refine mV rfl rfl (ih rfl .no Fx.se36 (.u rfl) (.u rfl) (fun _=>by omega) (fun _=>by omega) (fun _=>hs.nn (k:=4) (by omega)) ?_)
 refine ld rfl .no Fx.ag5 (.u rfl) (fun _=>(hs.yat (4) (by omega) (by omega)).rd) ?_
 refine mV rfl rfl (ih rfl .no Fx.se36 (.u rfl) (.u rfl) (fun _=>by omega) (fun _=>by omega) (fun _=>hs.nn (k:=5) (by omega)) ?_)
 refine ld rfl .no Fx.ag5 (.u rfl) (fun _=>(hs.yat (5) (by omega) (by omega)).rd) ?_
 refine bCe ([V (xs.getD 4 0),V (xs.getD 5 0),uv .u64 0#64,uv .u64 0#64,uv .u64 0#64]) rfl .no Fx.bp26_0_1 (.cons (.u rfl) rfl (.cons (.u rfl) rfl .nil)) rfl (rfl) ?_
 refine al rfl Fx.zq26 ?_; intro b5
 refine sw rfl (.u rfl) (.u rfl) rfl Fx.sz26 .here (by first|exact qE|exact qL|rfl) (one5 rfl rfl rfl rfl rfl) ?_
 refine .nil (.code (.seq (rq4 rfl rfl (mV rfl rfl (ka rfl (.inr rfl) Fx.go55 (Evc rfl (Evc rfl Evn)) (mtk1 tk1) (rdFix_ok L11 sn0 _ _ hsn0 (by (try simp only [List.length_drop]); omega) (by (try simp only [List.length_drop]); omega)) ?_)))))
 rintro _ G21 μ21 hG21 ⟨sn1,rfl,rfl,hsn1⟩
 have hs:=hs.mono hG21
 refine fz rfl .no Fx.fo26_2 (.u rfl) (s1 rfl (.u rfl) (.u rfl) rfl Fx.sz24 tk1 (show 2<5 by decide) (rfl) ?_)
 refine .nil (.code (.seq (rq4 rfl rfl (mV rfl rfl (ka rfl (.inr rfl) Fx.go55 (Evc rfl (Evc rfl Evn)) (mtk1 tk1) (rdFix_ok (L11.drop 8) sn1 _ _ hsn1 (by (try simp only [List.length_drop]); omega) (by (try simp only [List.length_drop]); omega)) ?_)))))
 rintro _ G24 μ24 hG24 ⟨sn2,rfl,rfl,hsn2⟩
 have hs:=hs.mono hG24
 refine fz rfl .no Fx.fo26_3 (.u rfl) (s1 rfl (.u rfl) (.u rfl) rfl Fx.sz24 tk1 (show 3<5 by decide) (rfl) ?_)
 refine .nil (.code (.seq (rq4 rfl rfl (mV rfl rfl (ka rfl (.inr rfl) Fx.go55 (Evc rfl (Evc rfl Evn)) (mtk1 tk1) (rdFix_ok ((L11.drop 8).drop 8) sn2 _ _ hsn2 (by (try simp only [List.length_drop]); omega) (by (try simp only [List.length_drop]); omega)) ?_)))))
 rintro _ G27 μ27 hG27 ⟨sn3,rfl,rfl,hsn3⟩
 have hs:=hs.mono hG27
 refine fz rfl .no Fx.fo26_4 (.u rfl) (s1 rfl (.u rfl) (.u rfl) rfl Fx.sz24 tk1 (show 4<5 by decide) (rfl) ?_)
 refine .nil (.code (.seq (.seq (rq9 rfl rfl (mV rfl rfl (kE (4) rfl .no Fx.se36 hs (.u rfl) (.u rfl) (fun _=>by omega) (fun _=>by omega) ?_))))))
 intro h30 L30 eL30 lL30 hs30
 have lL30:=lL30 rfl
 refine sB rfl .no Fx.bs36_9 (.u rfl) (fun _=>hs30.sc) ?_
 refine cs rfl .no (.u rfl) (.u rfl) rfl (mV rfl rfl (lA rfl (.f rfl rfl) Fx.ag26 (.u rfl) (fun _=>RdN.own .here) (fun _=>(by first|exact qE|exact qL|rfl)) ?_))
 refine kv rfl (.f rfl rfl) Fx.go20 (Eva.cons (.s rfl) Evn) (fun hc=>nRight_ok ⟨xs.getD 4 0,xs.getD 5 0,unfK L11 8,unfK (L11.drop 8) 8,unfK ((L11.drop 8).drop 8) 8⟩ _) ?_
 refine nt rfl (.f rfl rfl) (.s rfl) (pkO rfl .no (.u rfl) (.s rfl) (.nil (.code (.cond rfl (fun c2=>?_) (fun c2=>?_)))))
 ·have c2k:=c2
  try simp only [qcA,qcC,qcB] at c2
  refine .seq (rq3 rfl rfl (bC rfl .no Fx.bp26_ .nil rfl ?_))
  refine sw rfl (.u rfl) (.u rfl) rfl Fx.sz26 tk2 (by first|exact qE|exact qL|rfl) (one5 rfl rfl rfl rfl rfl) ?_
  refine aS rfl rfl (.nil (.code (.ret (We.fin0 Tryd.results53 (.cell rfl (fun w hw=>run_loadVarN Fx.ag26 (RdN.own .here) ((by first|exact qE|exact qL|rfl)) hw) (.tmp rfl .nil)) ?_))))
  rw [head_at eL11] at c2k
  exact ⟨rfl,by rw [take_bad (by omega) (fun hq=>take_c2 eL30 c2k hq)]; rfl⟩
 have c2k:=c2
 try simp only [qcA,qcC,qcB] at c2
 refine .skip (.code (.seq (rq3 rfl rfl (lA rfl .no Fx.ag26 (.u rfl) (fun _=>RdN.own .here) (fun _=>(by first|exact qE|exact qL|rfl)) ?_))))
 refine sw rfl (.u rfl) (.u rfl) rfl Fx.sz26 tk2 (by first|exact qE|exact qL|rfl) (one5 rfl rfl rfl rfl rfl) ?_
 refine aS rfl rfl (.nil (.code (.ret (We.fin0 Tryd.results53 (.cell rfl (fun w hw=>run_loadVarN Fx.ag26 (RdN.own .here) ((by first|exact qE|exact qL|rfl)) hw) (.tmp rfl .nil)) ?_))))
 rw [head_at eL11] at c2k
 exact ⟨rfl,by rw [take_good (by omega) (take_c3 eL30 c2k),←head_at eL11]; rfl⟩
end Go.Proofs.YtbdnclpopappeaaDoor
