/- Lemmas and contracts of functions, joined. -/
import Derived.Test.YtoifkgkandfeiaaGreatDoorDb2
import Derived.KernelRfl
import Derived.Test.YtoifkgkandfeiaaGreatDoorCards
import Derived.Test.YtoifkgkandfeiaaGreatDoorTie
import Derived.OpenShut
import Derived.Deep.DeepHandedRow
import Derived.Deep.CondSized
import Derived.JoinedCond
import Derived.Shelf.Small.Wraps
import Derived.Shelf.LaysM
import Derived.Shelf.Strconv.Itoa3
import Derived.Shelf.Strings.Search2
import Derived.Shelf.Strings.Prefix
import Derived.Shelf.Unicode.Decode
import Derived.Test.YtoifkgkandfeiaaGreatDoorProg
import Derived.Test.YtoifkgkandfeiaaGreatDoorRows
set_option linter.unusedSimpArgs false
set_option linter.unusedVariables false
set_option linter.unusedSectionVars false
namespace Go.Tan
open Go.RowKit
section
variable {e:Ent}
theorem eR1 (h:1024<(e.user.size:Int)):rightE e=false:=by unfold rightE; rw [decide_eq_false (by omega)]; rfl
theorem eR2 (h:65536<(e.value.size:Int)):rightE e=false:=by unfold rightE; rw [decide_eq_false (p:=(e.value.size:Int)≤65536) (by omega)]; simp
theorem eR3 (h:72057594037927935<(e.seq.toNat:Int)):rightE e=false:=by unfold rightE; rw [decide_eq_false (p:=e.seq.toNat≤72057594037927935) (by omega)]; simp
theorem eR4 (h1:(e.user.size:Int)≤1024) (h2:(e.value.size:Int)≤65536) (h3:(e.seq.toNat:Int)≤72057594037927935) (h4:(e.kind.toNat:Int)=0):rightE e=(e.value.toList == (⟨#[]⟩ : ByteArray).toList):=by
 have hk:e.kind=0#8:=BitVec.eq_of_toNat_eq (by show _=0; omega)
 unfold rightE
 rw [decide_eq_true h1,decide_eq_true h2,decide_eq_true (p:=e.seq.toNat≤72057594037927935) (by omega),if_pos hk,show (⟨#[]⟩ : ByteArray).toList=[] by rw [ByteArray.toList_eq]]; rfl
theorem eR5 (h1:(e.user.size:Int)≤1024) (h2:(e.value.size:Int)≤65536) (h3:(e.seq.toNat:Int)≤72057594037927935) (h4:¬ (e.kind.toNat:Int)=0):rightE e=((e.kind.toNat:Int) == 1):=by
 have hk:¬ e.kind=0#8:=fun q=>h4 (by rw [q]; rfl)
 unfold rightE
 rw [decide_eq_true h1,decide_eq_true h2,decide_eq_true (p:=e.seq.toNat≤72057594037927935) (by omega),if_neg hk]
 show decide (e.kind=1#8)=decide ((e.kind.toNat:Int)=1)
 exact decide_eq_decide.2 ⟨fun q=>by rw [q]; rfl,fun q=>BitVec.eq_of_toNat_eq (by show _=1; omega)⟩
end
section
variable {α:Type} {p:α→Bool} {l:List α} {k:Nat} {x:α}
def idxZ (p:α→Bool) (l:List α):Int:=match l.findIdx? p with | some i=>(i:Int) | none => -1
theorem idz_step (h:∀ j y,j<k→l[j]? = some y→p y=false) (hx:l[k]? = some x) (hp:p x=false):∀ j y,j<k+1→l[j]? = some y→p y=false:=fun j y hj hy=>by
 by_cases e:j=k
 ·subst e; rw [hx] at hy; cases hy; exact hp
 ·exact h j y (by omega) hy
theorem idz_hit (h:∀ j y,j<k→l[j]? = some y→p y=false) (hx:l[k]? = some x) (hp:p x=true):tup [.int .i64 (k:Int)]=.int .i64 (idxZ p l):=by
 have hk:k<l.length:=(List.getElem?_eq_some_iff.1 hx).1
 have:l.findIdx? p=some k:=by
  rw [List.findIdx?_eq_some_iff_getElem]
  refine ⟨hk,?_,fun j hj=>?_⟩
  ·rw [List.getElem?_eq_getElem hk] at hx; cases hx; exact hp
  rw [h j _ hj (List.getElem?_eq_getElem (by omega))]; simp
 unfold idxZ; rw [this]; rfl
theorem idz_none (h:∀ j y,j<k→l[j]? = some y→p y=false) (hk:l.length≤k):tup [.int .i64 (-1)]=.int .i64 (idxZ p l):=by
 have:l.findIdx? p=none:=by
  rw [List.findIdx?_eq_none_iff]
  intro y hy
  obtain ⟨i,hi,rfl⟩:=List.getElem_of_mem hy
  exact h i _ (by omega) (List.getElem?_eq_getElem hi)
 unfold idxZ; rw [this]; rfl
theorem idz_ge:decide (idxZ p l≥0)=l.any p:=by
 unfold idxZ
 cases h:l.findIdx? p with
 | none =>
  rw [List.findIdx?_eq_none_iff] at h
  have:l.any p=false:=by rw [List.any_eq_false]; intro x hx; rw [h x hx]; simp
  rw [this]; rfl
 | some i =>
  rw [List.findIdx?_eq_some_iff_getElem] at h
  obtain ⟨hi,hp,_⟩:=h
  have:l.any p=true:=List.any_eq_true.2 ⟨_,List.getElem_mem hi,hp⟩
  rw [this]; exact decide_eq_true (Int.natCast_nonneg i)
end
section
variable {l:List Ent} {k:Nat} {x y:Ent}
theorem ri_neg:((!le x.user y.user)||(x.user.toList == y.user.toList&&decide ((x.seq.toNat:Int)≤(y.seq.toNat:Int)))) = !aheadE x y:=by
 rw [le_not,Bool.not_not]
 unfold aheadE
 rcases lt_tri x.user y.user with h | h | h
 ·have hne:(x.user.toList == y.user.toList)=false:=by
   cases hq:(x.user.toList == y.user.toList) with
   | false=>rfl
   | true=>rw [toList_inj hq,lt_irr] at h; cases h
  rw [h,lt_as h,hne]; rfl
 ·rw [h,lt_irr,beq_self_eq_true]
  simp only [Bool.false_or,Bool.true_and]
  by_cases q:y.seq.toNat<x.seq.toNat
  ·rw [decide_eq_true q,decide_eq_false (by omega)]; rfl
  ·rw [decide_eq_false q,decide_eq_true (by omega)]; rfl
 ·have hne:(x.user.toList == y.user.toList)=false:=by
   cases hq:(x.user.toList == y.user.toList) with
   | false=>rfl
   | true=>rw [toList_inj hq,lt_irr] at h; cases h
  rw [h,lt_as h,hne]; rfl
theorem ri_at (hx:l[k]? = some x):l.getD k Ent.zero=x:=by rw [List.getD_eq_getElem?_getD,hx]; rfl
theorem ri_step (hk:1≤k) (h:∀ j,j+1<k→aheadE (l.getD j Ent.zero) (l.getD (j+1) Ent.zero)=true) (hx:l[k-1]? = some x) (hy:l[k]? = some y) (c:((!le x.user y.user)||(x.user.toList == y.user.toList&&decide ((x.seq.toNat:Int)≤(y.seq.toNat:Int))))=false) :
  ∀ j,j+1<k+1→aheadE (l.getD j Ent.zero) (l.getD (j+1) Ent.zero)=true:=fun j hj=>by
 by_cases e:j+1=k
 ·have e2:j=k-1:=by omega
  subst e2
  rw [e,ri_at hx,ri_at hy]
  rw [ri_neg] at c
  cases h:aheadE x y with
  | true=>rfl
  | false=>rw [h] at c; cases c
 ·exact h j (by omega)
theorem ri_no (hk:1≤k) (hx:l[k-1]? = some x) (hy:l[k]? = some y) (c:((!le x.user y.user)||(x.user.toList == y.user.toList&&decide ((x.seq.toNat:Int)≤(y.seq.toNat:Int))))=true):risesE l=false:=by
 have hlt:k<l.length:=(List.getElem?_eq_some_iff.1 hy).1
 refine risesE_no (i:=k-1) (by omega) ?_
 rw [show k-1+1=k by omega,ri_at hx,ri_at hy]
 rw [ri_neg] at c
 cases h:aheadE x y with
 | true=>rw [h] at c; cases c
 | false=>rfl
theorem ri_yes (hk:l.length≤k∨l.length=0) (h:∀ j,j+1<k→aheadE (l.getD j Ent.zero) (l.getD (j+1) Ent.zero)=true):risesE l=true:=B_true fun i hi=>h i (by omega)
end
theorem idz_0 {α:Type} {p:α→Bool}:idxZ p []<0:=by show (-1:Int)<0; decide
theorem mtq7 {μ μ1 μ2 μ3 μ4 μ5 μ6 μ7:Mem} {r1 r2 r3 r4 r5 r6 r7:Res} (h1:MTake μ r1 μ1) (h2:MTake μ1 r2 μ2) (h3:MTake μ2 r3 μ3) (h4:MTake μ3 r4 μ4) (h5:MTake μ4 r5 μ5) (h6:MTake μ5 r6 μ6) (h7:MTake μ6 r7 μ7):μ.Perm ([r1,r2,r3,r4,r5,r6,r7]++μ7):=h1.perm.trans ((mtq6 h2 h3 h4 h5 h6 h7).cons _)
theorem lendL2 {P:Program} {G:PM} {f:FuncId} {args:Array Value} {bl T E:Nat} {v sz:Value} {xs:List Nd} {r:Value}
  (h:∀ (s:Sh) (G2:PM),PM.le G G2→v=s.val xs.length→SlR G2 16 Nd.cells s xs→PB G2 bl (cl [v,sz] T)→Ct P f args G2 [] (fun _ μ' u=>μ'=[]∧u=r)) :
  Ct P f args G [.blk bl (cl [v,sz] T),rS 16 Nd.cells v E xs] (fun _ μ' u=>μ'=[.blk bl (cl [v,sz] T),rS 16 Nd.cells v E xs]∧u=r) :=
 (lend1 (Q:=fun ν u=>ν=[rS 16 Nd.cells v E xs]∧u=r) fun G1 hle1 h1=>(Ct.lendS (Q:=fun ν u=>ν=[]∧u=r) (fun x _=>Nd.len x) fun s G2 hle hv hs=>h s G2 (hle1.trans hle) hv hs (h1.mono hle)).mono
  fun G' μ' u ⟨ν,h2,h3,h4⟩=>⟨by rw [h2,h3],h4⟩).mono fun G' μ' u ⟨ν,h2,h3,h4⟩=>⟨by rw [h2,h3],h4⟩
theorem wk_bS {α:Type} {enc:α→List Value} {sz:Nat} {X:Cx} {cd:Code} {k:List KI} {ρ:Env} {G:PM} {μ:Mem} {b E:Nat} {cs:List Value} {μ':Mem} (xs:List α) (m:Nat) (hm:MTake μ (.blk b (cl cs E)) μ') (hx:cs=xs.flatMap enc) (hl:xs.length=m) (hsz:∀ x∈xs,(enc x).length=sz) (hb:m≤140737488355328)
  (h:Wk X cd k ρ G (rS sz enc (.slice (some ⟨b,0,none⟩) m m) E xs :: μ')):Wk X cd k ρ G μ :=
 ⟨fun a w ha ht=>by
  subst hl; subst hx
  have hf:=flat_len hsz
  exact h.out a w ha ((ht.perm hm.perm).asRow (sz:=sz) hf (Nat.le_refl _) (by unfold maxLen; omega) (by simpa using hf) (List.take_of_length_le (by simpa using Nat.le_of_eq hf)))⟩
theorem wayG2 {l:List Opn} {a b:Opn} {us:ByteArray} {q:BitVec 64} (hl:l=[a,b]) (ha:aheadK (entE 1#64 a) us q=false) (hb:aheadK (entE 2#64 b) us q=false) :
  WayN (lstW (entsF 0 l) 2) us q (fun _=>0)∧nxt (lstW (entsF 0 l) 2) 0 0=1∧((lstW (entsF 0 l) 2).getD 1 Nd.z).1=entE 1#64 a:=by
 subst hl
 have h2:∃ p q r:Nat→Nat,lstW (entsF 0 [a,b]) 2=[(Ent.zero,p),(entE 1#64 a,q),(entE 2#64 b,r)]∧p 0=1∧p 1=2∧(∀ k,2≤k→p k=0)∧q 0=2∧(∀ k,1≤k→q k=0)∧∀ k,r k=0:=by
  refine ⟨_,_,_,rfl,rfl,rfl,fun k hk=>?_,rfl,fun k hk=>?_,fun k=>?_⟩
  ·match k,hk with
   | k+2,_=>rfl
  ·match k,hk with
   | k+1,_=>rfl
  match k with
  | 0=>rfl
  | 1=>rfl
  | k+2=>rfl
 obtain ⟨p,q',r,e,p0,p1,p2,q0,q1,r0⟩:=h2
 rw [e]
 have n0:∀ k,nxt [(Ent.zero,p),(entE 1#64 a,q'),(entE 2#64 b,r)] 0 k=p k:=fun _=>rfl
 have n1:∀ k,nxt [(Ent.zero,p),(entE 1#64 a,q'),(entE 2#64 b,r)] 1 k=q' k:=fun _=>rfl
 have n2:∀ k,nxt [(Ent.zero,p),(entE 1#64 a,q'),(entE 2#64 b,r)] 2 k=r k:=fun _=>rfl
 refine ⟨⟨rfl,fun k _=>by simp,fun k _=>.inl ⟨rfl,?_⟩,fun i hi k _=>?_⟩,by rw [n0,p0],rfl⟩
 ·match k with
  | 0=>exact .inr (by rw [n0,p0]; exact ha)
  | 1=>exact .inr (by rw [n0,p1]; exact hb)
  | k+2=>exact .inl (by rw [n0,p2 _ (by omega)])
 have:i=0∨i=1∨i=2:=by simp at hi; omega
 rcases this with rfl|rfl|rfl
 ·rw [n0]
  match k with
  | 0=>rw [p0]; simp
  | 1=>rw [p1]; simp
  | k+2=>rw [p2 _ (by omega)]; simp
 ·rw [n1]
  match k with
  | 0=>rw [q0]; simp
  | k+1=>rw [q1 _ (by omega)]; simp
 rw [n2,r0]; simp
def wdC (bd bt:Nat) (root:Nat→Y) (o:Opts) (most:Int) (x y:Value):List Value:=[pt bd,pt bt]++(ba 32 root++(o.cells++[.int .i64 most,x,y]))
section
variable {bd bt:Nat} {root:Nat→Y} {o:Opts} {most:Int} {x y z:Value}
theorem wd_len:(wdC bd bt root o most x y).length=44:=rfl
theorem wd_db:(wdC bd bt root o most x y).set 42 z=wdC bd bt root o most z y:=rfl
theorem wd_gr:(wdC bd bt root o most x y).set 43 z=wdC bd bt root o most x z:=rfl
theorem wd_mo:(wdC bd bt root o most x y)[41]? = some (.int .i64 most):=rfl
theorem wd_x:(wdC bd bt root o most x y)[42]? = some x:=rfl
theorem wd_y:(wdC bd bt root o most x y)[43]? = some y:=rfl
end
theorem Tr.freeze0 {G0 G:PM} {K0:List Nat} {w0 w:World} {μ:Mem} {b:Nat} {o:Obj} (h:Tr G0 K0 w0 G (.blk b o :: μ) w):Tr G0 K0 w0 (G.add b o) μ w:=by
 have hbo:w.heap[b]? = some o:=h.sat.own _ (List.mem_cons_self ..)
 have hk:keys (.blk b o :: μ)=b :: keys μ:=by simp [keys,Res.keys]
 have hnd:=h.sat.nodup
 rw [hk] at hnd
 have hGb:G b=none:=h.sat.apart b (by rw [hk]; exact List.mem_cons_self ..)
 have hw0:=h.mine b (by rw [hk]; exact List.mem_cons_self ..)
 refine ⟨⟨?_,fun r hr=>h.sat.own r (List.mem_cons_of_mem _ hr),?_,(List.nodup_cons.1 hnd).2⟩,h.os,h.tape,h.output,h.size,?_,fun c hc=>h.mine c (by rw [hk]; exact List.mem_cons_of_mem _ hc),?_⟩
 ·intro c u hc
  unfold PM.add at hc
  split at hc
  ·rename_i e; subst e; cases hc; exact hbo
  exact h.sat.sub c u hc
 ·intro c hc
  unfold PM.add
  rw [if_neg (fun (e:c=b)=>(List.nodup_cons.1 hnd).1 (e▸hc))]
  exact h.sat.apart c (by rw [hk]; exact List.mem_cons_of_mem _ hc)
 ·intro c hc hK
  have:=h.old c hc hK
  refine ⟨this.1,?_⟩
  unfold PM.add
  rw [if_neg (fun e=>by subst e; rcases hw0 with q | q; exact hK q; omega)]
  exact this.2
 intro c u hK hc
 exact PM.le_add hGb c u (h.le c u hK hc)
theorem Tr.freezeRow0 {G0 G:PM} {μ:Mem} {K0:List Nat} {w0 w:World} {E sz m:Nat} {v:Value} {xs:List Value} (h:Tr G0 K0 w0 G (.row v E sz m xs :: μ) w) :
  ∃ G' s,PM.le G G'∧v=Sh.val s m∧m≤s.cap∧(m≠0→s.oa=some ⟨s.b,s.o,none⟩)∧RdNP G' s.b s.o xs∧Tr G0 K0 w0 G' μ w:=by
 have hrow:w.ownsRow 0 E sz v m xs:=h.sat.own _ (List.mem_cons_self ..)
 have hnd:=h.sat.nodup
 rcases hrow.2 with ⟨rfl,rfl⟩ | ⟨g,cap,cur,rfl,_,hg,hnc,hcm,hcs,htake⟩
 ·have hx:xs=[]:=List.eq_nil_of_length_eq_zero (by simpa using hrow.1)
  subst hx
  exact ⟨G,⟨none,0⟩,PM.le.refl G,rfl,Nat.le_refl _,fun h=>absurd rfl h,fun j v hj=>by simp at hj,Tr.left (ν:=[.row (.slice none 0 0) E sz 0 []]) (h.perm (List.perm_append_comm (l₁:=[Res.row (.slice none 0 0) E sz 0 []])))⟩
 have hk:keys (.row (.slice (some ⟨g,0,none⟩) m cap) E sz m xs :: μ)=g :: keys μ:=by simp [keys,Res.keys,Value.ownBlock]
 have hk':keys (.blk g (.cells cur E (0,0)) :: μ)=g :: keys μ:=by simp [keys,Res.keys]
 rw [hk] at hnd
 have hb:Tr G0 K0 w0 G (.blk g (.cells cur E (0,0)) :: μ) w:=by
  refine { h with sat:=⟨h.sat.sub,fun r hr=>?_,by rw [hk',←hk]; exact h.sat.apart,by rw [hk']; exact hnd⟩,mine:=by rw [hk',←hk]; exact h.mine }
  rcases List.mem_cons.1 hr with rfl | hr
  ·exact hg
  exact h.sat.own r (List.mem_cons_of_mem _ hr)
 have hGg:G g=none:=h.sat.apart g (by rw [hk]; exact List.mem_cons_self ..)
 refine ⟨G.add g (.cells cur E (0,0)),⟨some ⟨g,0,none⟩,cap⟩,PM.le_add hGg,rfl,hnc,fun _=>rfl,fun j u hj=>?_,hb.freeze0⟩
 intro w' hs'
 have h1:=hs' g _ (PM.add_same G g _)
 show w'.cell? ⟨g,0+j,none⟩=some u
 rw [Nat.zero_add,cell_of_row w' g j cur E (0,0) h1]
 rw [← htake,List.getElem?_take] at hj
 split at hj
 ·simpa using hj
 cases hj
theorem Tr.frzS0 {α:Type} {enc:α→List Value} {sz:Nat} {G0 G:PM} {μ:Mem} {K0:List Nat} {w0 w:World} {E:Nat} {v:Value} {xs:List α} (hsz:∀ x∈xs,(enc x).length=sz) (h:Tr G0 K0 w0 G (rS sz enc v E xs :: μ) w) :
  ∃ G' s,PM.le G G'∧v=Sh.val s xs.length∧SlR G' sz enc s xs∧Tr G0 K0 w0 G' μ w:=by
 obtain ⟨G',s,h1,h2,h3,h4,h5,h6⟩:=h.freezeRow0
 exact ⟨G',s,h1,h2,SlR.ofRow hsz h3 h4 h5,h6⟩
theorem wk_fs0 {α:Type} {enc:α→List Value} {sz:Nat} {X:Cx} {cd:Code} {k:List KI} {ρ:Env} {G:PM} {μ:Mem} {E:Nat} {v:Value} {xs:List α} {μ':Mem} (hm:MTake μ (rS sz enc v E xs) μ') (hsz:∀ x∈xs,(enc x).length=sz) (h:∀ G' s,PM.le G G'→v=Sh.val s xs.length→SlR G' sz enc s xs→Wk X cd k ρ G' μ'):Wk X cd k ρ G μ :=
 ⟨fun a w ha ht=>by
  obtain ⟨G',s,h1,h2,h3,h4⟩:=(ht.perm hm.perm).frzS0 hsz
  exact (h G' s h1 h2 h3).out a w ha h4⟩
theorem SlR.dn {G:PM} {h:Sh} {xs:List Nat} (s:SlR G 2 encD h xs):SlR G 2 encDn h (xs.map fun c:Nat=>((c:Int),(0:Int))):=by
 refine ⟨fun hne=>s.there fun e=>hne (by rw [e]; rfl),by rw [List.length_map]; exact s.le,fun i x hx=>?_⟩
 rw [List.getElem?_map] at hx
 cases e:xs[i]? with
 | none=>rw [e] at hx; cases hx
 | some c =>
  rw [e] at hx
  cases hx
  exact s.rd i c e
theorem prsR_ok {s:List UInt8} {e e0:EvD} {i:Nat} {c:Int} (h:PrsR s e i c) (hp:parseD s=.ok e0):e=e0∧i=0∧c=0:=by
 rcases h with ⟨h1,h2,h3⟩ | ⟨h1,_,_⟩
 ·rw [hp] at h1; cases h1; exact ⟨rfl,h2,h3⟩
 ·rw [hp] at h1; cases h1
theorem prsR_er {s:List UInt8} {e:EvD} {i i0:Nat} {c:Int} (h:PrsR s e i c) (hp:parseD s=.error i0):e=EvD.zero∧i=i0∧c=260:=by
 rcases h with ⟨h1,_,_⟩ | ⟨h1,h2,h3⟩
 ·rw [hp] at h1; cases h1
 ·rw [hp] at h1; cases h1; exact ⟨h2,rfl,h3⟩
def sW1:List UInt8:=[119,114,105,116,101,32,50,32,115,121,110,99,32,43,97,61,120,32,45,98]
def sPk:List UInt8:=[112,105,99,107,32,48]
def sGt:List UInt8:=[103,101,116,32,97,32,110,111,119]
def sFo:List UInt8:=[102,111,111]
def sG0:List UInt8:=[103,101,116,32,97]
def oA6:Opn:=⟨1#8,txt [97],txt [120]⟩
def oB6:Opn:=⟨0#8,txt [98],⟨#[]⟩⟩
def eW1:EvD:=⟨1#8,2,[oA6,oB6],true,[],[],0#64,0,[],[],[]⟩
def ePk:EvD:=⟨6#8,0,[],false,[],[],0#64,0,[],[],[]⟩
def eGt:EvD:=⟨2#8,0,[],false,[97],[],18446744073709551615#64,0,[],[],[]⟩
theorem prs_W:parseD sW1=.ok eW1:=by kernel_rfl
theorem prs_Pk:parseD sPk=.ok ePk:=by kernel_rfl
theorem prs_Gt:parseD sGt=.ok eGt:=by kernel_rfl
theorem prs_Fo:parseD sFo=.error 0:=by kernel_rfl
theorem prs_G0:parseD sG0=.error 5:=by kernel_rfl
theorem ok_A6:∀ o∈[oA6,oB6],o.ok:=fun o ho=>by
 simp only [List.mem_cons,List.not_mem_nil,or_false] at ho
 rcases ho with rfl|rfl
 ·exact ⟨.inl rfl,by decide,by decide⟩
 ·exact ⟨.inr ⟨rfl,by rw [ByteArray.toList_eq]; rfl⟩,by decide,by decide⟩
theorem lt_A6:lt ([oA6,oB6].getD 0 Opn.zero).user ([oA6,oB6].getD 1 Opn.zero).user=true:=by kernel_rfl
theorem it_0:Lib.itoa 0=[48]:=by
 show Lib.itoa ((0:Nat):Int)=_
 rw [Lib.itoa_nonneg,Lib.decDigits_one (by decide)]; rfl
theorem it_2:Lib.itoa 2=[50]:=by
 show Lib.itoa ((2:Nat):Int)=_
 rw [Lib.itoa_nonneg,Lib.decDigits_one (by decide)]; rfl
theorem it_260:Lib.itoa 260=[50,54,48]:=by
 show Lib.itoa ((260:Nat):Int)=_
 rw [Lib.itoa_nonneg,Lib.decDigits,dif_neg (by decide),Lib.decDigits_two (by decide) (by decide)]; rfl
theorem okR0:Rep.zero.ok:=⟨by decide,by decide,⟨by decide,fun p h=>absurd h List.not_mem_nil⟩,⟨by decide,fun p h=>absurd h List.not_mem_nil⟩⟩
def rPk:Rep:=⟨0,0#64,⟨#[]⟩,false,[],[(((2:Nat):Int),(0:Int))]⟩
def rGt:Rep:=⟨0,0#64,txt [120],true,[],[]⟩
theorem okRP:rPk.ok:=⟨by decide,by decide,⟨by decide,fun p h=>absurd h List.not_mem_nil⟩,⟨by decide,fun d h=>by
 have:d=(((2:Nat):Int),(0:Int)):=List.mem_singleton.1 h
 subst this; decide⟩⟩
theorem okRG:rGt.ok:=⟨by decide,by decide,⟨by decide,fun p h=>absurd h List.not_mem_nil⟩,⟨by decide,fun p h=>absurd h List.not_mem_nil⟩⟩
theorem txW:textT eW1.kind eW1.n Rep.zero=[111,107]:=rfl
theorem txP:textT ePk.kind ePk.n rPk=[100,111,110,101,32,50,58,48]:=by
 show toldT ePk.kind ePk.n rPk++(doneT (2,0)++[])=_
 unfold doneT
 rw [it_2,it_0]; rfl
theorem txG:textT eGt.kind eGt.n rGt=[61,120]:=rfl
end Go.Tan
namespace Go.Proofs.YtoifkgkandfeiaaGreatDoor
open Go.Tan Go.RowKit
set_option maxRecDepth 100000
namespace Fx
theorem co344:Tryz.prog.cellsOf 344=1:=by kernel_rfl
theorem co511:Tryz.prog.cellsOf 511=64:=by kernel_rfl
theorem co23:Tryz.prog.cellsOf 23=1:=by kernel_rfl
theorem co365:Tryz.prog.cellsOf 365=20:=by kernel_rfl
end Fx
theorem gC:Tryz.prog.globalNamed "tantalus/sha.constants" = some 6:=by kernel_rfl
theorem gCT:(Tryz.prog.globals[6]?).map (·.type)=some 511:=by kernel_rfl
theorem gPw:Tryz.prog.globalNamed "internal/strconv.uint64pow10" = some 2:=by kernel_rfl
theorem gPwT:(Tryz.prog.globals[2]?).map (·.type)=some 365:=by kernel_rfl
def kInts:List Int:=[1116352408,1899447441,3049323471,3921009573,961987163,1508970993,2453635748,2870763221,3624381080,310598401,607225278,1426881987,1925078388,2162078206,2614888103,3248222580,3835390401,4022224774,264347078,604807628,770255983,1249150122,1555081692,1996064986,2554220882,2821834349,2952996808,3210313671,3336571891,3584528711,113926993,338241895,666307205,773529912,1294757372,1396182291,1695183700,1986661051,2177026350,2456956037,2730485921,2820302411,3259730800,3345764771,3516065817,3600352804,4094571909,275423344,430227734,506948616,659060556,883997877,958139571,1322822218,1537002063,1747873779,1955562222,2024104815,2227730452,2361852424,2428436474,2756734187,3204031479,3329325298]
theorem kInts_at:∀ j,j<64→kInts.getD j 0=((kW j).toNat:Int):=by decide
theorem tab6 {W:World} {x y z:String×DataW Unit} {rest:List (String×DataW Unit)} (h:laidMet Tryz.prog (x :: y :: z :: ("tantalus/sha.constants",Rows.laid_tantalus_sha_constants) :: rest) W):RdNP (fun b=>W.heap[b]?) 6 0 (wa 64 kW) :=
 tab_rd (Lib.tabIs_of_head (zs:=kInts) (rest:=rest) gC gCT Tryz.underlying511 Tryz.underlying344 Fx.co344 Fx.co511 (laid_tail (laid_tail (laid_tail h)))) gC rfl kInts_at
def pInts:List Int:=[1,10,100,1000,10000,100000,1000000,10000000,100000000,1000000000,10000000000,100000000000,1000000000000,10000000000000,100000000000000,1000000000000000,10000000000000000,100000000000000000,1000000000000000000,10000000000000000000]
theorem pInts_eq:Lib.pow10Tab=pInts:=by decide
theorem pw6 {W:World} {x y:String×DataW Unit} {rest:List (String×DataW Unit)} (h:laidMet Tryz.prog (x :: y :: ("internal/strconv.uint64pow10",Rows.laid_internal_strconv_uint64pow10) :: rest) W):PwG Tryz.prog (fun b=>W.heap[b]?):=fun w hw=>by
 have h1:Lib.TabIs Tryz.prog W "internal/strconv.uint64pow10" .u64 pInts:=Lib.tabIs_of_head (zs:=pInts) (rest:=rest) gPw gPwT Tryz.underlying365 Tryz.underlying23 Fx.co23 Fx.co365 (laid_tail (laid_tail h))
 rw [pInts_eq]
 unfold Lib.TabIs World.var? at h1 ⊢
 rw [gPw] at h1 ⊢
 simp only [Option.bind_some] at h1 ⊢
 cases e:W.heap[2]? with
 | none=>rw [e] at h1; cases h1
 | some o=>rw [e] at h1; rw [hw 2 o e]; exact h1
def litV:Lit→Value
 | .int k n=>.int k n
 | .bool b=>.bool b
 | _=>.bool false
def datC:DataW Unit→List Value
 | .agg ps=>ps.flatMap fun q=>match q with
  | .lit l=>[litV l]
  | .agg rs=>rs.flatMap fun s=>match s with
   | .lit l=>[litV l]
   | _=>[]
  | _=>[]
 | _=>[]
def setD (d:DataW Unit):Obj→Obj
 | .cells _ t frozen=>.cells (datC d).toArray t frozen
 | o=>o
noncomputable def laidWorld (os:Os):World :=
 { World.holding Tryz.prog os ⟨#[], #[],[]⟩ with heap:=(((((((World.holding Tryz.prog os ⟨#[], #[],[]⟩).heap.modify 4 (setD Rows.laid_math_bits_deBruijn32tab)).modify 5 (setD Rows.laid_math_bits_deBruijn64tab)).modify 2 (setD Rows.laid_internal_strconv_uint64pow10)).modify 6 (setD Rows.laid_tantalus_sha_constants)).modify 1 (setD Rows.laid_unicode_utf8_acceptRanges)).modify 0 (setD Rows.laid_unicode_utf8_first)) }
section
variable {H:Type} {R:Nat} {enc:TypeId×Value→H} {W:World} {cs:List Value}
theorem one_of {v u:Value} (h:v.cells.toList=[u]) (hu:u.oneCell'=true) (hn:∀ c,v≠.agg c):v=u:=by
 cases v<;>first|(exact absurd rfl (hn _))|(simp [Value.cells] at h; exact h)
theorem str_of {t:TypeId} {base:Nat} {v u:Value} (ht:Tryz.prog.underlying t=some .string) (h:Value.okWide Tryz.prog W .any base t v) (hl:v.cells.toList=[u]) (hu:u.oneCell'=true):v=u:=by
 refine one_of hl hu fun c hc=>?_
 subst hc
 unfold Value.okWide at h
 rw [ht] at h
 simp [Cell.okWide,ht,Cell.ok] at h
end
theorem tanOwn:ownKnob Tryz.prog.godebug=none:=by kernel_rfl
theorem tanLaid:laidOutB Tryz.prog=true:=by kernel_rfl
theorem tanRowed:mapsRowed Tryz.prog=true:=by kernel_rfl
theorem tanKeys:(Rows.deskTextsRow.plainKeys == Tryz.prog.plainKeys)=true:=by kernel_rfl
theorem tanHeard:Tryz.prog.stopsHeard=true:=by kernel_rfl
theorem tanEnter:Tryz.prog.mayEnter=true:=by kernel_rfl
theorem tab {a b:Bool} (h:a=true) (k:b=true):(a&&b)=true:=by rw [h,k]; rfl
end Go.Proofs.YtoifkgkandfeiaaGreatDoor
namespace Go.Proofs
open Go.Shelf
def Tryz.lays103_ren:Go.Shelf.Ren:=⟨fun | 103=>115 | 210=>179 | 206=>180 | n=>n,fun | 9=>9 | 4=>4 | 24=>214 | 3=>3 | n=>n,fun | n=>n⟩
theorem Tryz.lays103:Go.Proofs.Lays.n103 Tryz.prog Tryz.lays103_ren:={
 mixed:=by kernel_rfl
 f103:=Tryz.func115.trans (congrArg some (by kernel_rfl))
 f206:=Tryz.func180.trans (congrArg some (by kernel_rfl))
 f210:=Tryz.func179.trans (congrArg some (by kernel_rfl))
 t3:=Tryz.underlying3
 a3:=Tryz.isAgg3
 z3:=Tryz.sizeOf3
 v3:=Tryz.zeroValue3
 t4:=Tryz.underlying4
 a4:=Tryz.isAgg4
 z4:=Tryz.sizeOf4
 v4:=Tryz.zeroValue4
 t9:=Tryz.underlying9
 a9:=Tryz.isAgg9
 z9:=Tryz.sizeOf9
 v9:=Tryz.zeroValue9
 t24:=Tryz.underlying214
 a24:=Tryz.isAgg214
 z24:=Tryz.sizeOf214
 v24:=Tryz.zeroValue214 }
open Go.RowKit in
theorem Tryz.strings_CutPrefix (s p:ByteArray) (w:World) :
  Calls Tryz.prog 115 #[.string s,.string p] w fun e w'=>e=.returned (.tuple #[.string ⟨(Lib.trimPrefix s.data.toList p.data.toList).toArray⟩,.bool (Lib.hasPrefix s.data.toList p.data.toList)])∧w'=w:=Any.strings_CutPrefix Tryz.lays103 s p w
def Tryz.laysM171_ren:Go.Shelf.Ren:=⟨fun | 171=>45 | 243=>81 | 246=>121 | 283=>182 | 284=>183 | 285=>184 | 286=>185 | 129=>250 | 317=>249 | 318=>251 | 319=>252 | 320=>253 | 337=>324 | 338=>325 | n=>n,fun | 3=>3 | 9=>9 | 2=>2 | 4=>4 | 171=>290 | 0=>0 | 53=>23 | 37=>25 | 5=>5 | 173=>293 | 212=>365 | 51=>344 | 20=>20 | 213=>366 | 46=>206 | 232=>33 | 233=>470 | n=>n,fun | 17=>2 | 18=>4 | 19=>5 | n=>n⟩
theorem Tryz.laysM171:Go.Proofs.LaysM.n171 Tryz.prog Tryz.laysM171_ren:={
 mixed:=by kernel_rfl
 f129:=Tryz.func250.trans (congrArg some (by kernel_rfl))
 f171:=Tryz.func45.trans (congrArg some (by kernel_rfl))
 f243:=Tryz.func81.trans (congrArg some (by kernel_rfl))
 f246:=Tryz.func121.trans (congrArg some (by kernel_rfl))
 f283:=Tryz.func182.trans (congrArg some (by kernel_rfl))
 f284:=Tryz.func183.trans (congrArg some (by kernel_rfl))
 f285:=Tryz.func184.trans (congrArg some (by kernel_rfl))
 f286:=Tryz.func185.trans (congrArg some (by kernel_rfl))
 f317:=Tryz.func249.trans (congrArg some (by kernel_rfl))
 f318:=Tryz.func251.trans (congrArg some (by kernel_rfl))
 f319:=Tryz.func252.trans (congrArg some (by kernel_rfl))
 f320:=Tryz.func253.trans (congrArg some (by kernel_rfl))
 f337:=Tryz.func324.trans (congrArg some (by kernel_rfl))
 f338:=Tryz.func325.trans (congrArg some (by kernel_rfl))
 t0:=Tryz.underlying0
 a0:=Tryz.isAgg0
 z0:=Tryz.sizeOf0
 v0:=Tryz.zeroValue0
 t2:=Tryz.underlying2
 a2:=Tryz.isAgg2
 z2:=Tryz.sizeOf2
 v2:=Tryz.zeroValue2
 t3:=Tryz.underlying3
 a3:=Tryz.isAgg3
 z3:=Tryz.sizeOf3
 v3:=Tryz.zeroValue3
 t4:=Tryz.underlying4
 a4:=Tryz.isAgg4
 z4:=Tryz.sizeOf4
 v4:=Tryz.zeroValue4
 t5:=Tryz.underlying5
 a5:=Tryz.isAgg5
 z5:=Tryz.sizeOf5
 v5:=Tryz.zeroValue5
 t9:=Tryz.underlying9
 a9:=Tryz.isAgg9
 z9:=Tryz.sizeOf9
 v9:=Tryz.zeroValue9
 t20:=Tryz.underlying20
 a20:=Tryz.isAgg20
 z20:=Tryz.sizeOf20
 v20:=Tryz.zeroValue20
 t37:=Tryz.underlying25
 a37:=Tryz.isAgg25
 z37:=Tryz.sizeOf25
 v37:=Tryz.zeroValue25
 t46:=Tryz.underlying206
 a46:=Tryz.isAgg206
 z46:=Tryz.sizeOf206
 v46:=Tryz.zeroValue206
 t51:=Tryz.underlying344
 a51:=Tryz.isAgg344
 z51:=Tryz.sizeOf344
 v51:=Tryz.zeroValue344
 t53:=Tryz.underlying23
 a53:=Tryz.isAgg23
 z53:=Tryz.sizeOf23
 v53:=Tryz.zeroValue23
 t171:=Tryz.underlying290
 a171:=Tryz.isAgg290
 z171:=Tryz.sizeOf290
 v171:=Tryz.zeroValue290
 t173:=Tryz.underlying293
 a173:=Tryz.isAgg293
 z173:=Tryz.sizeOf293
 v173:=Tryz.zeroValue293
 t212:=Tryz.underlying365
 a212:=Tryz.isAgg365
 z212:=Tryz.sizeOf365
 v212:=Tryz.zeroValue365
 t213:=Tryz.underlying366
 a213:=Tryz.isAgg366
 z213:=Tryz.sizeOf366
 t232:=Tryz.underlying33
 a232:=Tryz.isAgg33
 z232:=Tryz.sizeOf33
 v232:=Tryz.zeroValue33
 t233:=Tryz.underlying470
 a233:=Tryz.isAgg470
 z233:=Tryz.sizeOf470
 v233:=Tryz.zeroValue470
 g17:=by kernel_rfl
 g18:=by kernel_rfl
 g19:=by kernel_rfl
 i0:=by kernel_rfl
 i2:=by kernel_rfl
 i3:=by kernel_rfl
 i4:=by kernel_rfl
 i5:=by kernel_rfl
 i9:=by kernel_rfl
 i20:=by kernel_rfl
 i37:=by kernel_rfl
 i46:=by kernel_rfl
 i51:=by kernel_rfl
 i53:=by kernel_rfl
 i171:=by kernel_rfl
 i173:=by kernel_rfl
 i212:=by kernel_rfl
 i232:=by kernel_rfl
 i233:=by kernel_rfl
 m17:=by kernel_rfl
 m18:=by kernel_rfl
 m19:=by kernel_rfl }
open Go.RowKit Go.Sort Go.Lib in
theorem Tryz.strconv_Itoa (n:Int) (h0 : -9223372036854775808≤n) (h1:n≤9223372036854775807) (w:World) (htab:Lib.TabIs Tryz.prog w "internal/strconv.uint64pow10" .u64 Lib.pow10Tab) :
  Calls Tryz.prog 45 #[.int .i64 n] w fun e w'=>e=.returned (.string ⟨(Lib.itoa n).toArray⟩)∧∃ k os,w'=grow (w.drewN k) os:=Any.strconv_Itoa Tryz.laysM171 n h0 h1 w htab
def Tryz.lays219_ren:Go.Shelf.Ren:=⟨fun | 219=>188 | 217=>254 | 225=>255 | 224=>256 | 267=>257 | 266=>326 | 314=>327 | n=>n,fun | 9=>9 | 3=>3 | 4=>4 | 5=>5 | 46=>206 | 146=>435 | 51=>344 | n=>n,fun | 1=>3 | n=>n⟩
theorem Tryz.lays219:Go.Proofs.Lays.n219 Tryz.prog Tryz.lays219_ren:={
 mixed:=by kernel_rfl
 f217:=Tryz.func254.trans (congrArg some (by kernel_rfl))
 f219:=Tryz.func188.trans (congrArg some (by kernel_rfl))
 f224:=Tryz.func256.trans (congrArg some (by kernel_rfl))
 f225:=Tryz.func255.trans (congrArg some (by kernel_rfl))
 f266:=Tryz.func326.trans (congrArg some (by kernel_rfl))
 f267:=Tryz.func257.trans (congrArg some (by kernel_rfl))
 f314:=Tryz.func327.trans (congrArg some (by kernel_rfl))
 t3:=Tryz.underlying3
 a3:=Tryz.isAgg3
 z3:=Tryz.sizeOf3
 v3:=Tryz.zeroValue3
 t4:=Tryz.underlying4
 a4:=Tryz.isAgg4
 z4:=Tryz.sizeOf4
 v4:=Tryz.zeroValue4
 t5:=Tryz.underlying5
 a5:=Tryz.isAgg5
 z5:=Tryz.sizeOf5
 v5:=Tryz.zeroValue5
 t9:=Tryz.underlying9
 a9:=Tryz.isAgg9
 z9:=Tryz.sizeOf9
 v9:=Tryz.zeroValue9
 t46:=Tryz.underlying206
 a46:=Tryz.isAgg206
 z46:=Tryz.sizeOf206
 v46:=Tryz.zeroValue206
 t51:=Tryz.underlying344
 a51:=Tryz.isAgg344
 z51:=Tryz.sizeOf344
 v51:=Tryz.zeroValue344
 t146:=Tryz.underlying435
 a146:=Tryz.isAgg435
 z146:=Tryz.sizeOf435
 v146:=Tryz.zeroValue435
 g1:=by kernel_rfl }
open Go.RowKit Go.Lib in
theorem Tryz.stringslite_Index_one (s:ByteArray) (c:UInt8) (w:World) :
  Calls Tryz.prog 188 #[.string s,.string ⟨#[c]⟩] w fun e w'=>e=.returned (.int .i64 (Lib.indexByte s.data.toList c))∧w'=w:=Any.stringslite_Index_one Tryz.lays219 s c w
def Tryz.lays99_ren:Go.Shelf.Ren:=⟨fun | 99=>116 | 206=>180 | n=>n,fun | 9=>9 | 4=>4 | 3=>3 | n=>n,fun | n=>n⟩
theorem Tryz.lays99:Go.Proofs.Lays.n99 Tryz.prog Tryz.lays99_ren:={
 mixed:=by kernel_rfl
 f99:=Tryz.func116.trans (congrArg some (by kernel_rfl))
 f206:=Tryz.func180.trans (congrArg some (by kernel_rfl))
 t3:=Tryz.underlying3
 a3:=Tryz.isAgg3
 z3:=Tryz.sizeOf3
 v3:=Tryz.zeroValue3
 t4:=Tryz.underlying4
 a4:=Tryz.isAgg4
 z4:=Tryz.sizeOf4
 v4:=Tryz.zeroValue4
 t9:=Tryz.underlying9
 a9:=Tryz.isAgg9
 z9:=Tryz.sizeOf9
 v9:=Tryz.zeroValue9 }
open Go.RowKit Go.Lib in
theorem Tryz.strings_HasPrefix (s p:ByteArray) (w:World) :
  Calls Tryz.prog 116 #[.string s,.string p] w fun e w'=>e=.returned (.bool (Lib.hasPrefix s.data.toList p.data.toList))∧w'=w:=Any.strings_HasPrefix Tryz.lays99 s p w
def Tryz.lays197_ren:Go.Shelf.Ren:=⟨fun | 197=>36 | 260=>65 | n=>n,fun | 9=>9 | 21=>21 | 3=>3 | 4=>4 | 5=>5 | 105=>88 | 119=>205 | 0=>0 | 46=>206 | 139=>209 | 138=>208 | n=>n,fun | 3=>0 | 4=>1 | n=>n⟩
theorem Tryz.lays197:Go.Proofs.Lays.n197 Tryz.prog Tryz.lays197_ren:={
 mixed:=by kernel_rfl
 f197:=Tryz.func36.trans (congrArg some (by kernel_rfl))
 f260:=Tryz.func65.trans (congrArg some (by kernel_rfl))
 t0:=Tryz.underlying0
 a0:=Tryz.isAgg0
 z0:=Tryz.sizeOf0
 v0:=Tryz.zeroValue0
 t3:=Tryz.underlying3
 a3:=Tryz.isAgg3
 z3:=Tryz.sizeOf3
 v3:=Tryz.zeroValue3
 t4:=Tryz.underlying4
 a4:=Tryz.isAgg4
 z4:=Tryz.sizeOf4
 v4:=Tryz.zeroValue4
 t5:=Tryz.underlying5
 a5:=Tryz.isAgg5
 z5:=Tryz.sizeOf5
 v5:=Tryz.zeroValue5
 t9:=Tryz.underlying9
 a9:=Tryz.isAgg9
 z9:=Tryz.sizeOf9
 v9:=Tryz.zeroValue9
 t21:=Tryz.underlying21
 a21:=Tryz.isAgg21
 z21:=Tryz.sizeOf21
 v21:=Tryz.zeroValue21
 t46:=Tryz.underlying206
 a46:=Tryz.isAgg206
 z46:=Tryz.sizeOf206
 v46:=Tryz.zeroValue206
 t105:=Tryz.underlying88
 a105:=Tryz.isAgg88
 z105:=Tryz.sizeOf88
 v105:=Tryz.zeroValue88
 t119:=Tryz.underlying205
 a119:=Tryz.isAgg205
 z119:=Tryz.sizeOf205
 t138:=Tryz.underlying208
 a138:=Tryz.isAgg208
 z138:=Tryz.sizeOf208
 v138:=Tryz.zeroValue208
 t139:=Tryz.underlying209
 a139:=Tryz.isAgg209
 z139:=Tryz.sizeOf209
 v139:=Tryz.zeroValue209
 g3:=by kernel_rfl
 g4:=by kernel_rfl }
open Go.RowKit Go.Lib in
theorem Tryz.utf8_DecodeRuneInString_ascii (s:ByteArray) (x:UInt8) (w:World) (h0:s.data.toList[0]? = some x) (hx:x.toNat<128) :
  Calls Tryz.prog 36 #[.string s] w fun e w'=>e=.returned (.tuple #[.int .i32 x.toNat,.int .i64 1])∧w'=w:=Any.utf8_DecodeRuneInString_ascii Tryz.lays197 s x w h0 hx
end Go.Proofs
namespace Go.Proofs.YtoifkgkandfeiaaGreatDoor
open Go.Tan Go.RowKit
namespace Fx
theorem cv3_206:cvK Tryz.prog 3 206=some .u64:=by kernel_rfl
theorem go228:goFn Tryz.prog 228=true:=by kernel_rfl
end Fx
theorem rot_ok (x:W) (k:Int) (G:PM):Ct Tryz.prog 228 ([U x,.int .i64 k]:List Value).toArray G [] (fun _ μ' u=>μ'=[]∧u=U (rotI x k)):=by
 refine Ct.of Tryz.func228 rfl Tryz.ntmps228 rfl fun w0 hs0=>?_
 refine .seq (rq1 rfl rfl (aS rfl rfl (.nil (.code (.seq (rq4 rfl rfl (mV rfl rfl (ci rfl .no rfl Fx.cv3_206 (.u rfl) ?_))))))))
 refine bw (k:=.u64) (b:=31#64) rfl .no rfl (.u rfl) (.u rfl) rfl (aS rfl rfl (.nil (.code (.seq (rq9 rfl rfl (mV rfl rfl (mV rfl rfl (lw (k:=.u32) rfl .no rfl (.u rfl) (.u rfl) (fun _=>Int.natCast_nonneg _) ?_))))))))
 refine mV rfl rfl (mV rfl rfl (bw (k:=.u64) (a:=32#64) rfl .no rfl (.u rfl) (.u rfl) rfl (rw' (k:=.u32) rfl .no (.u rfl) (.u rfl) (fun _=>Int.natCast_nonneg _) ?_)))
 refine bw (k:=.u32) rfl .no rfl (.u rfl) (.u rfl) rfl (aS rfl rfl (.nil (.code (.ret (We.fin0 Tryz.results228 (.tmp rfl .nil) ?_)))))
 exact ⟨rfl,rfl⟩
theorem mix_ok (a b c d:W) (G:PM):Ct Tryz.prog 392 ([U a,U b,U c,U d]:List Value).toArray G [] (fun _ μ' u=>μ'=[]∧u=mixV (mixW a b c d)):=by
 refine Ct.of Tryz.func392 rfl Tryz.ntmps392 rfl fun w0 hs0=>?_
 refine .seq (rq4 rfl rfl (aS rfl rfl (aS rfl rfl (aS rfl rfl (aS rfl rfl (.nil (.code (.seq (rq4 rfl rfl (mV rfl rfl (mV rfl rfl (bw (k:=.u32) rfl .no rfl (.u rfl) (.u rfl) rfl (aS rfl rfl (.nil (.code (.seq (rq5 rfl rfl (mV rfl rfl (mV rfl rfl (bw (k:=.u32) rfl .no rfl (.u rfl) (.u rfl) rfl (kv rfl .no Fx.go228 (Evc rfl (Evc rfl Evn)) (fun _=>rot_ok _ _ _) ?_)))))))))))))))))))))
 refine aS rfl rfl (.nil (.code (.seq (rq4 rfl rfl (mV rfl rfl (mV rfl rfl (bw (k:=.u32) rfl .no rfl (.u rfl) (.u rfl) rfl (aS rfl rfl (.nil (.code (.seq (rq5 rfl rfl (mV rfl rfl (mV rfl rfl (bw (k:=.u32) rfl .no rfl (.u rfl) (.u rfl) rfl (kv rfl .no Fx.go228 (Evc rfl (Evc rfl Evn)) (fun _=>rot_ok _ _ _) ?_))))))))))))))))
 refine aS rfl rfl (.nil (.code (.seq (rq4 rfl rfl (mV rfl rfl (mV rfl rfl (bw (k:=.u32) rfl .no rfl (.u rfl) (.u rfl) rfl (aS rfl rfl (.nil (.code (.seq (rq5 rfl rfl (mV rfl rfl (mV rfl rfl (bw (k:=.u32) rfl .no rfl (.u rfl) (.u rfl) rfl (kv rfl .no Fx.go228 (Evc rfl (Evc rfl Evn)) (fun _=>rot_ok _ _ _) ?_))))))))))))))))
 refine aS rfl rfl (.nil (.code (.seq (rq4 rfl rfl (mV rfl rfl (mV rfl rfl (bw (k:=.u32) rfl .no rfl (.u rfl) (.u rfl) rfl (aS rfl rfl (.nil (.code (.seq (rq5 rfl rfl (mV rfl rfl (mV rfl rfl (bw (k:=.u32) rfl .no rfl (.u rfl) (.u rfl) rfl (kv rfl .no Fx.go228 (Evc rfl (Evc rfl Evn)) (fun _=>rot_ok _ _ _) ?_))))))))))))))))
 refine aS rfl rfl (.nil (.code (.seq (rq8 rfl rfl (mV rfl rfl (mV rfl rfl (mV rfl rfl (mV rfl rfl (aS rfl rfl (aS rfl rfl (aS rfl rfl (aS rfl rfl (.nil (.code (.ret (We.fin0 Tryz.results392 (.tmp rfl (.tmp rfl (.tmp rfl (.tmp rfl .nil)))) ?_))))))))))))))))
 exact ⟨rfl,rfl⟩
namespace Fx
theorem se505:slE Tryz.prog 505=some (344,1,4):=by kernel_rfl
theorem sn505:(slE Tryz.prog 505).isSome=true:=by kernel_rfl
theorem mix:Tryz.prog.follows .mixedOrders=true:=by kernel_rfl
theorem ag344:aggN Tryz.prog 344=some none:=by kernel_rfl
theorem se25:slE Tryz.prog 25=some (5,1,1):=by kernel_rfl
theorem ag5:aggN Tryz.prog 5=some none:=by kernel_rfl
theorem cv5_344:cvK Tryz.prog 5 344=some .u32:=by kernel_rfl
theorem sz344:szT Tryz.prog 344=some 1:=by kernel_rfl
theorem zq470:zrL Tryz.prog 470=some (ba 64 (fun _=>0#8)):=by kernel_rfl
theorem bp503_0_1_2_3:bPl Tryz.prog 503 [0,1,2,3]=some ([.int .u32 0,.int .u32 0,.int .u32 0,.int .u32 0,.int .u32 0,.int .u32 0,.int .u32 0,.int .u32 0,.int .u32 0,.int .u32 0,.int .u32 0,.int .u32 0,.int .u32 0,.int .u32 0,.int .u32 0,.int .u32 0],[(0,1),(1,1),(2,1),(3,1)]):=by kernel_rfl
theorem zr503:zrL Tryz.prog 503=some ([.int .u32 0,.int .u32 0,.int .u32 0,.int .u32 0,.int .u32 0,.int .u32 0,.int .u32 0,.int .u32 0,.int .u32 0,.int .u32 0,.int .u32 0,.int .u32 0,.int .u32 0,.int .u32 0,.int .u32 0,.int .u32 0]):=by kernel_rfl
theorem sz503:szT Tryz.prog 503=some 16:=by kernel_rfl
theorem ar503:arE Tryz.prog 503=some (16,344,1):=by kernel_rfl
theorem ar33:arE Tryz.prog 33=some (32,5,1):=by kernel_rfl
theorem go391:goFn Tryz.prog 391=true:=by kernel_rfl
theorem ar404:arE Tryz.prog 404=some (12,5,1):=by kernel_rfl
theorem ag503:aggN Tryz.prog 503=some (some 16):=by kernel_rfl
theorem go392:goFn Tryz.prog 392=true:=by kernel_rfl
theorem cv344_5:cvK Tryz.prog 344 5=some .u8:=by kernel_rfl
theorem ar470:arE Tryz.prog 470=some (64,5,1):=by kernel_rfl
theorem sz5:szT Tryz.prog 5=some 1:=by kernel_rfl
theorem ag470:aggN Tryz.prog 470=some (some 64):=by kernel_rfl
theorem sz470:szT Tryz.prog 470=some 64:=by kernel_rfl
end Fx
theorem words_ok (y:Nat→W) (f:Nat→Y) (m bt bk off n cap kn:Nat) (T T2:TypeId) (G:PM) (hm:off+n≤m) (hk4:4*n≤kn) (hn:n≤1000):Ct Tryz.prog 391 ([(Sh.mk (some ⟨bt,off,none⟩) cap).val n,(Sh.mk (some ⟨bk,0,none⟩) kn).val kn]:List Value).toArray G ([.blk bt (cl (wa m y) T),.blk bk (cl (ba kn f) T2)]:Mem) (fun G' μ' u=>μ'=[.blk bt (cl (wa m (setW y f off n)) T),.blk bk (cl (ba kn f) T2)]∧u=.tuple #[]):=by
 refine Ct.of Tryz.func391 rfl Tryz.ntmps391 rfl fun w0 hs0=>?_
 refine .seq (rq3 rfl rfl (mV rfl rfl (ln rfl .no Fx.sn505 (.u rfl) (mV rfl rfl (.nil (.code (.block ?_)))))))
 refine Wk.lop (α:=Nat) (fun i=>[(8,true,.int .i64 (i:Int))]) (fun i=>[.blk bt (cl (wa m (setW y f off i)) T)])
  (fun i Gl=>i≤n) (fun i=>n-i) 0 [(0,true,_),(1,true,_),(7,true,_)] [.blk bk _]
  (esD rfl (esD rfl (esD rfl (esD rfl eZ))))
  (mS .here rfl (mS .here rfl mN)) ?_ ?_
 ·show 0≤n; omega
 intro i N0 Gl0 hN0 hGl0 hF0
 try dsimp only at hF0 hN0 ⊢
 have hi:i≤n:=hF0
 refine .seq (rq1 rfl rfl (cp rfl .no (.u rfl) (.u rfl) rfl (.nil (.code (.seq (.cond rfl (fun c1=>?_) (fun c1=>?_)))))))
 ·have c1k:=c1
  try simp only [qcA] at c1
  refine .skip (.code (.seq (.block (.seq (rq2 rfl rfl (mV rfl rfl (aS rfl rfl (.nil (.code (.seq (rq1 rfl rfl (aS rfl rfl (.nil (.code (.block ?_)))))))))))))))
  refine Wk.lop (α:=Nat) (fun c=>[(5,true,.int .i64 (3-(c:Int)))]) (fun c=>[.blk bt (cl (wa m (upd (setW y f off i) (off+i) (shW (setW y f off i (off+i)) f i c))) T)])
   (fun c Gl=>c≤4) (fun c=>4-c) 0 [(0,true,_),(1,true,_),(4,true,_),(7,true,_),(8,true,_)] [.blk bk _]
   (esD rfl (esD rfl (esD rfl (esD rfl (esD rfl (esD rfl eZ))))))
   (mS .here ws_start (mS .here rfl mN)) ?_ ?_
  ·show 0≤4; omega
  intro c N1 Gl1 hN1 hGl1 hF1
  try dsimp only at hF1 hN1 ⊢
  have hc:c≤4:=hF1
  refine .seq (.seq (rq2 rfl rfl (mV rfl rfl (cp rfl .no (.u rfl) (.u rfl) rfl (.nil (.code (.cond rfl (fun c2=>?_) (fun c2=>?_))))))))
  ·have c2k:=c2
   try simp only [qcA] at c2
   refine .skip (.code (.seq (.block (Wk.draw (mc:=⟨false,false⟩) [0,1,2,3,4,5,6,7,8,9,10,11,12,13,14,15,16,17] Fx.mix (by kernel_rfl) ?_))))
   refine mV rfl rfl (mV rfl rfl (mV rfl rfl (mV rfl rfl (ih rfl .no Fx.se505 (.u rfl) (.u rfl) (fun _=>by omega) (fun _=>by omega) (fun _=>rfl) ?_))))
   refine ld rfl .no Fx.ag344 (.u rfl) (fun _=>Rd.own .here (wa_at1 (off+i) (by show off+_*1=off+i; omega) (by omega))) ?_
   refine lw (k:=.u32) rfl .no rfl (.u rfl) (.u rfl) (fun _=>by decide) ?_
   refine mV rfl rfl (mV rfl rfl (ar rfl .no (.u rfl) (.u rfl) rfl (fun _=>wrap_i64 (by omega) (by omega)) ?_))
   refine mV rfl rfl (ar rfl .no (.u rfl) (.u rfl) rfl (fun _=>wrap_i64 (by omega) (by omega)) ?_)
   refine ih rfl .no Fx.se25 (.u rfl) (.u rfl) (fun _=>by omega) (fun _=>by omega) (fun _=>rfl) ?_
   refine ld rfl .no Fx.ag5 (.u rfl) (fun _=>Rd.own tk1 (ba_at1 (4*i+(3-c)) (by show 0+_*1=_; omega) (by omega))) ?_
   refine cu (k:=.u8) rfl .no rfl Fx.cv5_344 (.u rfl) ?_
   refine bw (k:=.u32) rfl .no rfl (.u rfl) (.u rfl) rfl (ih rfl .no Fx.se505 (.u rfl) (.u rfl) (fun _=>by omega) (fun _=>by omega) (fun _=>rfl) ?_)
   refine s1 rfl (.u rfl) (.u rfl) rfl Fx.sz344 .here (by rw [wa_len]; show off+_*1<m; omega) (wa_set1 (off+i) (by show off+_*1=off+i; omega)) ?_
   refine .nil (.blk (.code (rq3 rfl rfl (mV rfl rfl (ar rfl .no (.u rfl) (.u rfl) rfl (fun _=>wrap_i64 (by omega) (by omega)) ?_)))))
   refine aS rfl rfl (.nil (We.lpo (c+1) ?_ ?_ ?_ ?_ ?_))
   ·exact (esC rfl (congrArg _ (by omega)) (esD rfl (esD rfl (esD rfl (esD rfl (esD rfl eZ))))))
   ·exact (mS .here (ws_step (by rw [upd_at]; rfl)) (mS .here rfl mN))
   ·first|omega|(dsimp only; omega)
   ·exact hGl1
   show c+1≤4; omega
  have c2k:=c2
  try simp only [qcA] at c2
  refine .exit (.xcode (.xlp (.xblk (.blk (.code (rq2 rfl rfl (ar rfl .no (.u rfl) (.u rfl) rfl (fun _=>wrap_i64 (by omega) (by omega)) ?_)))))))
  refine mV rfl rfl (.nil (We.lpo (i+1) ?_ ?_ ?_ ?_ ?_))
  ·exact (esD rfl (esD rfl (esD rfl (esD rfl eZ))))
  ·exact (mS .here (ws_end (by omega)) (mS .here rfl mN))
  ·first|omega|(dsimp only; omega)
  ·exact hGl0.trans hGl1
  show i+1≤n; omega
 have c1k:=c1
 try simp only [qcA] at c1
 refine .exit (.xcode (.xlp (.xblk (.nil (We.fin Tryz.results391 .nil (mS .here rfl (mS .here rfl mN)) ?_)))))
 obtain rfl:i=n:=by omega
 exact ⟨rfl,rfl⟩
theorem Block_ok (key nonce:Nat→Y) (count:W) (G:PM):Ct Tryz.prog 380 ([.agg (ba 32 key).toArray,.agg (ba 12 nonce).toArray,U count]:List Value).toArray G [] (fun _ μ' u=>μ'=[]∧u=.agg (ba 64 (chaB key nonce count)).toArray):=by
 refine Ct.of Tryz.func380 rfl Tryz.ntmps380 rfl fun w0 hs0=>?_
 refine .seq (rq3 rfl rfl ?_)
 refine bx rfl (.u rfl) rfl ?_; intro b3
 refine bx rfl (.u rfl) rfl ?_; intro b4
 refine al rfl Fx.zq470 ?_; intro b6
 refine .nil (.code (.seq (rq3 rfl rfl (bC rfl .no Fx.bp503_0_1_2_3 (.cons (.u rfl) rfl (.cons (.u rfl) rfl (.cons (.u rfl) rfl (.cons (.u rfl) rfl .nil)))) rfl ?_))))
 refine al rfl Fx.zr503 ?_; intro b7
 refine sw rfl (.u rfl) (.u rfl) rfl Fx.sz503 .here rfl (by decide) ?_
 refine .nil (.code (.seq (Wk.draw (mc:=⟨true,false⟩) [0,1,2] Fx.mix (by kernel_rfl) ?_)))
 refine sab rfl .no Fx.ar503 (.u rfl) (.u rfl) (.u rfl) (fun _=>by decide) (fun _=>by decide) (fun _=>by decide) (fun _=>by decide) ?_
 refine sa0 rfl .no Fx.ar33 (.u rfl) (ka rfl (.inl rfl) Fx.go391 (Evc rfl (Evc rfl Evn)) (take2 .here tk2) (words_ok (x0) key 16 b7 b3 4 8 12 32 503 33 _ (by decide) (by decide) (by decide)) ?_)
 rintro u G2 μ2 hG2 ⟨rfl,rfl⟩
 simp only [lay,List.cons_append,List.nil_append,setW_x1,setW_x2]
 refine .nil (.code (.seq (rq3 rfl rfl (mV rfl rfl (iA rfl .no Fx.ar503 (.u rfl) (.u rfl) (fun _=>by decide) (fun _=>by decide) ?_)))))
 refine s1 rfl (.u rfl) (.u rfl) rfl Fx.sz344 .here (by rw [wa_len]; decide) (wa_set1 12 rfl) ?_
 refine .nil (.code (.seq (Wk.draw (mc:=⟨true,false⟩) [0,1,2] Fx.mix (by kernel_rfl) ?_)))
 refine sal rfl .no Fx.ar503 (.u rfl) (.u rfl) (fun _=>by decide) (fun _=>by decide) ?_
 refine sa0 rfl .no Fx.ar404 (.u rfl) (ka rfl (.inl rfl) Fx.go391 (Evc rfl (Evc rfl Evn)) (take2 .here tk2) (words_ok (upd (x1 key 8) 12 count) nonce 16 b7 b4 13 3 3 12 503 404 _ (by decide) (by decide) (by decide)) ?_)
 rintro u G2 μ2 hG2 ⟨rfl,rfl⟩
 simp only [lay,List.cons_append,List.nil_append,setW_x1,setW_x2]
 refine .nil (.code (.seq (rq3 rfl rfl (lA rfl .no Fx.ag503 (.u rfl) (fun _=>RdN.own .here) (fun _=>rfl) ?_))))
 refine al rfl Fx.zr503 ?_; intro b8
 refine sw rfl (.u rfl) (.u rfl) rfl Fx.sz503 .here rfl (wa_one _ _) ?_
 refine .nil (.code (.seq (.seq (rq1 rfl rfl (mV rfl rfl (.nil (.code (.block ?_))))))))
 refine Wk.lop (α:=Nat) (fun r=>[(24,true,.int .i64 (r:Int))]) (fun r=>[.blk b8 (cl (wa 16 (rounds (x2 key nonce count 3) r)) 503)])
  (fun r Gl=>r≤10) (fun r=>10-r) 0 [(6,true,_),(7,true,_),(8,true,_)] [.blk b7 _,.blk b4 _,.blk b3 _,.blk b6 _]
  (esD rfl (esD rfl (esD rfl (esD rfl eZ))))
  (mS .here rfl (mS .here rfl (mS .here rfl (mS .here rfl (mS .here rfl mN))))) ?_ ?_
 ·show 0≤10; omega
 intro r N0 Gl0 hN0 hGl0 hF0
 try dsimp only at hF0 hN0 ⊢
 have hr:r≤10:=hF0
 refine .seq (rq1 rfl rfl (cp rfl .no (.u rfl) (.u rfl) rfl (.nil (.code (.seq (.cond rfl (fun c1=>?_) (fun c1=>?_)))))))
 ·have c1k:=c1
  try simp only [qcA] at c1
  refine .skip (.code (.seq (.block (.seq (.seq (rq1 rfl rfl (mV rfl rfl (.nil (.code (.block ?_))))))))))
  refine Wk.lop (α:=Nat) (fun q=>[(26,true,.int .i64 (q:Int))]) (fun q=>[.blk b8 (cl (wa 16 (colsM (rounds (x2 key nonce count 3) r) q)) 503)])
   (fun q Gl=>q≤4) (fun q=>4-q) 0 [(6,true,_),(7,true,_),(8,true,_),(24,true,_)] [.blk b7 _,.blk b4 _,.blk b3 _,.blk b6 _]
   (esD rfl (esD rfl (esD rfl (esD rfl (esD rfl eZ)))))
   (mS .here rfl (mS .here rfl (mS .here rfl (mS .here rfl (mS .here rfl mN))))) ?_ ?_
  ·show 0≤4; omega
  intro q N1 Gl1 hN1 hGl1 hF1
  try dsimp only at hF1 hN1 ⊢
  have hq:q≤4:=hF1
  refine .seq (rq1 rfl rfl (cp rfl .no (.u rfl) (.u rfl) rfl (.nil (.code (.seq (.cond rfl (fun c2=>?_) (fun c2=>?_)))))))
  ·have c2k:=c2
   try simp only [qcA] at c2
   refine .skip (.code (.seq (.block (.seq (rq2 rfl rfl (mV rfl rfl (aS rfl rfl (.nil (.code (Wk.draw (mc:=⟨false,false⟩) [0,1,2,3,4,5,6,7,8,9,10,11,12,13,14,15,16,17,18,19,20,21,22,23,24,25,26,27,28,29,30,31,32,33,34,35] Fx.mix (by kernel_rfl) ?_))))))))))
   refine mV rfl rfl (mV rfl rfl (ar rfl .no (.u rfl) (.u rfl) rfl (fun _=>wrap_i64 (by omega) (by omega)) ?_))
   refine mV rfl rfl (ar rfl .no (.u rfl) (.u rfl) rfl (fun _=>wrap_i64 (by omega) (by omega)) ?_)
   refine mV rfl rfl (ar rfl .no (.u rfl) (.u rfl) rfl (fun _=>wrap_i64 (by omega) (by omega)) ?_)
   refine mV rfl rfl (iA rfl .no Fx.ar503 (.u rfl) (.u rfl) (fun _=>by omega) (fun _=>by omega) ?_)
   refine ld rfl .no Fx.ag344 (.u rfl) (fun _=>Rd.own .here (wa_at1 q (by omega) (by omega))) ?_
   refine mV rfl rfl (ar rfl .no (.u rfl) (.u rfl) rfl (fun _=>wrap_i64 (by omega) (by omega)) ?_)
   refine iA rfl .no Fx.ar503 (.u rfl) (.u rfl) (fun _=>by omega) (fun _=>by omega) ?_
   refine ld rfl .no Fx.ag344 (.u rfl) (fun _=>Rd.own .here (wa_at1 (4+q) (by omega) (by omega))) ?_
   refine mV rfl rfl (ar rfl .no (.u rfl) (.u rfl) rfl (fun _=>wrap_i64 (by omega) (by omega)) ?_)
   refine iA rfl .no Fx.ar503 (.u rfl) (.u rfl) (fun _=>by omega) (fun _=>by omega) ?_
   refine ld rfl .no Fx.ag344 (.u rfl) (fun _=>Rd.own .here (wa_at1 (8+q) (by omega) (by omega))) ?_
   refine mV rfl rfl (ar rfl .no (.u rfl) (.u rfl) rfl (fun _=>wrap_i64 (by omega) (by omega)) ?_)
   refine iA rfl .no Fx.ar503 (.u rfl) (.u rfl) (fun _=>by omega) (fun _=>by omega) ?_
   refine ld rfl .no Fx.ag344 (.u rfl) (fun _=>Rd.own .here (wa_at1 (12+q) (by omega) (by omega))) ?_
   refine kv rfl .no Fx.go392 (Evc rfl (Evc rfl (Evc rfl (Evc rfl Evn)))) (fun _=>mix_ok _ _ _ _ _) ?_
   refine mV rfl rfl (ex rfl .no (.u rfl) rfl (ex rfl .no (.u rfl) rfl (ex rfl .no (.u rfl) rfl (ex rfl .no (.u rfl) rfl (iA rfl .no Fx.ar503 (.u rfl) (.u rfl) (fun _=>by omega) (fun _=>by omega) ?_)))))
   refine s1 rfl (.u rfl) (.u rfl) rfl Fx.sz344 .here (by rw [wa_len]; omega) (wa_set1 q (by omega)) ?_
   refine iA rfl .no Fx.ar503 (.u rfl) (.u rfl) (fun _=>by omega) (fun _=>by omega) ?_
   refine s1 rfl (.u rfl) (.u rfl) rfl Fx.sz344 .here (by rw [wa_len]; omega) (wa_set1 (4+q) (by omega)) ?_
   refine iA rfl .no Fx.ar503 (.u rfl) (.u rfl) (fun _=>by omega) (fun _=>by omega) ?_
   refine s1 rfl (.u rfl) (.u rfl) rfl Fx.sz344 .here (by rw [wa_len]; omega) (wa_set1 (8+q) (by omega)) ?_
   refine iA rfl .no Fx.ar503 (.u rfl) (.u rfl) (fun _=>by omega) (fun _=>by omega) ?_
   refine s1 rfl (.u rfl) (.u rfl) rfl Fx.sz344 .here (by rw [wa_len]; omega) (wa_set1 (12+q) (by omega)) ?_
   refine .nil (.blk (.code (rq2 rfl rfl (ar rfl .no (.u rfl) (.u rfl) rfl (fun _=>wrap_i64 (by omega) (by omega)) ?_))))
   refine mV rfl rfl (.nil (We.lpo (q+1) ?_ ?_ ?_ ?_ ?_))
   ·exact (esD rfl (esD rfl (esD rfl (esD rfl (esD rfl eZ)))))
   ·exact (mS .here rfl (mS .here rfl (mS .here rfl (mS .here rfl (mS .here rfl mN)))))
   ·first|omega|(dsimp only; omega)
   ·exact hGl1
   show q+1≤4; omega
  have c2k:=c2
  try simp only [qcA] at c2
  refine .exit (.xcode (.xlp (.xblk (.code (.seq (Wk.rg [0,1,2,3,4,5,6,7,8,9,10,11,12,13,14,15,16,17,18,19,20,21] rfl rfl ?_))))))
  obtain rfl:q=4:=by omega
  simp only [colsM_eq (rounds (x2 key nonce count 3) r) 4 (Nat.le_refl 4)]
  refine iA rfl .no Fx.ar503 (.u rfl) (.u rfl) (fun _=>by decide) (fun _=>by decide) ?_
  refine ld rfl .no Fx.ag344 (.u rfl) (fun _=>Rd.own .here (wa_at1 0 rfl (by decide))) ?_
  refine iA rfl .no Fx.ar503 (.u rfl) (.u rfl) (fun _=>by decide) (fun _=>by decide) ?_
  refine ld rfl .no Fx.ag344 (.u rfl) (fun _=>Rd.own .here (wa_at1 5 rfl (by decide))) ?_
  refine iA rfl .no Fx.ar503 (.u rfl) (.u rfl) (fun _=>by decide) (fun _=>by decide) ?_
  refine ld rfl .no Fx.ag344 (.u rfl) (fun _=>Rd.own .here (wa_at1 10 rfl (by decide))) ?_
  refine iA rfl .no Fx.ar503 (.u rfl) (.u rfl) (fun _=>by decide) (fun _=>by decide) ?_
  refine ld rfl .no Fx.ag344 (.u rfl) (fun _=>Rd.own .here (wa_at1 15 rfl (by decide))) ?_
  refine kv rfl .no Fx.go392 (Evc rfl (Evc rfl (Evc rfl (Evc rfl Evn)))) (fun _=>mix_ok _ _ _ _ _) ?_
  refine mV rfl rfl (ex rfl .no (.u rfl) rfl (ex rfl .no (.u rfl) rfl (ex rfl .no (.u rfl) rfl (ex rfl .no (.u rfl) rfl (iA rfl .no Fx.ar503 (.u rfl) (.u rfl) (fun _=>by decide) (fun _=>by decide) ?_)))))
  refine s1 rfl (.u rfl) (.u rfl) rfl Fx.sz344 .here (by rw [wa_len]; decide) (wa_set1 0 rfl) ?_
  refine iA rfl .no Fx.ar503 (.u rfl) (.u rfl) (fun _=>by decide) (fun _=>by decide) ?_
  refine s1 rfl (.u rfl) (.u rfl) rfl Fx.sz344 .here (by rw [wa_len]; decide) (wa_set1 5 rfl) ?_
  refine iA rfl .no Fx.ar503 (.u rfl) (.u rfl) (fun _=>by decide) (fun _=>by decide) ?_
  refine s1 rfl (.u rfl) (.u rfl) rfl Fx.sz344 .here (by rw [wa_len]; decide) (wa_set1 10 rfl) ?_
  refine iA rfl .no Fx.ar503 (.u rfl) (.u rfl) (fun _=>by decide) (fun _=>by decide) ?_
  refine s1 rfl (.u rfl) (.u rfl) rfl Fx.sz344 .here (by rw [wa_len]; decide) (wa_set1 15 rfl) ?_
  refine .nil (.code (.seq (Wk.rg [0,1,2,3,4,5,6,7,8,9,10,11,12,13,14,15,16,17,18,19,20,21] rfl rfl (iA rfl .no Fx.ar503 (.u rfl) (.u rfl) (fun _=>by decide) (fun _=>by decide) ?_))))
  refine ld rfl .no Fx.ag344 (.u rfl) (fun _=>Rd.own .here (wa_at1 1 rfl (by decide))) ?_
  refine iA rfl .no Fx.ar503 (.u rfl) (.u rfl) (fun _=>by decide) (fun _=>by decide) ?_
  refine ld rfl .no Fx.ag344 (.u rfl) (fun _=>Rd.own .here (wa_at1 6 rfl (by decide))) ?_
  refine iA rfl .no Fx.ar503 (.u rfl) (.u rfl) (fun _=>by decide) (fun _=>by decide) ?_
  refine ld rfl .no Fx.ag344 (.u rfl) (fun _=>Rd.own .here (wa_at1 11 rfl (by decide))) ?_
  refine iA rfl .no Fx.ar503 (.u rfl) (.u rfl) (fun _=>by decide) (fun _=>by decide) ?_
  refine ld rfl .no Fx.ag344 (.u rfl) (fun _=>Rd.own .here (wa_at1 12 rfl (by decide))) ?_
  refine kv rfl .no Fx.go392 (Evc rfl (Evc rfl (Evc rfl (Evc rfl Evn)))) (fun _=>mix_ok _ _ _ _ _) ?_
  refine mV rfl rfl (ex rfl .no (.u rfl) rfl (ex rfl .no (.u rfl) rfl (ex rfl .no (.u rfl) rfl (ex rfl .no (.u rfl) rfl (iA rfl .no Fx.ar503 (.u rfl) (.u rfl) (fun _=>by decide) (fun _=>by decide) ?_)))))
  refine s1 rfl (.u rfl) (.u rfl) rfl Fx.sz344 .here (by rw [wa_len]; decide) (wa_set1 1 rfl) ?_
  refine iA rfl .no Fx.ar503 (.u rfl) (.u rfl) (fun _=>by decide) (fun _=>by decide) ?_
  refine s1 rfl (.u rfl) (.u rfl) rfl Fx.sz344 .here (by rw [wa_len]; decide) (wa_set1 6 rfl) ?_
  refine iA rfl .no Fx.ar503 (.u rfl) (.u rfl) (fun _=>by decide) (fun _=>by decide) ?_
  refine s1 rfl (.u rfl) (.u rfl) rfl Fx.sz344 .here (by rw [wa_len]; decide) (wa_set1 11 rfl) ?_
  refine iA rfl .no Fx.ar503 (.u rfl) (.u rfl) (fun _=>by decide) (fun _=>by decide) ?_
  refine s1 rfl (.u rfl) (.u rfl) rfl Fx.sz344 .here (by rw [wa_len]; decide) (wa_set1 12 rfl) ?_
  refine .nil (.code (.seq (Wk.rg [0,1,2,3,4,5,6,7,8,9,10,11,12,13,14,15,16,17,18,19,20,21] rfl rfl (iA rfl .no Fx.ar503 (.u rfl) (.u rfl) (fun _=>by decide) (fun _=>by decide) ?_))))
  refine ld rfl .no Fx.ag344 (.u rfl) (fun _=>Rd.own .here (wa_at1 2 rfl (by decide))) ?_
  refine iA rfl .no Fx.ar503 (.u rfl) (.u rfl) (fun _=>by decide) (fun _=>by decide) ?_
  refine ld rfl .no Fx.ag344 (.u rfl) (fun _=>Rd.own .here (wa_at1 7 rfl (by decide))) ?_
  refine iA rfl .no Fx.ar503 (.u rfl) (.u rfl) (fun _=>by decide) (fun _=>by decide) ?_
  refine ld rfl .no Fx.ag344 (.u rfl) (fun _=>Rd.own .here (wa_at1 8 rfl (by decide))) ?_
  refine iA rfl .no Fx.ar503 (.u rfl) (.u rfl) (fun _=>by decide) (fun _=>by decide) ?_
  refine ld rfl .no Fx.ag344 (.u rfl) (fun _=>Rd.own .here (wa_at1 13 rfl (by decide))) ?_
  refine kv rfl .no Fx.go392 (Evc rfl (Evc rfl (Evc rfl (Evc rfl Evn)))) (fun _=>mix_ok _ _ _ _ _) ?_
  refine mV rfl rfl (ex rfl .no (.u rfl) rfl (ex rfl .no (.u rfl) rfl (ex rfl .no (.u rfl) rfl (ex rfl .no (.u rfl) rfl (iA rfl .no Fx.ar503 (.u rfl) (.u rfl) (fun _=>by decide) (fun _=>by decide) ?_)))))
  refine s1 rfl (.u rfl) (.u rfl) rfl Fx.sz344 .here (by rw [wa_len]; decide) (wa_set1 2 rfl) ?_
  refine iA rfl .no Fx.ar503 (.u rfl) (.u rfl) (fun _=>by decide) (fun _=>by decide) ?_
  refine s1 rfl (.u rfl) (.u rfl) rfl Fx.sz344 .here (by rw [wa_len]; decide) (wa_set1 7 rfl) ?_
  refine iA rfl .no Fx.ar503 (.u rfl) (.u rfl) (fun _=>by decide) (fun _=>by decide) ?_
  refine s1 rfl (.u rfl) (.u rfl) rfl Fx.sz344 .here (by rw [wa_len]; decide) (wa_set1 8 rfl) ?_
  refine iA rfl .no Fx.ar503 (.u rfl) (.u rfl) (fun _=>by decide) (fun _=>by decide) ?_
  refine s1 rfl (.u rfl) (.u rfl) rfl Fx.sz344 .here (by rw [wa_len]; decide) (wa_set1 13 rfl) ?_
  refine .nil (.code (Wk.rg [0,1,2,3,4,5,6,7,8,9,10,11,12,13,14,15,16,17,18,19,20,21] rfl rfl (iA rfl .no Fx.ar503 (.u rfl) (.u rfl) (fun _=>by decide) (fun _=>by decide) ?_)))
  refine ld rfl .no Fx.ag344 (.u rfl) (fun _=>Rd.own .here (wa_at1 3 rfl (by decide))) ?_
  refine iA rfl .no Fx.ar503 (.u rfl) (.u rfl) (fun _=>by decide) (fun _=>by decide) ?_
  refine ld rfl .no Fx.ag344 (.u rfl) (fun _=>Rd.own .here (wa_at1 4 rfl (by decide))) ?_
  refine iA rfl .no Fx.ar503 (.u rfl) (.u rfl) (fun _=>by decide) (fun _=>by decide) ?_
  refine ld rfl .no Fx.ag344 (.u rfl) (fun _=>Rd.own .here (wa_at1 9 rfl (by decide))) ?_
  refine iA rfl .no Fx.ar503 (.u rfl) (.u rfl) (fun _=>by decide) (fun _=>by decide) ?_
  refine ld rfl .no Fx.ag344 (.u rfl) (fun _=>Rd.own .here (wa_at1 14 rfl (by decide))) ?_
  refine kv rfl .no Fx.go392 (Evc rfl (Evc rfl (Evc rfl (Evc rfl Evn)))) (fun _=>mix_ok _ _ _ _ _) ?_
  refine mV rfl rfl (ex rfl .no (.u rfl) rfl (ex rfl .no (.u rfl) rfl (ex rfl .no (.u rfl) rfl (ex rfl .no (.u rfl) rfl (iA rfl .no Fx.ar503 (.u rfl) (.u rfl) (fun _=>by decide) (fun _=>by decide) ?_)))))
  refine s1 rfl (.u rfl) (.u rfl) rfl Fx.sz344 .here (by rw [wa_len]; decide) (wa_set1 3 rfl) ?_
  refine iA rfl .no Fx.ar503 (.u rfl) (.u rfl) (fun _=>by decide) (fun _=>by decide) ?_
  refine s1 rfl (.u rfl) (.u rfl) rfl Fx.sz344 .here (by rw [wa_len]; decide) (wa_set1 4 rfl) ?_
  refine iA rfl .no Fx.ar503 (.u rfl) (.u rfl) (fun _=>by decide) (fun _=>by decide) ?_
  refine s1 rfl (.u rfl) (.u rfl) rfl Fx.sz344 .here (by rw [wa_len]; decide) (wa_set1 9 rfl) ?_
  refine iA rfl .no Fx.ar503 (.u rfl) (.u rfl) (fun _=>by decide) (fun _=>by decide) ?_
  refine s1 rfl (.u rfl) (.u rfl) rfl Fx.sz344 .here (by rw [wa_len]; decide) (wa_set1 14 rfl) ?_
  refine .nil (.blk (.code (rq2 rfl rfl (ar rfl .no (.u rfl) (.u rfl) rfl (fun _=>wrap_i64 (by omega) (by omega)) ?_))))
  refine mV rfl rfl (.nil (We.lpo (r+1) ?_ ?_ ?_ ?_ ?_))
  ·exact (esD rfl (esD rfl (esD rfl (esD rfl eZ))))
  ·exact (mS .here (congrArg (fun z=>Res.blk b8 (cl (wa 16 z) 503)) (diagM_eq (cols (rounds (x2 key nonce count 3) r) 4))) (mS .here rfl (mS .here rfl (mS .here rfl (mS .here rfl mN)))))
  ·first|omega|(dsimp only; omega)
  ·exact hGl0.trans hGl1
  show r+1≤10; omega
 have c1k:=c1
 try simp only [qcA] at c1
 refine .exit (.xcode (.xlp (.xblk (.code (.seq (rq1 rfl rfl ?_))))))
 obtain rfl:r=10:=by omega
 refine al rfl Fx.zq470 ?_; intro b10
 refine .nil (.code (.seq (.seq (rq1 rfl rfl (mV rfl rfl (.nil (.code (.block ?_))))))))
 refine Wk.lop (α:=Nat) (fun i=>[(135,true,.int .i64 (i:Int))]) (fun i=>[.blk b10 (cl (ba 64 (outs (chaB key nonce count) (4*i))) 470)])
  (fun i Gl=>i≤16) (fun i=>16-i) 0 [(6,true,_),(7,true,_),(8,true,_),(10,true,_)] [.blk b8 _,.blk b7 _,.blk b4 _,.blk b3 _,.blk b6 _]
  (esD rfl (esD rfl (esD rfl (esD rfl (esD rfl eZ)))))
  (mS .here rfl (mS .here rfl (mS .here rfl (mS .here rfl (mS .here rfl (mS .here rfl mN)))))) ?_ ?_
 ·show 0≤16; omega
 intro i N2 Gl2 hN2 hGl2 hF2
 try dsimp only at hF2 hN2 ⊢
 have hi:i≤16:=hF2
 refine .seq (rq1 rfl rfl (cp rfl .no (.u rfl) (.u rfl) rfl (.nil (.code (.seq (.cond rfl (fun c3=>?_) (fun c3=>?_)))))))
 ·have c3k:=c3
  try simp only [qcA] at c3
  refine .skip (.code (.seq (.block (.seq (rq2 rfl rfl (mV rfl rfl (aS rfl rfl (.nil (.code (.seq (Wk.draw (mc:=⟨false,false⟩) [0,1,2,3,4,5,6,7] Fx.mix (by kernel_rfl) ?_)))))))))))
  refine mV rfl rfl (iA rfl .no Fx.ar503 (.u rfl) (.u rfl) (fun _=>by omega) (fun _=>by omega) ?_)
  refine ld rfl .no Fx.ag344 (.u rfl) (fun _=>Rd.own tk1 (wa_at1 i (by omega) (by omega))) ?_
  refine mV rfl rfl (iA rfl .no Fx.ar503 (.u rfl) (.u rfl) (fun _=>by omega) (fun _=>by omega) ?_)
  refine ld rfl .no Fx.ag344 (.u rfl) (fun _=>Rd.own tk2 (wa_at1 i (by omega) (by omega))) ?_
  refine bw (k:=.u32) rfl .no rfl (.u rfl) (.u rfl) rfl (aS rfl rfl (.nil (.code (.seq (rq1 rfl rfl (mV rfl rfl (.nil (.code (.block ?_)))))))))
  refine Wk.lop (α:=Nat) (fun c=>[(12,true,U (chaW key nonce count i >>> (8*c))),(145,true,.int .i64 (c:Int))]) (fun c=>[.blk b10 (cl (ba 64 (outs (chaB key nonce count) (4*i+c))) 470)])
   (fun c Gl=>c≤4) (fun c=>4-c) 0 [(6,true,_),(7,true,_),(8,true,_),(10,true,_),(11,true,_),(135,true,_)] [.blk b8 _,.blk b7 _,.blk b4 _,.blk b3 _,.blk b6 _]
   (esC rfl shr_zero' (esD rfl (esD rfl (esD rfl (esD rfl (esD rfl (esD rfl (esD rfl eZ))))))))
   (mS .here rfl (mS .here rfl (mS .here rfl (mS .here rfl (mS .here rfl (mS .here rfl mN)))))) ?_ ?_
  ·show 0≤4; omega
  intro c N3 Gl3 hN3 hGl3 hF3
  try dsimp only at hF3 hN3 ⊢
  have hc:c≤4:=hF3
  refine .seq (rq1 rfl rfl (cp rfl .no (.u rfl) (.u rfl) rfl (.nil (.code (.seq (.cond rfl (fun c4=>?_) (fun c4=>?_)))))))
  ·have c4k:=c4
   try simp only [qcA] at c4
   refine .skip (.code (.seq (.block (.seq (rq2 rfl rfl (mV rfl rfl (aS rfl rfl (.nil (.code (.seq (rq8 rfl rfl (mV rfl rfl (ar rfl .no (.u rfl) (.u rfl) rfl (fun _=>wrap_i64 (by omega) (by omega)) ?_)))))))))))))
   refine mV rfl rfl (ar rfl .no (.u rfl) (.u rfl) rfl (fun _=>wrap_i64 (by omega) (by omega)) ?_)
   refine mV rfl rfl (cu (k:=.u32) rfl .no rfl Fx.cv344_5 (.u rfl) ?_)
   refine iA rfl .no Fx.ar470 (.u rfl) (.u rfl) (fun _=>by omega) (fun _=>by omega) ?_
   refine s1 rfl (.u rfl) (.u rfl) rfl Fx.sz5 .here (by rw [ba_len]; omega) (ba_set1 (4*i+c) (by omega)) ?_
   refine .nil (.code (rq3 rfl rfl (mV rfl rfl (rw' (k:=.u32) rfl .no (.u rfl) (.u rfl) (fun _=>by decide) ?_))))
   refine aS rfl rfl (.nil (.blk (.code (rq2 rfl rfl (ar rfl .no (.u rfl) (.u rfl) rfl (fun _=>wrap_i64 (by omega) (by omega)) ?_)))))
   refine mV rfl rfl (.nil (We.lpo (c+1) ?_ ?_ ?_ ?_ ?_))
   ·exact (esC rfl shr_next (esD rfl (esD rfl (esD rfl (esD rfl (esD rfl (esD rfl (esD rfl eZ))))))))
   ·exact (mS .here (out_put (by omega)) (mS .here rfl (mS .here rfl (mS .here rfl (mS .here rfl (mS .here rfl mN))))))
   ·first|omega|(dsimp only; omega)
   ·exact hGl3
   show c+1≤4; omega
  have c4k:=c4
  try simp only [qcA] at c4
  refine .exit (.xcode (.xlp (.xblk (.blk (.code (rq2 rfl rfl (ar rfl .no (.u rfl) (.u rfl) rfl (fun _=>wrap_i64 (by omega) (by omega)) ?_)))))))
  refine mV rfl rfl (.nil ?_)
  obtain rfl:c=4:=by omega
  refine We.lpo (i+1) ?_ ?_ ?_ ?_ ?_
  ·exact (esD rfl (esD rfl (esD rfl (esD rfl (esD rfl eZ)))))
  ·exact (mS .here rfl (mS .here rfl (mS .here rfl (mS .here rfl (mS .here rfl (mS .here rfl mN))))))
  ·first|omega|(dsimp only; omega)
  ·exact hGl2.trans hGl3
  show i+1≤16; omega
 have c3k:=c3
 try simp only [qcA] at c3
 refine .exit (.xcode (.xlp (.xblk (.code (.seq (rq2 rfl rfl (lA rfl .no Fx.ag470 (.u rfl) (fun _=>RdN.own .here) (fun _=>rfl) ?_)))))))
 refine sw rfl (.u rfl) (.u rfl) rfl Fx.sz470 tk5 rfl (ba_one _ _) ?_
 refine .nil (.code (.ret (We.fin0 Tryz.results380 (.cell rfl (fun w hw=>run_loadVarN Fx.ag470 (RdN.own .here) rfl hw) .nil) ?_)))
 obtain rfl:i=16:=by omega
 exact ⟨rfl,by rw [ba_congr (fun i hi=>(outs_eq (chaB key nonce count) hi).symm)]; rfl⟩
namespace Fx
theorem zq511:zrL Tryz.prog 511=some (wa 64 (fun _=>0#32)):=by kernel_rfl
theorem sn25:(slE Tryz.prog 25).isSome=true:=by kernel_rfl
theorem ar511:arE Tryz.prog 511=some (64,344,1):=by kernel_rfl
theorem go396:goFn Tryz.prog 396=true:=by kernel_rfl
theorem fo463_0:fOff Tryz.prog 463 0=some 0:=by kernel_rfl
theorem ar461:arE Tryz.prog 461=some (8,344,1):=by kernel_rfl
theorem bp461_0_1_2_3_4_5_6_7:bPl Tryz.prog 461 [0,1,2,3,4,5,6,7]=some ([.int .u32 0,.int .u32 0,.int .u32 0,.int .u32 0,.int .u32 0,.int .u32 0,.int .u32 0,.int .u32 0],[(0,1),(1,1),(2,1),(3,1),(4,1),(5,1),(6,1),(7,1)]):=by kernel_rfl
end Fx
theorem right_ok (x:W) (k:Nat) (G:PM) (hk:k∈[2,6,7,11,13,17,18,19,22,25]):Ct Tryz.prog 396 ([U x,.int .i64 (k:Int)]:List Value).toArray G [] (fun _ μ' u=>μ'=[]∧u=U (rotr x k)):=by
 refine Ct.of Tryz.func396 rfl Tryz.ntmps396 rfl fun w0 hs0=>?_
 have hk2:k≤31:=by simp only [List.mem_cons,List.not_mem_nil,or_false] at hk; omega
 refine .seq (rq1 rfl rfl (aS rfl rfl (.nil (.code (.seq (rq5 rfl rfl (mV rfl rfl (mV rfl rfl (ng rfl .no (.u rfl) (fun _=>wrap_i64 (by omega) (by omega)) ?_)))))))))
 refine kv rfl .no Fx.go228 (Evc rfl (Evc rfl Evn)) (fun _=>rot_ok _ _ _) ?_
 refine aS rfl rfl (.nil (.code (.ret (We.fin0 Tryz.results396 (.tmp rfl .nil) ?_))))
 exact ⟨rfl,by rw [← rotI_neg hk]; rfl⟩
set_option maxHeartbeats 1000000 in
theorem block_ok (s:Nat→W) (xs:List Y) (h:Sh) (vp nn:Value) (bs:Nat) (G:PM) (hs:SlR G 1 encY h xs) (hK:RdNP G 6 0 (wa 64 kW)) (hl:64≤xs.length):Ct Tryz.prog 383 ([.pointer (some ⟨bs,0,none⟩),h.val xs.length]:List Value).toArray G [.blk bs (cl (wa 8 s++[vp,nn]) 463)] (fun _ μ' u=>μ'=[.blk bs (cl (wa 8 (shaC s (fun i=>xs.getD i 0))++[vp,nn]) 463)]∧u=.tuple #[]):=by
 refine Ct.of Tryz.func383 rfl Tryz.ntmps383 rfl fun w0 hs0=>?_
 refine .seq (rq1 rfl rfl ?_)
 refine al rfl Fx.zq511 ?_; intro b4
 refine .nil (.code (.seq (.seq (rq1 rfl rfl (mV rfl rfl (.nil (.code (.block ?_))))))))
 refine Wk.lop (α:=Nat×(Nat→W)) (fun gh=>[(24,true,.int .i64 (gh.1:Int))]) (fun gh=>[.blk b4 (cl (wa 64 gh.2) 511)])
  (fun gh Gl=>(gh.1≤16)∧(gh.2=w16 (fun i=>xs.getD i 0) gh.1)) (fun gh=>16-gh.1) (0,fun _=>0#32) [(0,true,_),(1,true,_),(4,true,_)] [_]
  (esC rfl (by first|rfl|exact evi (by omega)) (esD rfl (esD rfl (esD rfl eZ))))
  (mS .here rfl (mS .here rfl mN)) ?_ ?_
 ·refine ⟨?_,?_⟩
  ·(try dsimp only)<;>(first|omega|rfl|assumption|(simp; done))
  (try dsimp only)<;>(first|omega|rfl|assumption|(simp; done))
 intro gh N0 Gl0 hN0 hGl0 hF0
 obtain ⟨k,y⟩:=gh; dsimp only at hF0 hN0 ⊢
 obtain ⟨hk,ey⟩:=hF0
 have hs:=hs.mono hGl0
 have hK:=hK.mono hGl0
 refine .seq (rq1 rfl rfl (cp rfl .no (.u rfl) (.u rfl) rfl (.nil (.code (.seq (.cond rfl (fun c1=>?_) (fun c1=>?_)))))))
 ·have c1k:=c1
  try simp only [qcA,qcB] at c1
  refine .skip (.code (.seq (.block (.seq (rq2 rfl rfl (mV rfl rfl (aS rfl rfl (.nil (.code (.seq (rq9 rfl rfl (mV rfl rfl (mV rfl rfl (arn (((4*k):Nat):Int) rfl .no (.u rfl) (.u rfl) rfl (fun _=>by omega) (fun _=>wrap_i64 (by omega) (by omega)) ?_))))))))))))))
  refine mV rfl rfl (arn (((4*k):Nat):Int) rfl .no (.u rfl) (.u rfl) rfl (fun _=>by omega) (fun _=>wrap_i64 (by omega) (by omega)) ?_)
  refine arn ((((4*k)+4):Nat):Int) rfl .no (.u rfl) (.u rfl) rfl (fun _=>by omega) (fun _=>wrap_i64 (by omega) (by omega)) ?_
  refine kS ((4*k)) (((4*k)+4)) rfl .no Fx.se25 hs (.u rfl) (.u rfl) (.u rfl) (fun _=>by omega) (fun _=>by omega) (fun _=>by omega) (fun _=>by omega) ?_
  intro h33 L33 eL33 lL33 hs33
  have lL33:=lL33 rfl
  refine ln rfl .no Fx.sn25 (.u rfl) (mV rfl rfl (.nil (.code (.block ?_))))
  refine Wk.lop (α:=Nat×(Nat→W)) (fun gh=>[(35,true,.int .i64 (gh.1:Int))]) (fun gh=>[.blk b4 (cl (wa 64 gh.2) 511)])
   (fun gh Gl=>(gh.1≤4)∧(gh.2=upd y k (shB (fun i=>xs.getD i 0) k gh.1))) (fun gh=>4-gh.1) (0,y) [(0,true,_),(1,true,_),(4,true,_),(5,true,_),(24,true,_),(33,true,_),(34,true,_)] [_]
   (esC rfl (by first|rfl|exact evi (by omega)) (esD rfl (esD rfl (esD rfl (esD rfl (esD rfl (esD rfl (esD rfl eZ))))))))
   (mS .here rfl (mS .here rfl mN)) ?_ ?_
  ·refine ⟨?_,?_⟩
   ·(try dsimp only)<;>(first|omega|rfl|assumption|(simp; done))
   (try dsimp only)<;>(rw [ey]; exact (upd_w16 _ (Nat.le_refl k)).symm)
  intro gh N1 Gl1 hN1 hGl1 hF1
  obtain ⟨c,y2⟩:=gh; dsimp only at hF1 hN1 ⊢
  obtain ⟨hc,ey2⟩:=hF1
  have hK:=hK.mono hGl1
  have hs33:=hs33.mono hGl1
  refine .seq (rq1 rfl rfl (cp rfl .no (.u rfl) (.u rfl) rfl (.nil (.code (.seq (.cond rfl (fun c2=>?_) (fun c2=>?_)))))))
  ·have c2k:=c2
   try simp only [qcA,qcB] at c2
   refine .skip (.code (.seq (.block (.seq (rq3 rfl rfl (ih rfl .no Fx.se25 (.u rfl) (.u rfl) (fun _=>by omega) (fun _=>by omega) (fun _=>hs33.nn (k:=c) (by omega)) ?_))))))
   refine ld rfl .no Fx.ag5 (.u rfl) (fun _=>(hs33.yat (c) (by omega) (by omega)).rd) ?_
   refine aS rfl rfl (.nil (.code (rq10 rfl rfl (mV rfl rfl (mV rfl rfl (iA rfl .no Fx.ar511 (.u rfl) (.u rfl) (fun _=>by omega) (fun _=>by omega) ?_))))))
   refine ld rfl .no Fx.ag344 (.u rfl) (fun _=>Rd.own .here (by first|exact wa_at1 (k) (by omega) (by omega)|exact ba_at1 (k) (by omega) (by omega)|exact wap_at1 (k) (by omega) (by omega)|rfl)) ?_
   refine lw (k:=.u32) rfl .no rfl (.u rfl) (.u rfl) (fun _=>by decide) ?_
   refine mV rfl rfl (cu (k:=.u8) rfl .no rfl Fx.cv5_344 (.u rfl) ?_)
   refine bw (k:=.u32) rfl .no rfl (.u rfl) (.u rfl) rfl (iA rfl .no Fx.ar511 (.u rfl) (.u rfl) (fun _=>by omega) (fun _=>by omega) ?_)
   refine s1 rfl (.u rfl) (.u rfl) rfl Fx.sz344 .here (by first|decide|(simp only [wa_len,ba_len,qlA]; omega)) (by first|exact wa_set1 (k) (by omega)|exact ba_set1 (k) (by omega)|exact wap_set1 (k) (by omega) (by omega)|rfl) ?_
   refine .nil (.blk (.code (rq2 rfl rfl (arn (((c+1):Nat):Int) rfl .no (.u rfl) (.u rfl) rfl (fun _=>by omega) (fun _=>wrap_i64 (by omega) (by omega)) ?_))))
   refine mV rfl rfl (.nil (We.lpo (c+1,upd y2 k (y2 k <<< Int.toNat 8 ||| BitVec.setWidth 32 (L33.getD c 0))) ?_ ?_ ?_ ?_ ?_))
   ·exact (esC rfl (by first|rfl|exact evi (by omega)) (esD rfl (esD rfl (esD rfl (esD rfl (esD rfl (esD rfl (esD rfl eZ))))))))
   ·exact (mS .here rfl (mS .here rfl mN))
   ·first|omega|(dsimp only; omega)
   ·exact hGl1
   refine ⟨?_,?_⟩
   ·(try dsimp only)<;>(first|omega|rfl|assumption|(simp; done))
   (try dsimp only)<;>(rw [ey2,upd_at,upd_upd,shB,eL33,getD_part (by omega)]; rfl)
  have c2k:=c2
  try simp only [qcA,qcB] at c2
  refine .exit (.xcode (.xlp (.xblk (.blk (.code (rq2 rfl rfl (arn (((k+1):Nat):Int) rfl .no (.u rfl) (.u rfl) rfl (fun _=>by omega) (fun _=>wrap_i64 (by omega) (by omega)) ?_)))))))
  refine mV rfl rfl (.nil (We.lpo (k+1,y2) ?_ ?_ ?_ ?_ ?_))
  ·exact (esC rfl (by first|rfl|exact evi (by omega)) (esD rfl (esD rfl (esD rfl eZ))))
  ·exact (mS .here rfl (mS .here rfl mN))
  ·first|omega|(dsimp only; omega)
  ·exact (hGl0).trans hGl1
  refine ⟨?_,?_⟩
  ·(try dsimp only)<;>(first|omega|rfl|assumption|(simp; done))
  (try dsimp only)<;>(obtain rfl:c=4:=(by omega); rw [ey2,ey,shB_four]; rfl)
 have c1k:=c1
 try simp only [qcA,qcB] at c1
 refine .exit (.xcode (.xlp (.xblk (.code (.seq (.seq ?_))))))
 obtain rfl:k=16:=by omega
 refine rq1 rfl rfl (aS rfl rfl (.nil (.code (.block ?_))))
 refine Wk.lop (α:=Nat×(Nat→W)) (fun gh=>[(8,true,.int .i64 ((16+gh.1:Nat):Int))]) (fun gh=>[.blk b4 (cl (wa 64 gh.2) 511)])
  (fun gh Gl=>(gh.1≤48)∧(gh.2=sched (fun i=>xs.getD i 0) gh.1)) (fun gh=>48-gh.1) (0,_) [(0,true,_),(4,true,_)] [_]
  (esC rfl (by first|rfl|exact evi (by omega)) (esD rfl (esD rfl eZ)))
  (mS .here rfl (mS .here rfl mN)) ?_ ?_
 ·refine ⟨?_,?_⟩
  ·(try dsimp only)<;>(first|omega|rfl|assumption|(simp; done))
  (try dsimp only)<;>(first|omega|rfl|assumption|(simp; done))
 intro gh N2 Gl2 hN2 hGl2 hF2
 obtain ⟨k1,y⟩:=gh; dsimp only at hF2 hN2 ⊢
 obtain ⟨hk1,ey⟩:=hF2
 have hK:=hK.mono hGl2
 refine .seq (.seq (rq2 rfl rfl (mV rfl rfl (cp rfl .no (.u rfl) (.u rfl) rfl (.nil (.code (.cond rfl (fun c3=>?_) (fun c3=>?_))))))))
 ·have c3k:=c3
  try simp only [qcA,qcB] at c3
  refine .skip (.code (.seq (.block (.seq (Wk.draw (mc:=⟨false,false⟩) [0,1,2,3,4,5,6,7,8,9] Fx.mix (by kernel_rfl) ?_)))))
  refine mV rfl rfl (arn (((1+k1):Nat):Int) rfl .no (.u rfl) (.u rfl) rfl (fun _=>by omega) (fun _=>wrap_i64 (by omega) (by omega)) ?_)
  refine iA rfl .no Fx.ar511 (.u rfl) (.u rfl) (fun _=>by omega) (fun _=>by omega) ?_
  refine ld rfl .no Fx.ag344 (.u rfl) (fun _=>Rd.own .here (by first|exact wa_at1 ((1+k1)) (by omega) (by omega)|exact ba_at1 ((1+k1)) (by omega) (by omega)|exact wap_at1 ((1+k1)) (by omega) (by omega)|rfl)) ?_
  refine mV rfl rfl (arn (((14+k1):Nat):Int) rfl .no (.u rfl) (.u rfl) rfl (fun _=>by omega) (fun _=>wrap_i64 (by omega) (by omega)) ?_)
  refine iA rfl .no Fx.ar511 (.u rfl) (.u rfl) (fun _=>by omega) (fun _=>by omega) ?_
  refine ld rfl .no Fx.ag344 (.u rfl) (fun _=>Rd.own .here (by first|exact wa_at1 ((14+k1)) (by omega) (by omega)|exact ba_at1 ((14+k1)) (by omega) (by omega)|exact wap_at1 ((14+k1)) (by omega) (by omega)|rfl)) ?_
  refine aS rfl rfl (aS rfl rfl (.nil (.code (Wk.draw (mc:=⟨false,false⟩) [0,1,2,3,4,5,6,7,8,9,10,12,15,16,19,21,24,25,11,13,14,17,18,20,22,23,26,27,28,29] Fx.mix (by kernel_rfl) ?_))))
  refine mV rfl rfl (mV rfl rfl (arn ((k1:Nat):Int) rfl .no (.u rfl) (.u rfl) rfl (fun _=>by omega) (fun _=>wrap_i64 (by omega) (by omega)) ?_))
  refine iA rfl .no Fx.ar511 (.u rfl) (.u rfl) (fun _=>by omega) (fun _=>by omega) ?_
  refine ld rfl .no Fx.ag344 (.u rfl) (fun _=>Rd.own .here (by first|exact wa_at1 (k1) (by omega) (by omega)|exact ba_at1 (k1) (by omega) (by omega)|exact wap_at1 (k1) (by omega) (by omega)|rfl)) ?_
  refine mV rfl rfl (arn (((9+k1):Nat):Int) rfl .no (.u rfl) (.u rfl) rfl (fun _=>by omega) (fun _=>wrap_i64 (by omega) (by omega)) ?_)
  refine iA rfl .no Fx.ar511 (.u rfl) (.u rfl) (fun _=>by omega) (fun _=>by omega) ?_
  refine ld rfl .no Fx.ag344 (.u rfl) (fun _=>Rd.own .here (by first|exact wa_at1 ((9+k1)) (by omega) (by omega)|exact ba_at1 ((9+k1)) (by omega) (by omega)|exact wap_at1 ((9+k1)) (by omega) (by omega)|rfl)) ?_
  refine bw (k:=.u32) rfl .no rfl (.u rfl) (.u rfl) rfl (mV rfl rfl (mV rfl rfl (mV rfl rfl (rw' (k:=.u32) rfl .no (.u rfl) (.u rfl) (fun _=>by decide) ?_))))
  refine mV rfl rfl (mV rfl rfl (mV rfl rfl (rw' (k:=.u32) rfl .no (.u rfl) (.u rfl) (fun _=>by decide) ?_)))
  refine kv rfl .no Fx.go396 (Evc rfl (Evc rfl Evn)) (fun _=>right_ok _ 7 _ (by decide)) ?_
  refine kv rfl .no Fx.go396 (Evc rfl (Evc rfl Evn)) (fun _=>right_ok _ 18 _ (by decide)) ?_
  refine bw (k:=.u32) rfl .no rfl (.u rfl) (.u rfl) rfl (bw (k:=.u32) rfl .no rfl (.u rfl) (.u rfl) rfl (bw (k:=.u32) rfl .no rfl (.u rfl) (.u rfl) rfl (kv rfl .no Fx.go396 (Evc rfl (Evc rfl Evn)) (fun _=>right_ok _ 17 _ (by decide)) ?_)))
  refine kv rfl .no Fx.go396 (Evc rfl (Evc rfl Evn)) (fun _=>right_ok _ 19 _ (by decide)) ?_
  refine bw (k:=.u32) rfl .no rfl (.u rfl) (.u rfl) rfl (bw (k:=.u32) rfl .no rfl (.u rfl) (.u rfl) rfl (bw (k:=.u32) rfl .no rfl (.u rfl) (.u rfl) rfl (iA rfl .no Fx.ar511 (.u rfl) (.u rfl) (fun _=>by omega) (fun _=>by omega) ?_)))
  refine s1 rfl (.u rfl) (.u rfl) rfl Fx.sz344 .here (by first|decide|(simp only [wa_len,ba_len,qlA]; omega)) (by first|exact wa_set1 (((16+k1:Nat))) (by omega)|exact ba_set1 (((16+k1:Nat))) (by omega)|exact wap_set1 (((16+k1:Nat))) (by omega) (by omega)|rfl) ?_
  refine .nil (.blk (.code (rq3 rfl rfl (mV rfl rfl (arn (((((16+k1:Nat))+1):Nat):Int) rfl .no (.u rfl) (.u rfl) rfl (fun _=>by omega) (fun _=>wrap_i64 (by omega) (by omega)) ?_)))))
  refine aS rfl rfl (.nil (We.lpo (k1+1,_) (esC rfl (by first|rfl|exact evi (by omega)) (esD rfl (esD rfl eZ))) (mS .here rfl (mS .here rfl mN)) ?_ ?_ ?_))
  ·first|omega|(dsimp only; omega)
  ·exact hGl2
  refine ⟨?_,?_⟩
  ·(try dsimp only)<;>(first|omega|rfl|assumption|(simp; done))
  (try dsimp only)<;>(rw [ey]; rfl)
 have c3k:=c3
 try simp only [qcA,qcB] at c3
 refine .exit (.xcode (.xlp (.xblk (.code (.seq ?_)))))
 obtain rfl:k1=48:=by omega
 refine Wk.draw (mc:=⟨false,false⟩) [0,1,2,3,4,5,6,7,8,9,10,11,12,13,14,15,16,17,18,19,20,21,22,23,24,25,26,27,28,29,30,31,32,33,34,35,36,37,38,39,40,41,42,43,44,45,46,47] Fx.mix (by kernel_rfl) ?_
 refine mV rfl rfl (nc rfl .no (.u rfl) (fz rfl .no Fx.fo463_0 (.u rfl) (iA rfl .no Fx.ar461 (.u rfl) (.u rfl) (fun _=>by decide) (fun _=>by decide) ?_)))
 refine ld rfl .no Fx.ag344 (.u rfl) (fun _=>Rd.own tk1 (by first|exact wa_at1 (0) (by omega) (by omega)|exact ba_at1 (0) (by omega) (by omega)|exact wap_at1 (0) (by omega) (by omega)|rfl)) ?_
 refine mV rfl rfl (nc rfl .no (.u rfl) (fz rfl .no Fx.fo463_0 (.u rfl) (iA rfl .no Fx.ar461 (.u rfl) (.u rfl) (fun _=>by decide) (fun _=>by decide) ?_)))
 refine ld rfl .no Fx.ag344 (.u rfl) (fun _=>Rd.own tk1 (by first|exact wa_at1 (1) (by omega) (by omega)|exact ba_at1 (1) (by omega) (by omega)|exact wap_at1 (1) (by omega) (by omega)|rfl)) ?_
 refine mV rfl rfl (nc rfl .no (.u rfl) (fz rfl .no Fx.fo463_0 (.u rfl) (iA rfl .no Fx.ar461 (.u rfl) (.u rfl) (fun _=>by decide) (fun _=>by decide) ?_)))
 refine ld rfl .no Fx.ag344 (.u rfl) (fun _=>Rd.own tk1 (by first|exact wa_at1 (2) (by omega) (by omega)|exact ba_at1 (2) (by omega) (by omega)|exact wap_at1 (2) (by omega) (by omega)|rfl)) ?_
 refine mV rfl rfl (nc rfl .no (.u rfl) (fz rfl .no Fx.fo463_0 (.u rfl) (iA rfl .no Fx.ar461 (.u rfl) (.u rfl) (fun _=>by decide) (fun _=>by decide) ?_)))
 refine ld rfl .no Fx.ag344 (.u rfl) (fun _=>Rd.own tk1 (by first|exact wa_at1 (3) (by omega) (by omega)|exact ba_at1 (3) (by omega) (by omega)|exact wap_at1 (3) (by omega) (by omega)|rfl)) ?_
 refine mV rfl rfl (nc rfl .no (.u rfl) (fz rfl .no Fx.fo463_0 (.u rfl) (iA rfl .no Fx.ar461 (.u rfl) (.u rfl) (fun _=>by decide) (fun _=>by decide) ?_)))
 refine ld rfl .no Fx.ag344 (.u rfl) (fun _=>Rd.own tk1 (by first|exact wa_at1 (4) (by omega) (by omega)|exact ba_at1 (4) (by omega) (by omega)|exact wap_at1 (4) (by omega) (by omega)|rfl)) ?_
 refine mV rfl rfl (nc rfl .no (.u rfl) (fz rfl .no Fx.fo463_0 (.u rfl) (iA rfl .no Fx.ar461 (.u rfl) (.u rfl) (fun _=>by decide) (fun _=>by decide) ?_)))
 refine ld rfl .no Fx.ag344 (.u rfl) (fun _=>Rd.own tk1 (by first|exact wa_at1 (5) (by omega) (by omega)|exact ba_at1 (5) (by omega) (by omega)|exact wap_at1 (5) (by omega) (by omega)|rfl)) ?_
 refine mV rfl rfl (nc rfl .no (.u rfl) (fz rfl .no Fx.fo463_0 (.u rfl) (iA rfl .no Fx.ar461 (.u rfl) (.u rfl) (fun _=>by decide) (fun _=>by decide) ?_)))
 refine ld rfl .no Fx.ag344 (.u rfl) (fun _=>Rd.own tk1 (by first|exact wa_at1 (6) (by omega) (by omega)|exact ba_at1 (6) (by omega) (by omega)|exact wap_at1 (6) (by omega) (by omega)|rfl)) ?_
 refine mV rfl rfl (nc rfl .no (.u rfl) (fz rfl .no Fx.fo463_0 (.u rfl) (iA rfl .no Fx.ar461 (.u rfl) (.u rfl) (fun _=>by decide) (fun _=>by decide) ?_)))
 refine ld rfl .no Fx.ag344 (.u rfl) (fun _=>Rd.own tk1 (by first|exact wa_at1 (7) (by omega) (by omega)|exact ba_at1 (7) (by omega) (by omega)|exact wap_at1 (7) (by omega) (by omega)|rfl)) ?_
 refine aS rfl rfl (aS rfl rfl (aS rfl rfl (aS rfl rfl (aS rfl rfl (aS rfl rfl (aS rfl rfl (aS rfl rfl (.nil (.code (.seq (.seq (rq1 rfl rfl (mV rfl rfl (.nil (.code (.block ?_))))))))))))))))
 refine Wk.lop (α:=Nat×(Nat→W)) (fun gh=>[(11,true,U (gh.2 0)),(12,true,U (gh.2 1)),(13,true,U (gh.2 2)),(14,true,U (gh.2 3)),(15,true,U (gh.2 4)),(16,true,U (gh.2 5)),(17,true,U (gh.2 6)),(18,true,U (gh.2 7)),(131,true,.int .i64 (gh.1:Int))]) (fun _=>[])
  (fun gh Gl=>(gh.1≤64)∧(gh.2=rnds y s gh.1)) (fun gh=>64-gh.1) (0,s) [(0,true,_),(4,true,_)] [_,_]
  (esD rfl (esD rfl (esD rfl (esD rfl (esD rfl (esD rfl (esD rfl (esD rfl (esC rfl (by first|rfl|exact evi (by omega)) (esD rfl (esD rfl eZ)))))))))))
  (mS .here rfl (mS .here rfl mN)) ?_ ?_
 ·refine ⟨?_,?_⟩
  ·(try dsimp only)<;>(first|omega|rfl|assumption|(simp; done))
  (try dsimp only)<;>(first|omega|rfl|assumption|(simp; done))
 intro gh N3 Gl3 hN3 hGl3 hF3
 obtain ⟨k2,x⟩:=gh; dsimp only at hF3 hN3 ⊢
 obtain ⟨hk2,ex⟩:=hF3
 have hK:=hK.mono hGl3
 refine .seq (rq1 rfl rfl (cp rfl .no (.u rfl) (.u rfl) rfl (.nil (.code (.seq (.cond rfl (fun c4=>?_) (fun c4=>?_)))))))
 ·have c4k:=c4
  try simp only [qcA,qcB] at c4
  refine .skip (.code (.seq (.block (.seq (rq2 rfl rfl (mV rfl rfl (aS rfl rfl (.nil (.code (.seq (Wk.draw (mc:=⟨false,false⟩) [0,1,3,6,10,11,12,13,14,15,16,18,19,20,22,23,24,2,4,5,7,8,9,17,21,25,26] Fx.mix (by kernel_rfl) ?_)))))))))))
  refine mV rfl rfl (mV rfl rfl (mV rfl rfl (mV rfl rfl (mV rfl rfl (mV rfl rfl (mV rfl rfl (mV rfl rfl (bw (k:=.u32) rfl .no rfl (.u rfl) (.u rfl) rfl (bw (k:=.u32) rfl .no rfl (.u rfl) (.u rfl) rfl (bw (k:=.u32) rfl .no rfl (.u rfl) (.u rfl) rfl (mV rfl rfl (iA rfl .no Fx.ar511 (.u rfl) (.u rfl) (fun _=>by omega) (fun _=>by omega) ?_))))))))))))
  refine ld rfl .no Fx.ag344 (.u rfl) (fun _=>(hK.wat (k2) (by omega) (by omega)).rd) ?_
  refine mV rfl rfl (iA rfl .no Fx.ar511 (.u rfl) (.u rfl) (fun _=>by omega) (fun _=>by omega) ?_)
  refine ld rfl .no Fx.ag344 (.u rfl) (fun _=>Rd.own .here (by first|exact wa_at1 (k2) (by omega) (by omega)|exact ba_at1 (k2) (by omega) (by omega)|exact wap_at1 (k2) (by omega) (by omega)|rfl)) ?_
  refine kv rfl .no Fx.go396 (Evc rfl (Evc rfl Evn)) (fun _=>right_ok _ 6 _ (by decide)) ?_
  refine kv rfl .no Fx.go396 (Evc rfl (Evc rfl Evn)) (fun _=>right_ok _ 11 _ (by decide)) ?_
  refine bw (k:=.u32) rfl .no rfl (.u rfl) (.u rfl) rfl (kv rfl .no Fx.go396 (Evc rfl (Evc rfl Evn)) (fun _=>right_ok _ 25 _ (by decide)) ?_)
  refine bw (k:=.u32) rfl .no rfl (.u rfl) (.u rfl) rfl (bw (k:=.u32) rfl .no rfl (.u rfl) (.u rfl) rfl (bw (k:=.u32) rfl .no rfl (.u rfl) (.u rfl) rfl (bw (k:=.u32) rfl .no rfl (.u rfl) (.u rfl) rfl (bw (k:=.u32) rfl .no rfl (.u rfl) (.u rfl) rfl (aS rfl rfl (.nil (.code (.seq (Wk.rg [0,1,2,3,4,5,6,7,8,9,10,11,12,13,14,15,16,17,18] rfl rfl (mV rfl rfl (kv rfl .no Fx.go396 (Evc rfl (Evc rfl Evn)) (fun _=>right_ok _ 2 _ (by decide)) ?_)))))))))))
  refine mV rfl rfl (kv rfl .no Fx.go396 (Evc rfl (Evc rfl Evn)) (fun _=>right_ok _ 13 _ (by decide)) ?_)
  refine bw (k:=.u32) rfl .no rfl (.u rfl) (.u rfl) rfl (mV rfl rfl (kv rfl .no Fx.go396 (Evc rfl (Evc rfl Evn)) (fun _=>right_ok _ 22 _ (by decide)) ?_))
  refine bw (k:=.u32) rfl .no rfl (.u rfl) (.u rfl) rfl (mV rfl rfl (mV rfl rfl (bw (k:=.u32) rfl .no rfl (.u rfl) (.u rfl) rfl (mV rfl rfl (mV rfl rfl (mV rfl rfl (bw (k:=.u32) rfl .no rfl (.u rfl) (.u rfl) rfl (bw (k:=.u32) rfl .no rfl (.u rfl) (.u rfl) rfl (bw (k:=.u32) rfl .no rfl (.u rfl) (.u rfl) rfl (bw (k:=.u32) rfl .no rfl (.u rfl) (.u rfl) rfl (aS rfl rfl (.nil (.code (Wk.rg [0,1,2,3,4,5,6,7,8,9,10,11,12,13,14,15,16,17,18,19] rfl rfl (mV rfl rfl (mV rfl rfl (bw (k:=.u32) rfl .no rfl (.u rfl) (.u rfl) rfl (mV rfl rfl (mV rfl rfl (mV rfl rfl (mV rfl rfl (mV rfl rfl (bw (k:=.u32) rfl .no rfl (.u rfl) (.u rfl) rfl (mV rfl rfl (mV rfl rfl (mV rfl rfl (aS rfl rfl (aS rfl rfl (aS rfl rfl (aS rfl rfl (aS rfl rfl (aS rfl rfl (aS rfl rfl (aS rfl rfl (.nil (.blk (.code (rq2 rfl rfl (arn (((k2+1):Nat):Int) rfl .no (.u rfl) (.u rfl) rfl (fun _=>by omega) (fun _=>wrap_i64 (by omega) (by omega)) ?_)))))))))))))))))))))))))))))))))))))))
  refine mV rfl rfl (.nil (We.lpo (k2+1,rndW x (kW k2) (y k2)) ?_ ?_ ?_ ?_ ?_))
  ·exact (esD rfl (esD rfl (esD rfl (esD rfl (esD rfl (esD rfl (esD rfl (esD rfl (esC rfl (by first|rfl|exact evi (by omega)) (esD rfl (esD rfl eZ)))))))))))
  ·exact (mS .here rfl (mS .here rfl mN))
  ·first|omega|(dsimp only; omega)
  ·exact hGl3
  refine ⟨?_,?_⟩
  ·(try dsimp only)<;>(first|omega|rfl|assumption|(simp; done))
  (try dsimp only)<;>(rw [ex]; rfl)
 have c4k:=c4
 try simp only [qcA,qcB] at c4
 refine .exit (.xcode (.xlp (.xblk (.code (.seq ?_)))))
 obtain rfl:k2=64:=by omega
 refine rq10 rfl rfl (mV rfl rfl (mV rfl rfl (mV rfl rfl (mV rfl rfl (mV rfl rfl (mV rfl rfl (mV rfl rfl (mV rfl rfl (bCe (wa 8 x) rfl .no Fx.bp461_0_1_2_3_4_5_6_7 (.cons (.u rfl) rfl (.cons (.u rfl) rfl (.cons (.u rfl) rfl (.cons (.u rfl) rfl (.cons (.u rfl) rfl (.cons (.u rfl) rfl (.cons (.u rfl) rfl (.cons (.u rfl) rfl .nil)))))))) rfl (by simp [bFold,put,wa,List.range_succ]) ?_)))))))))
 refine mV rfl rfl (.nil (.code (.block ?_)))
 refine Wk.lop (α:=Nat×(Nat→W)) (fun gh=>[(200,true,.int .i64 (gh.1:Int))]) (fun gh=>[.blk bs (cl (wa 8 gh.2++[vp,nn]) 463)])
  (fun gh Gl=>(gh.1≤8)∧(gh.2=fun i=>if i<gh.1 then s i+x i else s i)) (fun gh=>8-gh.1) (0,s) [(0,true,_),(199,true,_)] [_]
  (esC rfl (by first|rfl|exact evi (by omega)) (esD rfl (esD rfl eZ)))
  (mS tk1 rfl (mS .here rfl mN)) ?_ ?_
 ·refine ⟨?_,?_⟩
  ·(try dsimp only)<;>(first|omega|rfl|assumption|(simp; done))
  (try dsimp only)<;>(funext i; simp)
 intro gh N4 Gl4 hN4 hGl4 hF4
 obtain ⟨k3,z⟩:=gh; dsimp only at hF4 hN4 ⊢
 obtain ⟨hk3,ez⟩:=hF4
 refine .seq (rq1 rfl rfl (cp rfl .no (.u rfl) (.u rfl) rfl (.nil (.code (.seq (.cond rfl (fun c5=>?_) (fun c5=>?_)))))))
 ·have c5k:=c5
  try simp only [qcA,qcB] at c5
  refine .skip (.code (.seq (.block (.seq (rq4 rfl rfl (mV rfl rfl (ix rfl .no Fx.ar461 Fx.ag344 (.u rfl) (.u rfl) (fun _=>by omega) (fun _=>by omega) (fun _=>wa_at (n:=8) (y:=x) (j:=k3) (by omega)) ?_)))))))
  refine aS rfl rfl (aS rfl rfl (.nil (.code (Wk.draw (mc:=⟨false,false⟩) [0,1,2,3,4,5,6,7,8,9,10,11] Fx.mix (by kernel_rfl) ?_))))
  refine mV rfl rfl (mV rfl rfl (nc rfl .no (.u rfl) (fz rfl .no Fx.fo463_0 (.u rfl) (iA rfl .no Fx.ar461 (.u rfl) (.u rfl) (fun _=>by omega) (fun _=>by omega) ?_))))
  refine ld rfl .no Fx.ag344 (.u rfl) (fun _=>Rd.own .here (by first|exact wa_at1 (k3) (by omega) (by omega)|exact ba_at1 (k3) (by omega) (by omega)|exact wap_at1 (k3) (by omega) (by omega)|rfl)) ?_
  refine mV rfl rfl (bw (k:=.u32) rfl .no rfl (.u rfl) (.u rfl) rfl (nc rfl .no (.u rfl) (fz rfl .no Fx.fo463_0 (.u rfl) (iA rfl .no Fx.ar461 (.u rfl) (.u rfl) (fun _=>by omega) (fun _=>by omega) ?_))))
  refine s1 rfl (.u rfl) (.u rfl) rfl Fx.sz344 .here (by first|decide|(simp only [wa_len,ba_len,qlA]; omega)) (by first|exact wa_set1 (k3) (by omega)|exact ba_set1 (k3) (by omega)|exact wap_set1 (k3) (by omega) (by omega)|rfl) ?_
  refine .nil (.blk (.code (rq2 rfl rfl (arn (((k3+1):Nat):Int) rfl .no (.u rfl) (.u rfl) rfl (fun _=>by omega) (fun _=>wrap_i64 (by omega) (by omega)) ?_))))
  refine mV rfl rfl (.nil (We.lpo (k3+1,_) (esC rfl (by first|rfl|exact evi (by omega)) (esD rfl (esD rfl eZ))) (mS .here rfl (mS .here rfl mN)) ?_ ?_ ?_))
  ·first|omega|(dsimp only; omega)
  ·exact hGl4
  refine ⟨?_,?_⟩
  ·(try dsimp only)<;>(first|omega|rfl|assumption|(simp; done))
  (try dsimp only)<;>(rw [ez]; exact upd_if)
 have c5k:=c5
 try simp only [qcA,qcB] at c5
 refine .exit (.xcode (.xlp (.xblk (.nil (We.fin Tryz.results383 .nil (mS .here rfl mN) ?_)))))
 obtain rfl:k3=8:=by omega
 refine ⟨?_,rfl⟩
 rw [ez,ex,ey,wa_congr (f:=fun i=>if i<8 then s i+rnds (sched (fun i=>xs.getD i 0) 48) s 64 i else s i) (f':=shaC s (fun i=>xs.getD i 0)) (fun i hi=>by rw [if_pos hi]; rfl)]
namespace Fx
theorem fo463_2:fOff Tryz.prog 463 2=some 9:=by kernel_rfl
theorem ag3:aggN Tryz.prog 3=some none:=by kernel_rfl
theorem sz3:szT Tryz.prog 3=some 1:=by kernel_rfl
theorem fo463_1:fOff Tryz.prog 463 1=some 8:=by kernel_rfl
theorem ag25:aggN Tryz.prog 25=some none:=by kernel_rfl
theorem zv5:(Tryz.prog.info? 5).bind (·.zero)=some (.int .u8 0):=by kernel_rfl
theorem sz25:szT Tryz.prog 25=some 1:=by kernel_rfl
theorem go383:goFn Tryz.prog 383=true:=by kernel_rfl
end Fx
theorem block_row (s:Nat→W) (xs:List Y) (v vp nn:Value) (bs:Nat) (G:PM) (hK:RdNP G 6 0 (wa 64 kW)) (hl:64≤xs.length):Ct Tryz.prog 383 ([.pointer (some ⟨bs,0,none⟩),v]:List Value).toArray G [rB v 5 xs,.blk bs (cl (wa 8 s++[vp,nn]) 463)] (fun _ μ' u=>∃ ν,μ'=rB v 5 xs :: ν∧ν=[.blk bs (cl (wa 8 (shaC s (fun i=>xs.getD i 0))++[vp,nn]) 463)]∧u=.tuple #[]) :=
 Ct.lendB (fun h G2 hle hv hs=>by subst hv; exact block_ok s xs h vp nn bs G2 hs (hK.mono hle) hl)
theorem st_s8 {y:Nat→W} {a b v:Value}:(wa 8 y++[a,b]).set 8 v=wa 8 y++[v,b]:=wap_s rfl
theorem st_s9 {y:Nat→W} {a b v:Value}:(wa 8 y++[a,b]).set 9 v=wa 8 y++[a,v]:=wap_s rfl
theorem st_eq {zs:List Y} {j m b T:Nat} {vp:Value} (hj:zs.length / 64=j) (hm:m=zs.length):Res.blk b (cl (wa 8 (shaW zs j)++[vp,.int .i64 (m:Int)]) T)=.blk b (cl (stC zs vp) T):=by
 subst hj; subst hm; rfl
theorem put_step {zs L:List Y} {j b T:Nat} {vq nn:Value} (eL:L=zs.drop (64*j)) (h:64≤L.length):Res.blk b (cl (wa 8 (shaC (shaW zs j) (fun i=>L.getD i 0))++[vq,nn]) T)=.blk b (cl (wa 8 (shaW zs (j+1))++[vq,nn]) T):=by
 rw [shaW,shaC_congr (b':=blkF zs j)]
 intro i hi
 rw [eL,blkF]; simp [List.getD_eq_getElem?_getD,List.getElem?_drop]
theorem put_first {xs ys L:List Y} {b T k:Nat} {vq nn:Value} (eL:L=restL xs++ys.take k) (hk:k=min (64-(restL xs).length) ys.length) (h:64≤L.length):Res.blk b (cl (wa 8 (shaC (shaW xs (xs.length / 64)) (fun i=>L.getD i 0))++[vq,nn]) T)=.blk b (cl (wa 8 (shaW (xs++ys) (xs.length / 64+1))++[vq,nn]) T):=by
 have hr:=rest_len xs
 rw [eL,List.length_append,List.length_take] at h
 rw [shaW,shaW_app (by omega),shaC_congr (b':=blkF (xs++ys) (xs.length / 64))]
 intro i hi
 rw [eL,blkF]
 simp only [List.getD_eq_getElem?_getD,List.getElem?_append,List.getElem?_take,hr]
 by_cases h1:i<xs.length%64
 ·simp [h1,restL,show 64*(xs.length / 64)+i<xs.length by omega]
 ·rw [if_neg h1,if_pos (by omega),if_neg (by omega)]
  congr 2; omega
theorem put_rest {xs ys L:List Y} (eL:L=restL xs++ys.take (min (64-(restL xs).length) ys.length)) (h:L.length<64):L=restL (xs++ys)∧(xs++ys).length / 64=xs.length / 64∧shaW (xs++ys) (xs.length / 64)=shaW xs (xs.length / 64):=by
 have hr:=rest_len xs
 rw [eL,List.length_append,List.length_take] at h
 have e:(xs++ys).length / 64=xs.length / 64:=by rw [List.length_append]; omega
 refine ⟨?_,e,shaW_app (by omega)⟩
 have h5:min (64-(restL xs).length) ys.length=ys.length:=by omega
 rw [eL,h5,List.take_length,restL,restL,e,List.drop_append_of_le_length (by omega)]
theorem put_drop {xs ys:List Y} (h:64≤(restL xs).length+ys.length):ys.drop (min (64-(restL xs).length) ys.length)=(xs++ys).drop (64*(xs.length / 64+1)):=by
 have hr:=rest_len xs
 rw [List.drop_append,List.drop_of_length_le (show xs.length≤64*(xs.length / 64+1) by omega),List.nil_append]
 congr 1; omega
theorem put_drop0 {xs ys:List Y} (h:(restL xs).length=0):ys=(xs++ys).drop (64*(xs.length / 64)):=by
 have hr:=rest_len xs
 rw [show 64*(xs.length / 64)=xs.length by omega,List.drop_left]
theorem put_zero {xs ys:List Y} {b T:Nat} {vq nn:Value} (h:(restL xs).length=0):Res.blk b (cl (wa 8 (shaW xs (xs.length / 64))++[vq,nn]) T)=.blk b (cl (wa 8 (shaW (xs++ys) (xs.length / 64))++[vq,nn]) T):=by
 rw [shaW_app (by omega)]
theorem put_ok (xs ys:List Y) (h:Sh) (vp:Value) (bs:Nat) (G:PM) (hs:SlR G 1 encY h ys) (hK:RdNP G 6 0 (wa 64 kW)) (hl:xs.length+ys.length≤4611686018427387904):Ct Tryz.prog 351 ([.pointer (some ⟨bs,0,none⟩),h.val ys.length]:List Value).toArray G [.blk bs (cl (stC xs vp) 463),rB vp 5 (restL xs)] (fun _ μ' u=>∃ vp',μ'=[.blk bs (cl (stC (xs++ys) vp') 463),rB vp' 5 (restL (xs++ys))]∧u=.tuple #[]):=by
 refine Ct.of Tryz.func351 rfl Tryz.ntmps351 rfl fun w0 hs0=>?_
 have hr:=rest_len xs
 refine .seq (rq10 rfl rfl (mV rfl rfl (nc rfl .no (.u rfl) (fz rfl .no Fx.fo463_2 (.u rfl) (ld rfl .no Fx.ag3 (.u rfl) (fun _=>Rd.own .here (by first|exact wap_f rfl|rfl)) ?_)))))
 refine mV rfl rfl (ln rfl .no Fx.sn25 (.u rfl) (arn (((xs.length+ys.length):Nat):Int) rfl .no (.u rfl) (.u rfl) rfl (fun _=>by omega) (fun _=>wrap_i64 (by omega) (by omega)) ?_))
 refine nc rfl .no (.u rfl) (fz rfl .no Fx.fo463_2 (.u rfl) (s1 rfl (.u rfl) (.u rfl) rfl Fx.sz3 .here (by first|decide|(simp only [stC,wa_len,ba_len,qlA]; omega)) (by first|exact st_s8|exact st_s9) ?_))
 refine .nil (.code (.seq (.seq (rq6 rfl rfl (mV rfl rfl (nc rfl .no (.u rfl) (fz rfl .no Fx.fo463_1 (.u rfl) (ld rfl .no Fx.ag25 (.u rfl) (fun _=>Rd.own .here (by first|exact wap_f rfl|rfl)) ?_))))))))
 refine lr rfl .no Fx.sn25 (.u rfl) tk1 ?_
 refine cp rfl .no (.u rfl) (.u rfl) rfl (.nil (.code (.cond rfl (fun c1=>?_) (fun c1=>?_))))
 ·have c1k:=c1
  try simp only [qcA,qcB] at c1
  refine .seq (rq10 rfl rfl (mV rfl rfl (nc rfl .no (.u rfl) (fz rfl .no Fx.fo463_1 (.u rfl) (ld rfl .no Fx.ag25 (.u rfl) (fun _=>Rd.own .here (by first|exact wap_f rfl|rfl)) ?_)))))
  refine lr rfl .no Fx.sn25 (.u rfl) tk1 ?_
  refine arn (((64-(restL xs).length):Nat):Int) rfl .no (.u rfl) (.u rfl) rfl (fun _=>by omega) (fun _=>wrap_i64 (by omega) (by omega)) ?_
  refine mV rfl rfl (ln rfl .no Fx.sn25 (.u rfl) (mIn ((64-(restL xs).length)) (ys.length) rfl .no (.u rfl) (.u rfl) (fun _=>by omega) (fun _=>by omega) ?_))
  refine aS rfl rfl (.nil (.code (.seq (Wk.draw (mc:=⟨false,false⟩) [0,1,2,3,4,5,6,7,8,9,10,11] Fx.mix (by kernel_rfl) ?_))))
  refine mV rfl rfl (mV rfl rfl (nc rfl .no (.u rfl) (fz rfl .no Fx.fo463_1 (.u rfl) (ld rfl .no Fx.ag25 (.u rfl) (fun _=>Rd.own .here (by first|exact wap_f rfl|rfl)) ?_))))
  refine mV rfl rfl (mV rfl rfl (kE ((min (64-(restL xs).length) ys.length)) rfl .no Fx.se25 hs (.u rfl) (.u rfl) (fun _=>by omega) (fun _=>by omega) ?_))
  intro h36 L36 eL36 lL36 hs36
  have lL36:=lL36 rfl
  refine apY rfl Fx.se25 Fx.zv5 (.u rfl) (.u rfl) tk1 hs36.sc (by (try simp only [qlA,yl_len]); omega) ?_
  intro v37 L37 ov37 eL37
  have lL37:L37.length=(restL xs).length+L36.length:=by rw [eL37,List.length_append]
  refine nc rfl .no (.u rfl) (fz rfl .no Fx.fo463_1 (.u rfl) (s1v rfl (.u rfl) (.u rfl) .here Fx.sz25 tk1 (by first|decide|(simp only [stC,wa_len,ba_len,qlA]; omega)) (by first|exact st_s8|exact st_s9) ?_))
  refine .nil (.code (.seq (rq4 rfl rfl (mV rfl rfl (mV rfl rfl (kD ((min (64-(restL xs).length) ys.length)) rfl .no Fx.se25 hs (.u rfl) (.u rfl) (fun _=>by omega) (fun _=>by omega) ?_))))))
  intro h42 L42 eL42 lL42 hs42
  have lL42:=lL42 rfl
  refine aS rfl rfl (.nil (.code (.seq (.seq (rq6 rfl rfl (mV rfl rfl (nc rfl .no (.u rfl) (fz rfl .no Fx.fo463_1 (.u rfl) (ld rfl .no Fx.ag25 (.u rfl) (fun _=>Rd.own .here (by first|exact wap_f rfl|rfl)) ?_)))))))))
  refine lr rfl .no Fx.sn25 (.u rfl) tk1 ?_
  refine cp rfl .no (.u rfl) (.u rfl) rfl (.nil (.code (.cond rfl (fun c2=>?_) (fun c2=>?_))))
  ·have c2k:=c2
   try simp only [qcA,qcB] at c2
   refine .ret (We.fin Tryz.results351 .nil (mS .here rfl (mS .here rfl mN)) ?_)
   obtain ⟨e1,e2,e3⟩:=put_rest (eL37.trans (by rw [eL36])) (by omega)
   exact ⟨v37,by rw [← e1,←e3,st_eq e2 (by simp)],rfl⟩
  have c2k:=c2
  try simp only [qcA,qcB] at c2
  refine .skip (.code (.seq (rq6 rfl rfl (mV rfl rfl (mV rfl rfl (nc rfl .no (.u rfl) (fz rfl .no Fx.fo463_1 (.u rfl) (ld rfl .no Fx.ag25 (.u rfl) (fun _=>Rd.own .here (by first|exact wap_f rfl|rfl)) ?_))))))))
  refine ka rfl (.inr rfl) Fx.go383 (Evc rfl (Evc rfl Evn)) (mtk2 tk1 .here) (block_row _ L37 _ _ _ _ _ hK (by omega)) ?_
  rintro _ G54 μ54 hG54 ⟨_,rfl,rfl,rfl⟩
  have hs:=hs.mono hG54
  have hK:=hK.mono hG54
  have hs42:=hs42.mono hG54
  refine .nil (.code (rq4 rfl rfl (mV rfl rfl (nc rfl .no (.u rfl) (fz rfl .no Fx.fo463_1 (.u rfl) (s1 rfl (.u rfl) (.u rfl) rfl Fx.sz25 tk1 (by first|decide|(simp only [stC,wa_len,ba_len,qlA]; omega)) (by first|exact st_s8|exact st_s9) ?_))))))
  refine .nil (we_nilB 5 ?_)
  refine .code (.seq (.block ?_))
  refine Wk.lop (α:=Nat×Sh×List Y×Value) (fun gh=>[(1,true,gh.2.1.val gh.2.2.1.length)]) (fun gh=>[.blk bs (cl (wa 8 (shaW (xs++ys) gh.1)++[gh.2.2.2,.int .i64 ((xs.length+ys.length:Nat):Int)]) 463)])
   (fun gh Gl=>(64*gh.1≤xs.length+ys.length)∧(gh.2.2.1=(xs++ys).drop (64*gh.1))∧(SlR Gl 1 encY gh.2.1 gh.2.2.1)) (fun gh=>gh.2.2.1.length) (xs.length / 64+1,_,_,_) [(0,true,_)] [_]
   (esD rfl (esD rfl eZ))
   (mS tk1 (put_first (eL37.trans (by rw [eL36])) rfl (by omega)) (mS .here rfl mN)) ?_ ?_
  ·refine ⟨?_,?_,?_⟩
   ·(try dsimp only)<;>(omega)
   ·(try dsimp only)<;>(rw [eL42]; exact put_drop (by omega))
   (try dsimp only)<;>(exact hs42)
  intro gh N0 Gl0 hN0 hGl0 hF0
  obtain ⟨j,h',L,vq⟩:=gh; dsimp only at hF0 hN0 ⊢
  obtain ⟨hj,eL,hL⟩:=hF0
  have hs:=hs.mono hGl0
  have hK:=hK.mono hGl0
  have lL:L.length=xs.length+ys.length-64*j:=by rw [eL]; simp
  refine .seq (.seq (rq3 rfl rfl (mV rfl rfl (ln rfl .no Fx.sn25 (.u rfl) (cp rfl .no (.u rfl) (.u rfl) rfl (.nil (.code (.cond rfl (fun c3=>?_) (fun c3=>?_)))))))))
  ·have c3k:=c3
   try simp only [qcA,qcB] at c3
   refine .skip (.code (.seq (.block (rq3 rfl rfl (mV rfl rfl (mV rfl rfl (ka rfl (.inr rfl) Fx.go383 (Evc rfl (Evc rfl Evn)) (mtk1 .here) (block_ok _ L h' _ _ _ _ hL hK (by omega)) ?_)))))))
   rintro _ G65 μ65 hG65 ⟨rfl,rfl⟩
   have hs:=hs.mono hG65
   have hK:=hK.mono hG65
   have hL:=hL.mono hG65
   refine .nil (.blk (.code (rq3 rfl rfl (mV rfl rfl (kD (64) rfl .no Fx.se25 hL (.u rfl) (.u rfl) (fun _=>by omega) (fun _=>by omega) ?_)))))
   intro h62 L62 eL62 lL62 hs62
   have lL62:=lL62 rfl
   refine aS rfl rfl (.nil (We.lpo (j+1,h62,L62,vq) ?_ ?_ ?_ ?_ ?_))
   ·exact (esD rfl (esD rfl eZ))
   ·exact (mS .here (put_step eL (by omega)) (mS .here rfl mN))
   ·first|omega|(dsimp only; omega)
   ·exact (hGl0).trans hG65
   refine ⟨?_,?_,?_⟩
   ·(try dsimp only)<;>(omega)
   ·(try dsimp only)<;>(rw [eL62,eL,List.drop_drop]; congr 1)
   (try dsimp only)<;>(exact hs62)
  have c3k:=c3
  try simp only [qcA,qcB] at c3
  refine .exit (.xcode (.xlp (.xblk (.code (rq7 rfl rfl (mV rfl rfl ?_))))))
  refine b0B rfl Fx.se25 ?_; intro b67
  refine mV rfl rfl (apY0 rfl Fx.se25 Fx.zv5 (.u rfl) (.u rfl) .here hL.sc (by (try simp only [qlA,yl_len]); omega) ?_)
  intro v69 L69 _ ov69 eL69
  have lL69:L69.length=L.length:=by rw [eL69]
  refine nc rfl .no (.u rfl) (fz rfl .no Fx.fo463_1 (.u rfl) (s1v rfl (.u rfl) (.u rfl) .here Fx.sz25 tk1 (by first|decide|(simp only [stC,wa_len,ba_len,qlA]; omega)) (by first|exact st_s8|exact st_s9) ?_))
  refine .nil (.nil (We.fin Tryz.results351 .nil (mS .here rfl (mS .here rfl mN)) ?_))
  have ej:(xs++ys).length / 64=j:=by rw [List.length_append]; omega
  exact ⟨v69,by rw [st_eq ej (by simp),eL69,eL,restL,ej],rfl⟩
 have c1k:=c1
 try simp only [qcA,qcB] at c1
 refine .skip (.code (.seq (.block ?_)))
 refine Wk.lop (α:=Nat×Sh×List Y×Value) (fun gh=>[(1,true,gh.2.1.val gh.2.2.1.length)]) (fun gh=>[.blk bs (cl (wa 8 (shaW (xs++ys) gh.1)++[gh.2.2.2,.int .i64 ((xs.length+ys.length:Nat):Int)]) 463)])
  (fun gh Gl=>(64*gh.1≤xs.length+ys.length)∧(gh.2.2.1=(xs++ys).drop (64*gh.1))∧(SlR Gl 1 encY gh.2.1 gh.2.2.1)) (fun gh=>gh.2.2.1.length) (xs.length / 64,_,_,_) [(0,true,_)] [_]
  (esD rfl (esD rfl eZ))
  (mS .here (put_zero (by omega)) (mS .here rfl mN)) ?_ ?_
 ·refine ⟨?_,?_,?_⟩
  ·(try dsimp only)<;>(omega)
  ·(try dsimp only)<;>(exact put_drop0 (by omega))
  (try dsimp only)<;>(exact hs)
 intro gh N1 Gl1 hN1 hGl1 hF1
 obtain ⟨j,h',L,vq⟩:=gh; dsimp only at hF1 hN1 ⊢
 obtain ⟨hj,eL,hL⟩:=hF1
 have hK:=hK.mono hGl1
 have lL:L.length=xs.length+ys.length-64*j:=by rw [eL]; simp
 refine .seq (.seq (rq3 rfl rfl (mV rfl rfl (ln rfl .no Fx.sn25 (.u rfl) (cp rfl .no (.u rfl) (.u rfl) rfl (.nil (.code (.cond rfl (fun c4=>?_) (fun c4=>?_)))))))))
 ·have c4k:=c4
  try simp only [qcA,qcB] at c4
  refine .skip (.code (.seq (.block (rq3 rfl rfl (mV rfl rfl (mV rfl rfl (ka rfl (.inr rfl) Fx.go383 (Evc rfl (Evc rfl Evn)) (mtk1 .here) (block_ok _ L h' _ _ _ _ hL hK (by omega)) ?_)))))))
  rintro _ G65 μ65 hG65 ⟨rfl,rfl⟩
  have hL:=hL.mono hG65
  refine .nil (.blk (.code (rq3 rfl rfl (mV rfl rfl (kD (64) rfl .no Fx.se25 hL (.u rfl) (.u rfl) (fun _=>by omega) (fun _=>by omega) ?_)))))
  intro h62 L62 eL62 lL62 hs62
  have lL62:=lL62 rfl
  refine aS rfl rfl (.nil (We.lpo (j+1,h62,L62,vq) ?_ ?_ ?_ ?_ ?_))
  ·exact (esD rfl (esD rfl eZ))
  ·exact (mS .here (put_step eL (by omega)) (mS .here rfl mN))
  ·first|omega|(dsimp only; omega)
  ·exact (hGl1).trans hG65
  refine ⟨?_,?_,?_⟩
  ·(try dsimp only)<;>(omega)
  ·(try dsimp only)<;>(rw [eL62,eL,List.drop_drop]; congr 1)
  (try dsimp only)<;>(exact hs62)
 have c4k:=c4
 try simp only [qcA,qcB] at c4
 refine .exit (.xcode (.xlp (.xblk (.code (rq7 rfl rfl (mV rfl rfl ?_))))))
 refine b0B rfl Fx.se25 ?_; intro b67
 refine mV rfl rfl (apY0 rfl Fx.se25 Fx.zv5 (.u rfl) (.u rfl) .here hL.sc (by (try simp only [qlA,yl_len]); omega) ?_)
 intro v69 L69 _ ov69 eL69
 have lL69:L69.length=L.length:=by rw [eL69]
 refine nc rfl .no (.u rfl) (fz rfl .no Fx.fo463_1 (.u rfl) (s1v rfl (.u rfl) (.u rfl) .here Fx.sz25 tk1 (by first|decide|(simp only [stC,wa_len,ba_len,qlA]; omega)) (by first|exact st_s8|exact st_s9) ?_))
 refine .nil (.nil (We.fin Tryz.results351 .nil (mS .here rfl (mS .here rfl mN)) ?_))
 have ej:(xs++ys).length / 64=j:=by rw [List.length_append]; omega
 exact ⟨v69,by rw [st_eq ej (by simp),eL69,eL,restL,ej],rfl⟩
namespace Fx
theorem zr463:zrL Tryz.prog 463=some ([.int .u32 0,.int .u32 0,.int .u32 0,.int .u32 0,.int .u32 0,.int .u32 0,.int .u32 0,.int .u32 0,.slice none 0 0,.int .i64 0]):=by kernel_rfl
theorem bp463_0:bPl Tryz.prog 463 [0]=some ([.int .u32 0,.int .u32 0,.int .u32 0,.int .u32 0,.int .u32 0,.int .u32 0,.int .u32 0,.int .u32 0,.slice none 0 0,.int .i64 0],[(0,8)]):=by kernel_rfl
theorem sz463:szT Tryz.prog 463=some 10:=by kernel_rfl
theorem ag463:aggN Tryz.prog 463=some (some 10):=by kernel_rfl
theorem go350:goFn Tryz.prog 350=true:=by kernel_rfl
theorem pt498:ptT Tryz.prog 498=true:=by kernel_rfl
theorem go351:goFn Tryz.prog 351=true:=by kernel_rfl
theorem zq34:zrL Tryz.prog 34=some (ba 32 (fun _=>0#8)):=by kernel_rfl
theorem ag461:aggN Tryz.prog 461=some (some 8):=by kernel_rfl
theorem bp463_0_1_2:bPl Tryz.prog 463 [0,1,2]=some ([.int .u32 0,.int .u32 0,.int .u32 0,.int .u32 0,.int .u32 0,.int .u32 0,.int .u32 0,.int .u32 0,.slice none 0 0,.int .i64 0],[(0,8),(8,1),(9,1)]):=by kernel_rfl
theorem cv3_23:cvK Tryz.prog 3 23=some .u64:=by kernel_rfl
theorem cv23_5:cvK Tryz.prog 23 5=some .u8:=by kernel_rfl
theorem ar34:arE Tryz.prog 34=some (32,5,1):=by kernel_rfl
theorem ag34:aggN Tryz.prog 34=some (some 32):=by kernel_rfl
theorem sz34:szT Tryz.prog 34=some 32:=by kernel_rfl
end Fx
theorem begin_ok (G:PM):Ct Tryz.prog 350 ([]:List Value).toArray G [] (fun _ μ' u=>μ'=[]∧u=.agg (stC [] (.slice none 0 0)).toArray):=by
 refine Ct.of Tryz.func350 rfl Tryz.ntmps350 rfl fun w0 hs0=>?_
 refine .seq (rq1 rfl rfl ?_)
 refine al rfl Fx.zr463 ?_; intro b0
 refine .nil (.code (.seq (rq3 rfl rfl (bCe (wa 8 ivW) rfl .no Fx.bp461_0_1_2_3_4_5_6_7 (.cons (.u rfl) rfl (.cons (.u rfl) rfl (.cons (.u rfl) rfl (.cons (.u rfl) rfl (.cons (.u rfl) rfl (.cons (.u rfl) rfl (.cons (.u rfl) rfl (.cons (.u rfl) rfl .nil)))))))) rfl (by rfl) ?_))))
 refine bCe (stC [] (.slice none 0 0)) rfl .no Fx.bp463_0 (.cons (.u rfl) rfl .nil) rfl (by rfl) ?_
 refine sw rfl (.u rfl) (.u rfl) rfl Fx.sz463 .here (by rfl) (one_app (wa_one _ _) (one2 rfl rfl)) ?_
 refine .nil (.code (.ret (We.fin0 Tryz.results350 (.cell rfl (fun w hw=>run_loadVarN Fx.ag463 (RdN.own .here) ((by rfl)) hw) .nil) ?_)))
 exact ⟨rfl,rfl⟩
theorem New_ok (G:PM):Ct Tryz.prog 394 ([]:List Value).toArray G [] (fun _ μ' u=>∃ b,μ'=[.blk b (cl (stC [] (.slice none 0 0)) 463),rB (.slice none 0 0) 5 (restL [])]∧u=.pointer (some ⟨b,0,none⟩)):=by
 refine Ct.of Tryz.func394 rfl Tryz.ntmps394 rfl fun w0 hs0=>?_
 refine .seq (rq1 rfl rfl (aS rfl rfl (.nil (.code (.seq (rq3 rfl rfl (kv rfl .no Fx.go350 Evn (fun _=>begin_ok _) ?_)))))))
 refine al rfl Fx.zr463 ?_; intro b1
 refine sw rfl (.u rfl) (.u rfl) rfl Fx.sz463 .here (by rfl) (one_app (wa_one _ _) (one2 rfl rfl)) ?_
 refine .nil (.code (.seq (rq1 rfl rfl (aS rfl rfl (.nil (we_nilB 5 ?_))))))
 refine .code (.ret (We.fin Tryz.results394 (.tmp rfl .nil) (mS tk1 rfl (mS .here rfl mN)) ?_))
 exact ⟨_,rfl,rfl⟩
theorem Write_ok (xs ys:List Y) (h:Sh) (vp:Value) (bs:Nat) (G:PM) (hs:SlR G 1 encY h ys) (hK:RdNP G 6 0 (wa 64 kW)) (hl:xs.length+ys.length≤4611686018427387904):Ct Tryz.prog 395 ([.pointer (some ⟨bs,0,none⟩),h.val ys.length]:List Value).toArray G [.blk bs (cl (stC xs vp) 463),rB vp 5 (restL xs)] (fun _ μ' u=>∃ vp',μ'=[.blk bs (cl (stC (xs++ys) vp') 463),rB vp' 5 (restL (xs++ys))]∧u=.tuple #[]):=by
 refine Ct.of Tryz.func395 rfl Tryz.ntmps395 rfl fun w0 hs0=>?_
 refine .seq (rq2 rfl rfl (mV rfl rfl (pn rfl .no Fx.pt498 (.u rfl) (.u rfl) ?_)))
 refine .nil (.code (Wk.condT rfl rfl ?_))
 refine rq3 rfl rfl (mV rfl rfl (mV rfl rfl (ka rfl (.inr rfl) Fx.go351 (Evc rfl (Evc rfl Evn)) (mtk2 .here .here) (put_ok _ _ _ _ _ _ hs hK hl) ?_)))
 rintro _ G8 μ8 hG8 ⟨vq,rfl,rfl⟩
 refine .nil (.nil (We.fin Tryz.results395 .nil (mS .here rfl (mS .here rfl mN)) ?_))
 exact ⟨vq,rfl,rfl⟩
theorem st_w {xs:List Y} {vp:Value}:((stC xs vp).drop 0).take 8=wa 8 (shaW xs (xs.length / 64)):=by
 rw [List.drop_zero,stC,List.take_append_of_le_length (by rw [wa_len]; exact Nat.le_refl _),List.take_of_length_le (by rw [wa_len]; exact Nat.le_refl _)]
theorem st_b {zs:List Value} {xs:List Y} {v:Value} (h:zs.length=10):bFold zs [(0,8),(8,1),(9,1)] [wa 8 (shaW xs (xs.length / 64)),[v],[.int .i64 (xs.length:Int)]]=stC xs v:=by
 match zs,h with
 | [a,b,c,d,e,f,g,h,i,j],_=>rfl
theorem lenF_int {n q:Nat} (h:q<8):lenF n q=((BitVec.ofInt 64 (n:Int)*8#64) >>> (56-8*(q:Int)).toNat).setWidth 8:=by
 rw [show (56-8*(q:Int)).toNat=56-8*q by omega]; rfl
theorem StSum_ok (xs:List Y) (vp:Value) (bs:Nat) (G:PM) (hK:RdNP G 6 0 (wa 64 kW)) (hl:xs.length≤1152921504606846976):Ct Tryz.prog 352 ([.pointer (some ⟨bs,0,none⟩)]:List Value).toArray G [.blk bs (cl (stC xs vp) 463),rB vp 5 (restL xs)] (fun _ μ' u=>μ'=[.blk bs (cl (stC xs vp) 463),rB vp 5 (restL xs)]∧u=.agg (ba 32 (shaD xs)).toArray):=by
 refine Ct.of Tryz.func352 rfl Tryz.ntmps352 rfl fun w0 hs0=>?_
 have hr:=rest_len xs
 have hz:zeros xs.length=(119-xs.length%64)%64:=rfl
 refine .seq (rq1 rfl rfl ?_)
 refine al rfl Fx.zq34 ?_; intro b2
 refine .nil (.code (.seq (rq3 rfl rfl (kv rfl .no Fx.go350 Evn (fun _=>begin_ok _) ?_))))
 refine al rfl Fx.zr463 ?_; intro b3
 refine sw rfl (.u rfl) (.u rfl) rfl Fx.sz463 .here (by rfl) (one_app (wa_one _ _) (one2 rfl rfl)) ?_
 refine .nil (.code (.seq (.seq (rq2 rfl rfl (mV rfl rfl (pn rfl .no Fx.pt498 (.u rfl) (.u rfl) ?_))))))
 refine .nil (.code (Wk.condT rfl rfl ?_))
 refine wk_rs tk3 ?_; intro sRP bbRP evRP lcRP oaRP; subst evRP
 refine Wk.draw (mc:=⟨false,true⟩) [0,1,2,3,5,6,7,8,10,11,12,13,4,9,14,15] Fx.mix (by kernel_rfl) ?_
 refine mV rfl rfl (nc rfl .no (.u rfl) (fz rfl .no Fx.fo463_0 (.u rfl) (lA rfl .no Fx.ag461 (.u rfl) (fun _=>RdN.part (n:=8) (cs':=wa 8 (shaW xs (xs.length / 64))) tk2 (st_w)) (fun _=>(by first|exact qE|exact qL|rfl)) ?_)))
 refine mV rfl rfl (nc rfl .no (.u rfl) (fz rfl .no Fx.fo463_1 (.u rfl) (ld rfl .no Fx.ag25 (.u rfl) (fun _=>Rd.own tk2 (by first|exact wap_f rfl|rfl)) ?_)))
 refine mV rfl rfl (nc rfl .no (.u rfl) (fz rfl .no Fx.fo463_2 (.u rfl) (ld rfl .no Fx.ag3 (.u rfl) (fun _=>Rd.own tk2 (by first|exact wap_f rfl|rfl)) ?_)))
 refine b0B rfl Fx.se25 ?_; intro b16
 refine apY0 rfl Fx.se25 Fx.zv5 (.u rfl) (.u rfl) .here (Sc.rowS tk4 oaRP) (by (try simp only [qlA,yl_len]); omega) ?_
 intro v21 L21 _ ov21 eL21
 have lL21:L21.length=(restL xs).length:=by rw [eL21]
 refine bCe (stC xs v21) rfl .no Fx.bp463_0_1_2 (.cons (.u rfl) rfl (.cons (.u rfl) (cells_one ov21) (.cons (.u rfl) rfl .nil))) rfl (st_b rfl) ?_
 refine sw rfl (.u rfl) (.u rfl) rfl Fx.sz463 tk1 (by rfl) (one_app (wa_one _ _) (one2 ov21 rfl)) ?_
 refine .nil (.code (.seq ?_))
 subst eL21
 refine rq5 rfl rfl (fz rfl .no Fx.fo463_2 (.u rfl) (ld rfl .no Fx.ag3 (.u rfl) (fun _=>Rd.own .here (by first|exact wap_f rfl|rfl)) ?_))
 refine ci rfl .no rfl Fx.cv3_23 (.u rfl) ?_
 refine bw (k:=.u64) (b:=8#64) rfl .no rfl (.u rfl) (.u rfl) rfl (aS rfl rfl (.nil (.code (.seq (rq2 rfl rfl ?_)))))
 refine mkY (1) (72) rfl Fx.se25 Fx.zv5 (.u rfl) (.u rfl) (by first|rfl|omega) (by first|rfl|omega) (by omega) (by omega) ?_; intro b31
 have lR31:(List.replicate (1) (0#8:Y)).length=1:=List.length_replicate
 refine aS rfl rfl (.nil (.code (.seq (rq3 rfl rfl (mV rfl rfl (ia rfl .no Fx.se25 (.u rfl) (.u rfl) (fun _=>by omega) (fun _=>by omega) ?_))))))
 refine s1r (z:=128#8) rfl (.u rfl) (.u rfl) Fx.sz5 .here (by omega) ?_; intro Ls6_2 eLs6_2 lLs6_2
 refine .nil (.code (.seq (.block ?_)))
 refine Wk.lop (α:=Nat×Value×List Y) (fun gh=>[(5,true,gh.2.1)]) (fun gh=>[rB gh.2.1 5 gh.2.2])
  (fun gh Gl=>(gh.1≤zeros xs.length)∧(gh.2.2=128#8 :: List.replicate gh.1 0#8)) (fun gh=>zeros xs.length-gh.1) (0,_,_) [(2,true,_),(3,true,_),(4,true,_)] [_,_,_,_,_]
  (esD rfl (esD rfl (esD rfl (esD rfl eZ))))
  (mS .here rfl (mS .here rfl (mS .here rfl (mS .here rfl (mS .here rfl (mS .here rfl mN)))))) ?_ ?_
 ·refine ⟨?_,?_⟩
  ·(try dsimp only)<;>(exact Nat.zero_le _)
  (try dsimp only)<;>(rw [eLs6_2]; rfl)
 intro gh N0 Gl0 hN0 hGl0 hF0
 obtain ⟨j,v,L⟩:=gh; dsimp only at hF0 hN0 ⊢
 obtain ⟨hj,eL⟩:=hF0
 have hK:=hK.mono hGl0
 have lL:L.length=j+1:=by rw [eL]; simp
 have hz:zeros xs.length=(119-xs.length%64)%64:=rfl
 refine .seq (.seq (rq7 rfl rfl (fz rfl .no Fx.fo463_2 (.u rfl) (ld rfl .no Fx.ag3 (.u rfl) (fun _=>Rd.own tk1 (by first|exact wap_f rfl|rfl)) ?_))))
 refine mV rfl rfl (lr rfl .no Fx.sn25 (.u rfl) .here ?_)
 refine arn (((xs.length+L.length):Nat):Int) rfl .no (.u rfl) (.u rfl) rfl (fun _=>by omega) (fun _=>wrap_i64 (by omega) (by omega)) ?_
 refine rmn ((xs.length+L.length)) (64) rfl .no (.u rfl) (.u rfl) (fun _=>by omega) (fun _=>by omega) (fun _=>by first|decide|omega) ?_
 refine cp rfl .no (.u rfl) (.u rfl) rfl (.nil (.code (.cond rfl (fun c1=>?_) (fun c1=>?_))))
 ·have c1k:=c1
  try simp only [qcA,qcB] at c1
  refine .skip (.code (.block (rq4 rfl rfl (mV rfl rfl ?_))))
  refine Go.Tan.b1 rfl Fx.se25 Fx.zv5 (.u rfl) rfl rfl (by decide) ?_; intro b42
  refine apY rfl Fx.se25 Fx.zv5 (.u rfl) (.u rfl) tk1 (Sc.one (y:=0#8) .here) (by show _+1≤_; omega) ?_
  intro v43 L43 ov43 eL43
  have lL43:L43.length=L.length+1:=by rw [eL43,List.length_append]; first|rfl | simp [yl_len]
  refine aS rfl rfl (.nil (.blk (We.lpo (j+1,v43,L43) ?_ ?_ ?_ ?_ ?_)))
  ·exact (esD rfl (esD rfl (esD rfl (esD rfl eZ))))
  ·exact (mS .here rfl (mS tk1 rfl (mS tk1 rfl (mS tk1 rfl (mS tk1 rfl (mS tk1 rfl mN))))))
  ·(try dsimp only); omega
  ·exact hGl0
  refine ⟨?_,?_⟩
  ·(try dsimp only)<;>(omega)
  (try dsimp only)<;>(rw [eL43,eL,List.cons_append,←List.replicate_succ'])
 have c1k:=c1
 try simp only [qcA,qcB] at c1
 refine .exit (.xcode (.xlp (.xblk (.code (.seq (.seq (rq1 rfl rfl (aS rfl rfl (.nil (.code (.block ?_)))))))))))
 refine Wk.lop (α:=Nat×Value×List Y) (fun gh=>[(5,true,gh.2.1),(6,true,.int .i64 (56-8*(gh.1:Int)))]) (fun gh=>[rB gh.2.1 5 gh.2.2])
  (fun gh Gl=>(gh.1≤8)∧(gh.2.2=(128#8 :: List.replicate (zeros xs.length) 0#8)++lenB xs.length gh.1)) (fun gh=>8-gh.1) (0,_,_) [(2,true,_),(3,true,_),(4,true,_)] [_,_,_,_,_]
  (esD rfl (esC rfl (by first|rfl|exact evi (by omega)) (esD rfl (esD rfl (esD rfl eZ)))))
  (mS .here rfl (mS .here rfl (mS .here rfl (mS .here rfl (mS .here rfl (mS .here rfl mN)))))) ?_ ?_
 ·refine ⟨?_,?_⟩
  ·(try dsimp only)<;>(first|omega|rfl|assumption|(simp; done))
  (try dsimp only)<;>(rw [eL,show j=zeros xs.length by omega]; simp [lenB])
 intro gh N1 Gl1 hN1 hGl1 hF1
 obtain ⟨q,v,L⟩:=gh; dsimp only at hF1 hN1 ⊢
 obtain ⟨hq,eL⟩:=hF1
 have hK:=hK.mono hGl1
 have lL:L.length=zeros xs.length+1+q:=by rw [eL]; simp [lenB_len]; omega
 refine .seq (.seq (rq2 rfl rfl (mV rfl rfl (cp rfl .no (.u rfl) (.u rfl) rfl (.nil (.code (.cond rfl (fun c2=>?_) (fun c2=>?_))))))))
 ·have c2k:=c2
  try simp only [qcA,qcB] at c2
  refine .skip (.code (.seq (.block (rq8 rfl rfl (mV rfl rfl (mV rfl rfl (mV rfl rfl (rw' (k:=.u64) rfl .no (.u rfl) (.u rfl) (fun _=>by omega) ?_))))))))
  refine cu (k:=.u64) rfl .no rfl Fx.cv23_5 (.u rfl) ?_
  refine Go.Tan.b1 rfl Fx.se25 Fx.zv5 (.u rfl) rfl rfl (by decide) ?_; intro b53
  refine apY rfl Fx.se25 Fx.zv5 (.u rfl) (.u rfl) tk1 (Sc.one .here) (by show _+1≤_; omega) ?_
  intro v54 L54 ov54 eL54
  have lL54:L54.length=L.length+1:=by rw [eL54,List.length_append]; first|rfl | simp [yl_len]
  refine aS rfl rfl (.nil (.blk (.code (rq3 rfl rfl (mV rfl rfl (ar rfl .no (.u rfl) (.u rfl) rfl (fun _=>wrap_i64 (by omega) (by omega)) ?_))))))
  refine aS rfl rfl (.nil (We.lpo (q+1,v54,L54) ?_ ?_ ?_ ?_ ?_))
  ·exact (esD rfl (esC rfl (by first|rfl|exact evi (by omega)) (esD rfl (esD rfl (esD rfl eZ)))))
  ·exact (mS .here rfl (mS tk1 rfl (mS tk1 rfl (mS tk1 rfl (mS tk1 rfl (mS tk1 rfl mN))))))
  ·first|omega|(dsimp only; omega)
  ·exact hGl1
  refine ⟨?_,?_⟩
  ·(try dsimp only)<;>(first|omega|rfl|assumption|(simp; done))
  (try dsimp only)<;>(rw [eL54,eL,lenB_snoc,←List.append_assoc,lenF_int (by omega)]; rfl)
 have c2k:=c2
 try simp only [qcA,qcB] at c2
 refine .exit (.xcode (.xlp (.xblk (.code (.seq ?_)))))
 have e8:L=tailL xs.length:=by rw [eL,show q=8 by omega]; rfl
 subst e8
 have lt:=tail_len xs.length
 have hz:zeros xs.length=(119-xs.length%64)%64:=rfl
 refine wk_fb .here (keys_sub (mS tk3 rfl (mS tk3 rfl mN))) ?_; intro GfR31 hR31 hleR31 evR31 hsR31; subst evR31
 have hK:=hK.mono hleR31
 refine rq2 rfl rfl (mV rfl rfl (ka rfl (.inr rfl) Fx.go351 (Evc rfl (Evc rfl Evn)) (mtk2 .here .here) (put_ok xs (tailL xs.length) _ _ _ _ hsR31 hK (by omega)) ?_))
 rintro _ G56 μ56 hG56 ⟨vq,rfl,rfl⟩
 refine .nil (.code (.seq (rq1 rfl rfl ?_)))
 refine al rfl Fx.zq34 ?_; intro b7
 refine .nil (.code (.seq (.seq (rq1 rfl rfl (mV rfl rfl (.nil (.code (.block ?_))))))))
 refine Wk.lop (α:=Nat×(Nat→Y)) (fun gh=>[(57,true,.int .i64 (gh.1:Int))]) (fun gh=>[.blk b7 (cl (ba 32 gh.2) 34)])
  (fun gh Gl=>(gh.1≤32)∧(gh.2=outs (shaD xs) gh.1)) (fun gh=>32-gh.1) (0,fun _=>0#8) [(2,true,_),(3,true,_),(7,true,_)] [_,_,_,_,_]
  (esC rfl (by first|rfl|exact evi (by omega)) (esD rfl (esD rfl (esD rfl eZ))))
  (mS .here rfl (mS .here rfl (mS .here rfl (mS .here rfl (mS .here rfl (mS .here rfl mN)))))) ?_ ?_
 ·refine ⟨?_,?_⟩
  ·(try dsimp only)<;>(first|omega|rfl|assumption|(simp; done))
  (try dsimp only)<;>(first|omega|rfl|assumption|(simp; done))
 intro gh N2 Gl2 hN2 hGl2 hF2
 obtain ⟨i,f⟩:=gh; dsimp only at hF2 hN2 ⊢
 obtain ⟨hi,ef⟩:=hF2
 refine .seq (rq1 rfl rfl (cp rfl .no (.u rfl) (.u rfl) rfl (.nil (.code (.seq (.cond rfl (fun c3=>?_) (fun c3=>?_)))))))
 ·have c3k:=c3
  try simp only [qcA,qcB] at c3
  refine .skip (.code (.seq (.block (.seq (rq2 rfl rfl (mV rfl rfl (aS rfl rfl (.nil (.code (Wk.rg [0,1,2,3,4,5,6,7,8,9,10,11,12,13] rfl rfl (mV rfl rfl (mV rfl rfl (qun (i) (4) rfl .no (.u rfl) (.u rfl) (fun _=>by omega) (fun _=>by omega) (fun _=>by first|decide|omega) (fun _=>by omega) ?_)))))))))))))
  refine fz rfl .no Fx.fo463_0 (.u rfl) (iA rfl .no Fx.ar461 (.u rfl) (.u rfl) (fun _=>by omega) (fun _=>by omega) ?_)
  refine ld rfl .no Fx.ag344 (.u rfl) (fun _=>Rd.own tk1 (by first|exact wa_at1 ((i / 4)) (by omega) (by omega)|exact ba_at1 ((i / 4)) (by omega) (by omega)|exact wap_at1 ((i / 4)) (by omega) (by omega)|rfl)) ?_
  refine mV rfl rfl (rmn (i) (4) rfl .no (.u rfl) (.u rfl) (fun _=>by omega) (fun _=>by omega) (fun _=>by first|decide|omega) ?_)
  refine arn (((8*(i%4)):Nat):Int) rfl .no (.u rfl) (.u rfl) rfl (fun _=>by omega) (fun _=>wrap_i64 (by omega) (by omega)) ?_
  refine arn (((24-8*(i%4)):Nat):Int) rfl .no (.u rfl) (.u rfl) rfl (fun _=>by omega) (fun _=>wrap_i64 (by omega) (by omega)) ?_
  refine rw' (k:=.u32) rfl .no (.u rfl) (.u rfl) (fun _=>by omega) ?_
  refine cu (k:=.u32) rfl .no rfl Fx.cv344_5 (.u rfl) ?_
  refine iA rfl .no Fx.ar34 (.u rfl) (.u rfl) (fun _=>by omega) (fun _=>by omega) ?_
  refine s1 rfl (.u rfl) (.u rfl) rfl Fx.sz5 .here (by first|decide|(simp only [wa_len,ba_len,qlA]; omega)) (by first|exact wa_set1 (i) (by omega)|exact ba_set1 (i) (by omega)|exact wap_set1 (i) (by omega) (by omega)|rfl) ?_
  refine .nil (.blk (.code (rq2 rfl rfl (arn (((i+1):Nat):Int) rfl .no (.u rfl) (.u rfl) rfl (fun _=>by omega) (fun _=>wrap_i64 (by omega) (by omega)) ?_))))
  refine mV rfl rfl (.nil (We.lpo (i+1,upd f i (shaD xs i)) ?_ ?_ ?_ ?_ ?_))
  ·exact (esC rfl (by first|rfl|exact evi (by omega)) (esD rfl (esD rfl (esD rfl eZ))))
  ·exact (mS .here rfl (mS .here rfl (mS .here rfl (mS .here rfl (mS .here rfl (mS .here rfl mN))))))
  ·first|omega|(dsimp only; omega)
  ·exact hGl2
  refine ⟨?_,?_⟩
  ·(try dsimp only)<;>(first|omega|rfl|assumption|(simp; done))
  (try dsimp only)<;>(rw [ef]; rfl)
 have c3k:=c3
 try simp only [qcA,qcB] at c3
 refine .exit (.xcode (.xlp (.xblk (.code (.seq (rq2 rfl rfl (lA rfl .no Fx.ag34 (.u rfl) (fun _=>RdN.own .here) (fun _=>(by first|exact qE|exact qL|rfl)) ?_)))))))
 refine sw rfl (.u rfl) (.u rfl) rfl Fx.sz34 tk3 (by first|exact qE|exact qL|rfl) (by first|exact ba_one _ _|exact wa_one _ _|exact one_V _|decide|exact one_app (wa_one _ _) (by simp [Value.oneCell'])) ?_
 refine .nil (.code (.ret (We.fin Tryz.results352 (.cell rfl (fun w hw=>run_loadVarN Fx.ag34 (RdN.own .here) ((by first|exact qE|exact qL|rfl)) hw) .nil) (mS tk4 rfl (mS tk4 rfl mN)) ?_)))
 obtain rfl:i=32:=by omega
 exact ⟨rfl,by rw [ef,ba_congr (fun i hi=>(outs_eq (shaD xs) hi).symm)]; rfl⟩
namespace Fx
theorem ag33:aggN Tryz.prog 33=some (some 32):=by kernel_rfl
theorem ag404:aggN Tryz.prog 404=some (some 12):=by kernel_rfl
theorem go380:goFn Tryz.prog 380=true:=by kernel_rfl
theorem se351:slE Tryz.prog 351=some (25,1,24):=by kernel_rfl
theorem sn351:(slE Tryz.prog 351).isSome=true:=by kernel_rfl
theorem go352:goFn Tryz.prog 352=true:=by kernel_rfl
end Fx
theorem Fix_ok (xs:List Y) (h:Sh) (n:BitVec 64) (many:Nat) (G:PM) (hs:SlR G 1 encY h xs) (hl:xs.length≤140737488351232) (hm:many≤8):Ct Tryz.prog 207 ([h.val xs.length,uv .u64 n,.int .i64 (many:Int)]:List Value).toArray G [] (PR 5 (fun L=>L=xs++fixL n many)):=by
 refine Ct.of Tryz.func207 rfl Tryz.ntmps207 rfl fun w0 hs0=>?_
 refine .seq (rq1 rfl rfl (aS rfl rfl (.nil (.code (.seq (rq4 rfl rfl ?_))))))
 refine b0B rfl Fx.se25 ?_; intro b8
 refine mV rfl rfl (apY0 rfl Fx.se25 Fx.zv5 (.u rfl) (.u rfl) .here hs.sc (by (try simp only [qlA,yl_len]); omega) ?_)
 intro v10 L10 _ ov10 eL10
 have lL10:L10.length=xs.length:=by rw [eL10]
 refine aS rfl rfl (.nil (.code (.seq (.seq (rq4 rfl rfl (mV rfl rfl (mIn (many) (8) rfl .no (.u rfl) (.u rfl) (fun _=>by omega) (fun _=>by omega) ?_)))))))
 refine mAn (0) ((min many 8)) rfl .no (.u rfl) (.u rfl) (fun _=>by omega) (fun _=>by omega) ?_
 refine mV rfl rfl (.nil (.code (.block ?_)))
 refine Wk.lop (α:=Nat×Value×List Y×BitVec 64) (fun gh=>[(1,true,uv .u64 gh.2.2.2),(7,true,gh.2.1),(14,true,.int .i64 (gh.1:Int))]) (fun gh=>[rB gh.2.1 5 gh.2.2.1])
  (fun gh Gl=>(gh.1≤many)∧(gh.2.2.1=xs++fixL n gh.1)∧(gh.2.2.2=n >>> (8*gh.1))) (fun gh=>many-gh.1) (0,_,_,n) [(13,true,_)] []
  (esD rfl (esD rfl (esC rfl (by first|rfl|exact evi (by omega)) (esD rfl eZ))))
  (mS .here rfl mN) ?_ ?_
 ·refine ⟨?_,?_,?_⟩
  ·(try dsimp only)<;>(first|omega|rfl|assumption|(simp; done))
  ·(try dsimp only)<;>(rw [eL10]; simp [fixL])
  (try dsimp only)<;>(simp)
 intro gh N0 Gl0 hN0 hGl0 hF0
 obtain ⟨k,v,L,m⟩:=gh; dsimp only at hF0 hN0 ⊢
 obtain ⟨hk,eL,em⟩:=hF0
 have lL:L.length=xs.length+k:=by rw [eL]; simp [fix_len]
 refine .seq (rq1 rfl rfl (cp rfl .no (.u rfl) (.u rfl) rfl (.nil (.code (.seq (.cond rfl (fun c1=>?_) (fun c1=>?_)))))))
 ·have c1k:=c1
  try simp only [qcA,qcB] at c1
  refine .skip (.code (.seq (.block (.seq (rq6 rfl rfl (mV rfl rfl (mV rfl rfl (cu (k:=.u64) rfl .no rfl Fx.cv23_5 (.u rfl) ?_))))))))
  refine Go.Tan.b1 rfl Fx.se25 Fx.zv5 (.u rfl) rfl rfl (by decide) ?_; intro b19
  refine apY rfl Fx.se25 Fx.zv5 (.u rfl) (.u rfl) tk1 (Sc.one .here) (by show _+1≤_; omega) ?_
  intro v20 L20 ov20 eL20
  have lL20:L20.length=L.length+1:=by rw [eL20,List.length_append]; first|rfl | simp [yl_len]
  refine aS rfl rfl (.nil (.code (rq3 rfl rfl (mV rfl rfl (rw' (k:=.u64) rfl .no (.u rfl) (.u rfl) (fun _=>by decide) ?_)))))
  refine aS rfl rfl (.nil (.blk (.code (rq2 rfl rfl (arn (((k+1):Nat):Int) rfl .no (.u rfl) (.u rfl) rfl (fun _=>by omega) (fun _=>wrap_i64 (by omega) (by omega)) ?_)))))
  refine mV rfl rfl (.nil (We.lpo (k+1,v20,L20,m >>> 8) ?_ ?_ ?_ ?_ ?_))
  ·exact (esD rfl (esD rfl (esC rfl (by first|rfl|exact evi (by omega)) (esD rfl eZ))))
  ·exact (mS .here rfl mN)
  ·first|omega|(dsimp only; omega)
  ·exact hGl0
  refine ⟨?_,?_,?_⟩
  ·(try dsimp only)<;>(first|omega|rfl|assumption|(simp; done))
  ·(try dsimp only)<;>(rw [eL20,eL,em,fix_snoc,List.append_assoc]; rfl)
  (try dsimp only)<;>(rw [em,←BitVec.shiftRight_add]; rfl)
 have c1k:=c1
 try simp only [qcA,qcB] at c1
 refine .exit (.xcode (.xlp (.xblk (.code (.seq (rq2 rfl rfl (mV rfl rfl (aS rfl rfl (.nil (.code (.ret (We.fin Tryz.results207 (.tmp rfl .nil) (mS .here rfl mN) ?_))))))))))))
 obtain rfl:k=many:=by omega
 exact ⟨L,eL,rfl⟩
theorem Cross_ok (key nonce:Nat→Y) (count:W) (h:Sh) (xs:List Y) (G:PM) (hs:SlR G 1 encY h xs) (hl:xs.length≤140737488351232):Ct Tryz.prog 340 ([.agg (ba 32 key).toArray,.agg (ba 12 nonce).toArray,U count,h.val xs.length]:List Value).toArray G [] (PR 5 (fun L=>L=crossL key nonce count xs)):=by
 refine Ct.of Tryz.func340 rfl Tryz.ntmps340 rfl fun w0 hs0=>?_
 refine .seq (rq3 rfl rfl ?_)
 refine bx rfl (.u rfl) rfl ?_; intro b4
 refine bx rfl (.u rfl) rfl ?_; intro b5
 refine aS rfl rfl (.nil (.code (.seq (rq4 rfl rfl ?_))))
 refine b0B rfl Fx.se25 ?_; intro b14
 refine mV rfl rfl (apY0 rfl Fx.se25 Fx.zv5 (.u rfl) (.u rfl) .here hs.sc (by (try simp only [qlA,yl_len]); omega) ?_)
 intro v16 L16 _ ov16 eL16
 have lL16:L16.length=xs.length:=by rw [eL16]
 refine aS rfl rfl (.nil (.code (.seq (.seq ?_))))
 refine wk_rs .here ?_; intro sR16 bbR16 evR16 lcR16 oaR16; subst evR16
 obtain rfl:=eL16.symm
 refine rq2 rfl rfl (mV rfl rfl (aS rfl rfl (.nil (.code (.block ?_)))))
 refine Wk.lop (α:=Nat×Sh×List Y) (fun gh=>[(2,true,U (count+BitVec.ofNat 32 gh.1)),(10,true,gh.2.1.val (xs.length-64*gh.1))]) (fun gh=>[rB (sR16.val xs.length) 5 gh.2.2])
  (fun gh Gl=>(gh.2.2.length=xs.length)∧(gh.2.2=crT key nonce count xs (64*gh.1))∧(64*gh.1<xs.length→gh.2.1.oa=some ⟨bbR16,64*gh.1,none⟩)∧(xs.length-64*gh.1≤gh.2.1.cap)) (fun gh=>xs.length-64*gh.1) (0,sR16,xs) [(4,true,_),(5,true,_),(9,true,_)] [_,_]
  (esC rfl (by simp) (esD rfl (esD rfl (esD rfl (esD rfl eZ)))))
  (mS .here rfl (mS .here rfl (mS .here rfl mN))) ?_ ?_
 ·refine ⟨?_,?_,?_,?_⟩
  ·(try dsimp only)<;>(rfl)
  ·(try dsimp only)<;>(exact (crT_zero _ _ _ _).symm)
  ·(try dsimp only)<;>(exact oaR16)
  (try dsimp only)<;>(exact lcR16)
 intro gh N0 Gl0 hN0 hGl0 hF0
 obtain ⟨j,r,L⟩:=gh; dsimp only at hF0 hN0 ⊢
 obtain ⟨lL,eL,hr,hrc⟩:=hF0
 refine .seq (.seq (rq3 rfl rfl (mV rfl rfl (ln rfl .no Fx.sn25 (.u rfl) (cp rfl .no (.u rfl) (.u rfl) rfl (.nil (.code (.cond rfl (fun c1=>?_) (fun c1=>?_)))))))))
 ·have c1k:=c1
  try simp only [qcA,qcB] at c1
  refine .skip (.code (.seq (.block (.seq ?_))))
  have hlt:64*j<xs.length:=by omega
  have e1:=oaR16 (by omega)
  have e2:=hr hlt
  obtain ⟨so,sc⟩:=sR16
  obtain ⟨ro,rc⟩:=r
  simp only at e1 e2
  subst e1; subst e2
  refine rq6 rfl rfl (lA rfl .no Fx.ag33 (.u rfl) (fun _=>RdN.own tk2) (fun _=>(by first|exact qE|exact qL|rfl)) ?_)
  refine lA rfl .no Fx.ag404 (.u rfl) (fun _=>RdN.own tk1) (fun _=>(by first|exact qE|exact qL|rfl)) ?_
  refine mV rfl rfl (kv rfl .no Fx.go380 (Evc rfl (Evc rfl (Evc rfl Evn))) (fun _=>Block_ok _ _ _ _) ?_)
  refine al rfl Fx.zq470 ?_; intro b11
  refine sw rfl (.u rfl) (.u rfl) rfl Fx.sz470 .here (by first|exact qE|exact qL|rfl) (ba_one _ _) ?_
  refine .nil (.code (.seq (rq4 rfl rfl (mV rfl rfl (ln rfl .no Fx.sn25 (.u rfl) (mIn ((xs.length-64*j)) (64) rfl .no (.u rfl) (.u rfl) (fun _=>by omega) (fun _=>by omega) ?_))))))
  refine aS rfl rfl (.nil (.code (.seq (.seq (rq2 rfl rfl (mV rfl rfl (mV rfl rfl (.nil (.code (.block ?_))))))))))
  refine Wk.lop (α:=Nat×List Y) (fun gh=>[(31,true,.int .i64 (gh.1:Int))]) (fun gh=>[rB (Sh.val ⟨some ⟨bbR16,0,none⟩,sc⟩ xs.length) 5 gh.2])
   (fun gh Gl=>(gh.1≤min (xs.length-64*j) 64)∧(gh.2=crT key nonce count xs (64*j+gh.1))) (fun gh=>64-gh.1) (0,L) [(2,true,_),(4,true,_),(5,true,_),(9,true,_),(10,true,_),(11,true,_),(12,true,_),(30,true,_)] [_,_,_]
   (esC rfl (by first|rfl|exact evi (by omega)) (esD rfl (esD rfl (esD rfl (esD rfl (esD rfl (esD rfl (esD rfl (esD rfl eZ)))))))))
   (mS tk1 rfl (mS .here rfl (mS .here rfl (mS .here rfl mN)))) ?_ ?_
  ·refine ⟨?_,?_⟩
   ·(try dsimp only)<;>(exact Nat.zero_le _)
   (try dsimp only)<;>(rw [eL]; rfl)
  intro gh N1 Gl1 hN1 hGl1 hF1
  obtain ⟨i,L2⟩:=gh; dsimp only at hF1 hN1 ⊢
  obtain ⟨hi,eL2⟩:=hF1
  have lL2:L2.length=xs.length:=by rw [eL2,crT_len]
  refine .seq (rq1 rfl rfl (cp rfl .no (.u rfl) (.u rfl) rfl (.nil (.code (.seq (.cond rfl (fun c2=>?_) (fun c2=>?_)))))))
  ·have c2k:=c2
   try simp only [qcA,qcB] at c2
   refine .skip (.code (.seq (.block (.seq (rq2 rfl rfl (mV rfl rfl (aS rfl rfl (.nil (.code (Wk.draw (mc:=⟨false,false⟩) [0,1,2,3,4,5,6,7,8,9] Fx.mix (by kernel_rfl) ?_))))))))))
   refine mV rfl rfl (mV rfl rfl (ih rfl .no Fx.se25 (.u rfl) (.u rfl) (fun _=>by omega) (fun _=>by omega) (fun _=>rfl) ?_))
   refine ld rfl .no Fx.ag5 (.u rfl) (fun _=>Rd.row .here (map_at1 (o:=64*j) (64*j+i) (by omega) (by omega))) ?_
   refine mV rfl rfl (iA rfl .no Fx.ar470 (.u rfl) (.u rfl) (fun _=>by omega) (fun _=>by omega) ?_)
   refine ld rfl .no Fx.ag5 (.u rfl) (fun _=>Rd.own tk1 (by first|exact wa_at1 (i) (by omega) (by omega)|exact ba_at1 (i) (by omega) (by omega)|exact wap_at1 (i) (by omega) (by omega)|rfl)) ?_
   refine bw (k:=.u8) rfl .no rfl (.u rfl) (.u rfl) rfl (ih rfl .no Fx.se25 (.u rfl) (.u rfl) (fun _=>by omega) (fun _=>by omega) (fun _=>rfl) ?_)
   refine s1r rfl (.u rfl) (.u rfl) Fx.sz5 .here (by show 64*j+_*1<_; omega) ?_; intro L9 eL9 lL9
   refine .nil (.blk (.code (rq2 rfl rfl (arn (((i+1):Nat):Int) rfl .no (.u rfl) (.u rfl) rfl (fun _=>by omega) (fun _=>wrap_i64 (by omega) (by omega)) ?_))))
   refine mV rfl rfl (.nil (We.lpo (i+1,L9) ?_ ?_ ?_ ?_ ?_))
   ·exact (esC rfl (by first|rfl|exact evi (by omega)) (esD rfl (esD rfl (esD rfl (esD rfl (esD rfl (esD rfl (esD rfl (esD rfl eZ)))))))))
   ·exact (mS .here rfl (mS .here rfl (mS .here rfl (mS .here rfl mN))))
   ·first|omega|(dsimp only; omega)
   ·exact hGl1
   refine ⟨?_,?_⟩
   ·(try dsimp only)<;>(omega)
   (try dsimp only)<;>(rw [eL9,eL2,show (Sh.o ⟨some ⟨bbR16,64*j,none⟩,rc⟩+(i:Int).toNat*1)=64*j+i from (by show 64*j+_*1=_; omega)]; exact crT_step (xs:=xs) (j:=j) (i:=i) (by omega) (by omega))
  have c2k:=c2
  try simp only [qcA,qcB] at c2
  refine .exit (.xcode (.xlp (.xblk (.code (rq4 rfl rfl (mV rfl rfl (mV rfl rfl (sd rfl .no Fx.se25 (.u rfl) (.u rfl) (fun _=>by omega) (fun _=>by omega) ?_))))))))
  refine aS rfl rfl (.nil (.blk (.code (rq3 rfl rfl (mV rfl rfl (bw (k:=.u32) (b:=1#32) rfl .no rfl (.u rfl) (.u rfl) rfl (aS rfl rfl (.nil (We.lpo (j+1,Sh.cut ⟨some ⟨bbR16,64*j,none⟩,rc⟩ (min (xs.length-64*j) 64) 1,L2) ?_ ?_ ?_ ?_ ?_)))))))))
  ·exact (esC rfl (by show U (count+BitVec.ofNat 32 j+1#32)=U (count+BitVec.ofNat 32 (j+1)); rw [BitVec.add_assoc,←BitVec.ofNat_add]) (esC rfl (congrArg (Sh.val _) (by omega)) (esD rfl (esD rfl (esD rfl eZ)))))
  ·exact (mS .here (by rfl) (mS tk1 rfl (mS tk1 rfl mN)))
  ·first|omega|(dsimp only; omega)
  ·exact (hGl0).trans hGl1
  refine ⟨?_,?_,?_,?_⟩
  ·(try dsimp only)<;>(rw [eL2,crT_len])
  ·(try dsimp only)<;>(rw [eL2]; exact cr_end (by omega))
  ·(try dsimp only)<;>(intro h3; have hrc2:xs.length-64*j≤rc:=hrc; exact cut_oa (by omega) (by omega))
  (try dsimp only)<;>(show _≤rc-_; have hrc2:xs.length-64*j≤rc:=hrc; omega)
 have c1k:=c1
 try simp only [qcA,qcB] at c1
 refine .exit (.xcode (.xlp (.xblk (.code (.seq (rq2 rfl rfl (mV rfl rfl (aS rfl rfl (.nil (.code (.ret (We.fin Tryz.results340 (.tmp rfl .nil) (mS .here rfl mN) ?_))))))))))))
 exact ⟨L,by rw [eL,crT_all (by omega)],rfl⟩
theorem shaSum_ok (ps:List (Sh×List Y)) (h:Sh) (G:PM) (hs:SlP G h ps) (hK:RdNP G 6 0 (wa 64 kW)) (hl:(catL ps).length≤1152921504606846976) (hn:ps.length≤1000):Ct Tryz.prog 311 ([h.val ps.length]:List Value).toArray G [] (fun _ μ' u=>μ'=[]∧u=.agg (ba 32 (shaD (catL ps))).toArray):=by
 refine Ct.of Tryz.func311 rfl Tryz.ntmps311 rfl fun w0 hs0=>?_
 refine .seq (rq1 rfl rfl ?_)
 refine al rfl Fx.zq34 ?_; intro b2
 refine .nil (.code (.seq (rq3 rfl rfl (kv rfl .no Fx.go350 Evn (fun _=>begin_ok _) ?_))))
 refine al rfl Fx.zr463 ?_; intro b3
 refine sw rfl (.u rfl) (.u rfl) rfl Fx.sz463 .here (by rfl) (one_app (wa_one _ _) (one2 rfl rfl)) ?_
 refine .nil (we_nilB 5 ?_)
 refine .code (.seq (.seq (rq3 rfl rfl (mV rfl rfl (ln rfl .no Fx.sn351 (.u rfl) (mV rfl rfl (.nil (.code (.block ?_)))))))))
 refine Wk.lop (α:=Nat×Value) (fun gh=>[(9,true,.int .i64 (gh.1:Int))]) (fun gh=>[rB gh.2 5 (restL (catL (ps.take gh.1))),.blk b3 (cl (stC (catL (ps.take gh.1)) gh.2) 463)])
  (fun gh Gl=>(gh.1≤ps.length)) (fun gh=>ps.length-gh.1) (0,.slice none 0 0) [(2,true,_),(3,true,_),(7,true,_),(8,true,_)] [_]
  (esC rfl (by first|rfl|exact evi (by omega)) (esD rfl (esD rfl (esD rfl (esD rfl eZ)))))
  (mS .here (by simp [restL,catL]) (mS .here rfl (mS .here rfl mN))) ?_ ?_
 ·(try dsimp only)<;>(first|omega|rfl|assumption|(simp; done))
 intro gh N0 Gl0 hN0 hGl0 hF0
 obtain ⟨k,vq⟩:=gh; dsimp only at hF0 hN0 ⊢
 have hk:=hF0
 have hs:=hs.mono hGl0
 have hK:=hK.mono hGl0
 refine .seq (rq1 rfl rfl (cp rfl .no (.u rfl) (.u rfl) rfl (.nil (.code (.seq (.cond rfl (fun c1=>?_) (fun c1=>?_)))))))
 ·have c1k:=c1
  try simp only [qcA,qcB] at c1
  refine .skip (.code (.seq (.block (.seq (rq3 rfl rfl (ih rfl .no Fx.se351 (.u rfl) (.u rfl) (fun _=>by omega) (fun _=>by omega) (fun _=>hs.sl.nn (k:=k) (by omega)) ?_))))))
  obtain ⟨p12,ep12⟩:=getx (k:=k) (xs:=ps) (by omega)
  have hq12:=hs.get ep12
  refine ld rfl .no Fx.ag25 (.u rfl) (fun _=>(hs.at (k) (by omega) ep12).rd) ?_
  refine aS rfl rfl (.nil (.code (rq2 rfl rfl (mV rfl rfl (ka rfl (.inr rfl) Fx.go351 (Evc rfl (Evc rfl Evn)) (mtk2 tk1 .here) (put_ok (catL (ps.take k)) p12.2 _ _ _ _ hq12 hK (by have:=cat_len ep12; omega)) ?_)))))
  rintro _ G14 μ14 hG14 ⟨vq',rfl,rfl⟩
  have hK:=hK.mono hG14
  refine .nil (.blk (.code (rq2 rfl rfl (arn (((k+1):Nat):Int) rfl .no (.u rfl) (.u rfl) rfl (fun _=>by omega) (fun _=>wrap_i64 (by omega) (by omega)) ?_))))
  refine mV rfl rfl (.nil (We.lpo (k+1,vq') ?_ ?_ ?_ ?_ ?_))
  ·exact (esC rfl (by first|rfl|exact evi (by omega)) (esD rfl (esD rfl (esD rfl (esD rfl eZ)))))
  ·exact (mS tk1 (by rw [cat_take ep12]) (mS .here (by rw [cat_take ep12]) (mS .here rfl mN)))
  ·first|omega|(dsimp only; omega)
  ·exact (hGl0).trans hG14
  (try dsimp only)<;>(first|omega|rfl|assumption|(simp; done))
 have c1k:=c1
 try simp only [qcA,qcB] at c1
 refine .exit (.xcode (.xlp (.xblk (.code (.seq ?_)))))
 obtain rfl:k=ps.length:=by omega
 rw [List.take_length]
 refine rq2 rfl rfl (ka rfl (.inr rfl) Fx.go352 (Evc rfl Evn) (mtk2 tk1 .here) (StSum_ok (catL ps) _ _ _ hK hl) ?_)
 rintro _ G16 μ16 hG16 ⟨rfl,rfl⟩
 refine sw rfl (.u rfl) (.u rfl) rfl Fx.sz34 tk2 (by first|exact qE|exact qL|rfl) (by first|exact ba_one _ _|exact wa_one _ _|exact one_V _|decide|exact one_app (wa_one _ _) (by simp [Value.oneCell'])) ?_
 refine .nil (.code (.ret (We.fin0 Tryz.results311 (.cell rfl (fun w hw=>run_loadVarN Fx.ag34 (RdN.own .here) ((by first|exact qE|exact qL|rfl)) hw) .nil) ?_)))
 exact ⟨rfl,rfl⟩
namespace Fx
theorem zv25:(Tryz.prog.info? 25).bind (·.zero)=some (.slice none 0 0):=by kernel_rfl
theorem go311:goFn Tryz.prog 311=true:=by kernel_rfl
end Fx
theorem SlP.one {G:PM} {b T:Nat} {h1:Sh} {L1:List Y} (hle:PM.le G (G.add b (cl [h1.val L1.length] T))) (hs:SlR G 1 encY h1 L1):SlP (G.add b (cl [h1.val L1.length] T)) ⟨some ⟨b,0,none⟩,1⟩ [(h1,L1)] :=
 ⟨SlR.ofBlk (T:=T) (PM.add_same _ _ _) (fun _ _=>rfl) (by simp),fun p hp=>by rw [List.mem_singleton.1 hp]; exact hs.mono hle⟩
theorem SlP.two {G:PM} {b T:Nat} {h1 h2:Sh} {L1 L2:List Y} (hle:PM.le G (G.add b (cl [h1.val L1.length,h2.val L2.length] T))) (hs:SlR G 1 encY h1 L1) (hs2:SlR G 1 encY h2 L2):SlP (G.add b (cl [h1.val L1.length,h2.val L2.length] T)) ⟨some ⟨b,0,none⟩,2⟩ [(h1,L1),(h2,L2)] :=
 ⟨SlR.ofBlk (T:=T) (PM.add_same _ _ _) (fun _ _=>rfl) (by simp),fun p hp=>by
  rcases List.mem_cons.1 hp with rfl | hp
  ·exact hs.mono hle
  ·rw [List.mem_singleton.1 hp]; exact hs2.mono hle⟩
theorem SlP.four {G:PM} {b T:Nat} {h1 h2 h3 h4:Sh} {L1 L2 L3 L4:List Y} (hle:PM.le G (G.add b (cl [h1.val L1.length,h2.val L2.length,h3.val L3.length,h4.val L4.length] T))) (hs:SlR G 1 encY h1 L1) (hs2:SlR G 1 encY h2 L2) (hs3:SlR G 1 encY h3 L3) (hs4:SlR G 1 encY h4 L4) :
  SlP (G.add b (cl [h1.val L1.length,h2.val L2.length,h3.val L3.length,h4.val L4.length] T)) ⟨some ⟨b,0,none⟩,4⟩ [(h1,L1),(h2,L2),(h3,L3),(h4,L4)] :=
 ⟨SlR.ofBlk (T:=T) (PM.add_same _ _ _) (fun _ _=>rfl) (by simp),fun p hp=>by
  simp only [List.mem_cons,List.not_mem_nil,or_false] at hp
  rcases hp with rfl|rfl|rfl|rfl
  ·exact hs.mono hle
  ·exact hs2.mono hle
  ·exact hs3.mono hle
  ·exact hs4.mono hle⟩
theorem sum1_ok {G:PM} {b T:Nat} {h1:Sh} {L1:List Y} (hle:PM.le G (G.add b (cl [h1.val L1.length] T))) (hs:SlR G 1 encY h1 L1) (hK:RdNP G 6 0 (wa 64 kW)) (hl:L1.length≤1152921504606846976):Ct Tryz.prog 311 ([.slice (some ⟨b,0,none⟩) 1 1]:List Value).toArray (G.add b (cl [h1.val L1.length] T)) [] (fun _ μ' u=>μ'=[]∧u=.agg (ba 32 (shaD L1)).toArray):=by
 have h:=shaSum_ok [(h1,L1)] ⟨some ⟨b,0,none⟩,1⟩ _ (SlP.one hle hs) (hK.mono hle) (by simpa [catL] using hl) (by simp)
 rw [show catL [(h1,L1)]=L1 by simp [catL]] at h
 exact h
theorem sum2_ok {G:PM} {b T:Nat} {h1 h2:Sh} {L1 L2:List Y} (hle:PM.le G (G.add b (cl [h1.val L1.length,h2.val L2.length] T))) (hs:SlR G 1 encY h1 L1) (hs2:SlR G 1 encY h2 L2) (hK:RdNP G 6 0 (wa 64 kW)) (hl:L1.length+L2.length≤1152921504606846976):Ct Tryz.prog 311 ([.slice (some ⟨b,0,none⟩) 2 2]:List Value).toArray (G.add b (cl [h1.val L1.length,h2.val L2.length] T)) [] (fun _ μ' u=>μ'=[]∧u=.agg (ba 32 (shaD (L1++L2))).toArray):=by
 have h:=shaSum_ok [(h1,L1),(h2,L2)] ⟨some ⟨b,0,none⟩,2⟩ _ (SlP.two hle hs hs2) (hK.mono hle) (by simpa [catL] using hl) (by simp)
 rw [show catL [(h1,L1),(h2,L2)]=L1++L2 by simp [catL]] at h
 exact h
theorem outs_step2 {f g:Nat→Y} {k:Nat} {a b:Y} (ef:f=outs g k) (h:b=g k):upd (upd f k a) k b=outs g (k+1):=by
 rw [upd_upd,ef,h]; rfl
theorem outs_step1 {f g:Nat→Y} {k:Nat} {a:Y} (ef:f=outs g k) (h:a=g k):upd f k a=outs g (k+1):=by
 rw [ef,h]; rfl
theorem pads_ok (key:List Y) (h:Sh) (G:PM) (hs:SlR G 1 encY h key) (hK:RdNP G 6 0 (wa 64 kW)) (hl:key.length≤140737488351232):Ct Tryz.prog 393 ([h.val key.length]:List Value).toArray G [] (fun _ μ' u=>μ'=[]∧u=.tuple #[.agg (ba 64 (padF key 54#8)).toArray,.agg (ba 64 (padF key 92#8)).toArray]):=by
 refine Ct.of Tryz.func393 rfl Tryz.ntmps393 rfl fun w0 hs0=>?_
 refine .seq (rq2 rfl rfl ?_)
 refine al rfl Fx.zq470 ?_; intro b2
 refine al rfl Fx.zq470 ?_; intro b3
 refine .nil (.code (.seq (.seq (rq3 rfl rfl (mV rfl rfl (ln rfl .no Fx.sn25 (.u rfl) (cp rfl .no (.u rfl) (.u rfl) rfl (.nil (.code (.cond rfl (fun c1=>?_) (fun c1=>?_)))))))))))
 ·have c1k:=c1
  try simp only [qcA,qcB] at c1
  have ek1:keyL key=shaL key:=by unfold keyL; rw [if_pos (by omega)]
  refine .seq (rq5 rfl rfl (mV rfl rfl ?_))
  refine Go.Tan.b1 rfl Fx.se351 Fx.zv25 (.u rfl) rfl rfl (by decide) ?_; intro b10
  refine kp rfl .no Fx.go311 (Evc rfl Evn) (Gp.add .here Gp.nil) (fun _ hle hq=>sum1_ok hle hs hK (by omega)) ?_
  refine al rfl Fx.zq34 ?_; intro b4
  refine sw rfl (.u rfl) (.u rfl) rfl Fx.sz34 .here (by first|exact qE|exact qL|rfl) (by first|exact ba_one _ _|exact wa_one _ _|exact one_V _|decide|exact one_app (wa_one _ _) (by simp [Value.oneCell'])) ?_
  refine .nil (.code ?_)
  refine wk_fz .here (by intro b hb; cases hb) ?_; intro Gfb4 hleb4 hbb4
  have hs:=hs.mono hleb4
  refine rq2 rfl rfl ?_
  refine kA rfl .no Fx.ar34 (.u rfl) hbb4 (by first|exact ba_all|exact app_l|exact app_r) ?_; intro h12 L12 eL12 lL12 hs12
  refine aS rfl rfl (.nil ?_)
  have ek1:keyL key=L12:=by rw [ek1,eL12]; rfl
  refine .code (.seq (.seq ?_))
  skip
  refine rq1 rfl rfl (mV rfl rfl (.nil (.code (.block ?_))))
  refine Wk.lop (α:=Nat×(Nat→Y)×(Nat→Y)) (fun gh=>[(13,true,.int .i64 (gh.1:Int))]) (fun gh=>[.blk b3 (cl (ba 64 gh.2.2) 470),.blk b2 (cl (ba 64 gh.2.1) 470)])
   (fun gh Gl=>(gh.1≤64)∧(gh.2.1=outs (padF key 54#8) gh.1)∧(gh.2.2=outs (padF key 92#8) gh.1)) (fun gh=>64-gh.1) (0,fun _=>0#8,fun _=>0#8) [(0,true,_),(2,true,_),(3,true,_)] [_]
   (esC rfl (by first|rfl|exact evi (by omega)) (esD rfl (esD rfl (esD rfl eZ))))
   (mS tk1 rfl (mS tk1 rfl (mS .here rfl mN))) ?_ ?_
  ·refine ⟨?_,?_,?_⟩
   ·(try dsimp only)<;>(first|omega|rfl|assumption|(simp; done))
   ·(try dsimp only)<;>(first|omega|rfl|assumption|(simp; done))
   (try dsimp only)<;>(first|omega|rfl|assumption|(simp; done))
  intro gh N0 Gl0 hN0 hGl0 hF0
  obtain ⟨k,f,f2⟩:=gh; dsimp only at hF0 hN0 ⊢
  obtain ⟨hk,ef,ef2⟩:=hF0
  have hs:=hs.mono hGl0
  have hs12:=hs12.mono hGl0
  refine .seq (rq1 rfl rfl (cp rfl .no (.u rfl) (.u rfl) rfl (.nil (.code (.seq (.cond rfl (fun c2=>?_) (fun c2=>?_)))))))
  ·have c2k:=c2
   try simp only [qcA,qcB] at c2
   refine .skip (.code (.seq (.block (.seq (rq2 rfl rfl (mV rfl rfl (aS rfl rfl (.nil (.code (.seq (rq6 rfl rfl (mV rfl rfl (mV rfl rfl (iA rfl .no Fx.ar470 (.u rfl) (.u rfl) (fun _=>by omega) (fun _=>by omega) ?_))))))))))))))
   refine s1 rfl (.u rfl) (.u rfl) rfl Fx.sz5 tk1 (by first|decide|(simp only [wa_len,ba_len,qlA]; omega)) (by first|exact ba_set1 (z:=54#8) (k) (by omega)|exact wa_set1 (z:=54#32) (k) (by omega)|rfl) ?_
   refine iA rfl .no Fx.ar470 (.u rfl) (.u rfl) (fun _=>by omega) (fun _=>by omega) ?_
   refine s1 rfl (.u rfl) (.u rfl) rfl Fx.sz5 tk1 (by first|decide|(simp only [wa_len,ba_len,qlA]; omega)) (by first|exact ba_set1 (z:=92#8) (k) (by omega)|exact wa_set1 (z:=92#32) (k) (by omega)|rfl) ?_
   refine .nil (.code (.seq (rq4 rfl rfl (mV rfl rfl (mV rfl rfl (ln rfl .no Fx.sn25 (.u rfl) (cp rfl .no (.u rfl) (.u rfl) rfl (.nil (.code (.cond rfl (fun c3=>?_) (fun c3=>?_)))))))))))
   ·have c3k:=c3
    try simp only [qcA,qcB] at c3
    refine .seq (Wk.draw (mc:=⟨false,false⟩) [0,1,2,3,4,5,6,7,8,9] Fx.mix (by kernel_rfl) ?_)
    refine mV rfl rfl (iA rfl .no Fx.ar470 (.u rfl) (.u rfl) (fun _=>by omega) (fun _=>by omega) ?_)
    refine ld rfl .no Fx.ag5 (.u rfl) (fun _=>Rd.own tk1 (by first|exact wa_at1 (k) (by omega) (by omega)|exact ba_at1 (k) (by omega) (by omega)|exact wap_at1 (k) (by omega) (by omega)|rfl)) ?_
    refine mV rfl rfl (mV rfl rfl (ih rfl .no Fx.se25 (.u rfl) (.u rfl) (fun _=>by omega) (fun _=>by omega) (fun _=>hs12.nn (k:=k) (by omega)) ?_))
    refine ld rfl .no Fx.ag5 (.u rfl) (fun _=>(hs12.yat (k) (by omega) (by omega)).rd) ?_
    refine bw (k:=.u8) rfl .no rfl (.u rfl) (.u rfl) rfl (iA rfl .no Fx.ar470 (.u rfl) (.u rfl) (fun _=>by omega) (fun _=>by omega) ?_)
    refine s1 rfl (.u rfl) (.u rfl) rfl Fx.sz5 tk1 (by first|decide|(simp only [wa_len,ba_len,qlA]; omega)) (by first|exact wa_set1 (k) (by omega)|exact ba_set1 (k) (by omega)|exact wap_set1 (k) (by omega) (by omega)|rfl) ?_
    refine .nil (.code (Wk.draw (mc:=⟨false,false⟩) [0,1,2,3,4,5,6,7,8,9] Fx.mix (by kernel_rfl) ?_))
    refine mV rfl rfl (iA rfl .no Fx.ar470 (.u rfl) (.u rfl) (fun _=>by omega) (fun _=>by omega) ?_)
    refine ld rfl .no Fx.ag5 (.u rfl) (fun _=>Rd.own tk1 (by first|exact wa_at1 (k) (by omega) (by omega)|exact ba_at1 (k) (by omega) (by omega)|exact wap_at1 (k) (by omega) (by omega)|rfl)) ?_
    refine mV rfl rfl (mV rfl rfl (ih rfl .no Fx.se25 (.u rfl) (.u rfl) (fun _=>by omega) (fun _=>by omega) (fun _=>hs12.nn (k:=k) (by omega)) ?_))
    refine ld rfl .no Fx.ag5 (.u rfl) (fun _=>(hs12.yat (k) (by omega) (by omega)).rd) ?_
    refine bw (k:=.u8) rfl .no rfl (.u rfl) (.u rfl) rfl (iA rfl .no Fx.ar470 (.u rfl) (.u rfl) (fun _=>by omega) (fun _=>by omega) ?_)
    refine s1 rfl (.u rfl) (.u rfl) rfl Fx.sz5 tk1 (by first|decide|(simp only [wa_len,ba_len,qlA]; omega)) (by first|exact wa_set1 (k) (by omega)|exact ba_set1 (k) (by omega)|exact wap_set1 (k) (by omega) (by omega)|rfl) ?_
    refine .nil (.blk (.code (rq2 rfl rfl (arn (((k+1):Nat):Int) rfl .no (.u rfl) (.u rfl) rfl (fun _=>by omega) (fun _=>wrap_i64 (by omega) (by omega)) ?_))))
    refine mV rfl rfl (.nil (We.lpo (k+1,upd (upd f k 54#8) k (upd f k 54#8 k ^^^ L12.getD k 0),upd (upd f2 k 92#8) k (upd f2 k 92#8 k ^^^ L12.getD k 0)) ?_ ?_ ?_ ?_ ?_))
    ·exact (esC rfl (by first|rfl|exact evi (by omega)) (esD rfl (esD rfl (esD rfl eZ))))
    ·exact (mS .here rfl (mS .here rfl (mS .here rfl mN)))
    ·first|omega|(dsimp only; omega)
    ·exact hGl0
    refine ⟨?_,?_,?_⟩
    ·(try dsimp only)<;>(first|omega|rfl|assumption|(simp; done))
    ·(try dsimp only)<;>(exact outs_step2 ef (by rw [upd_at,padF,ek1,if_pos (by omega)]))
    (try dsimp only)<;>(exact outs_step2 ef2 (by rw [upd_at,padF,ek1,if_pos (by omega)]))
   have c3k:=c3
   try simp only [qcA,qcB] at c3
   refine .skip (.blk (.code (rq2 rfl rfl (arn (((k+1):Nat):Int) rfl .no (.u rfl) (.u rfl) rfl (fun _=>by omega) (fun _=>wrap_i64 (by omega) (by omega)) ?_))))
   refine mV rfl rfl (.nil (We.lpo (k+1,upd f k 54#8,upd f2 k 92#8) ?_ ?_ ?_ ?_ ?_))
   ·exact (esC rfl (by first|rfl|exact evi (by omega)) (esD rfl (esD rfl (esD rfl eZ))))
   ·exact (mS .here rfl (mS .here rfl (mS .here rfl mN)))
   ·first|omega|(dsimp only; omega)
   ·exact hGl0
   refine ⟨?_,?_,?_⟩
   ·(try dsimp only)<;>(first|omega|rfl|assumption|(simp; done))
   ·(try dsimp only)<;>(exact outs_step1 ef (by rw [padF,ek1,if_neg (by omega)]))
   (try dsimp only)<;>(exact outs_step1 ef2 (by rw [padF,ek1,if_neg (by omega)]))
  have c2k:=c2
  try simp only [qcA,qcB] at c2
  refine .exit (.xcode (.xlp (.xblk (.code (.seq (Wk.drawT Fx.mix rfl ?_))))))
  refine WoT.n2 0 1 (by kernel_rfl) ?_ ?_
  ·refine lA rfl .no Fx.ag470 (.u rfl) (fun _=>RdN.own tk1) (fun _=>(by first|exact qE|exact qL|rfl)) ?_
   refine .nil (WoT.n2 1 2 (by kernel_rfl) ?_ ?_)
   ·refine lA rfl .no Fx.ag470 (.u rfl) (fun _=>RdN.own .here) (fun _=>(by first|exact qE|exact qL|rfl)) ?_
    refine .nil (WoT.n1 2 (by kernel_rfl) ?_)
    refine sw rfl (.u rfl) (.u rfl) rfl Fx.sz470 tk1 (by first|exact qE|exact qL|rfl) (by first|exact ba_one _ _|exact wa_one _ _|exact one_V _|decide|exact one_app (wa_one _ _) (by simp [Value.oneCell'])) ?_
    refine .nil (WoT.n1 3 (by kernel_rfl) ?_)
    refine sw rfl (.u rfl) (.u rfl) rfl Fx.sz470 tk1 (by first|exact qE|exact qL|rfl) (by first|exact ba_one _ _|exact wa_one _ _|exact one_V _|decide|exact one_app (wa_one _ _) (by simp [Value.oneCell'])) ?_
    refine .nil (WoT.last (by kernel_rfl) ?_)
    refine .code (.ret (We.fin0 Tryz.results393 (.cell rfl (fun w hw=>run_loadVarN Fx.ag470 (RdN.own tk1) ((by first|exact qE|exact qL|rfl)) hw) (.cell rfl (fun w hw=>run_loadVarN Fx.ag470 (RdN.own .here) ((by first|exact qE|exact qL|rfl)) hw) .nil)) ?_))
    obtain rfl:k=64:=by omega
    exact ⟨rfl,by rw [ef,ef2,ba_congr (fun i hi=>outs_eq (padF key 54#8) hi),ba_congr (fun i hi=>outs_eq (padF key 92#8) hi)]; rfl⟩
   refine sw rfl (.u rfl) (.u rfl) rfl Fx.sz470 tk1 (by first|exact qE|exact qL|rfl) (by first|exact ba_one _ _|exact wa_one _ _|exact one_V _|decide|exact one_app (wa_one _ _) (by simp [Value.oneCell'])) ?_
   refine .nil (WoT.n1 1 (by kernel_rfl) ?_)
   refine lA rfl .no Fx.ag470 (.u rfl) (fun _=>RdN.own tk1) (fun _=>(by first|exact qE|exact qL|rfl)) ?_
   refine .nil (WoT.n1 3 (by kernel_rfl) ?_)
   refine sw rfl (.u rfl) (.u rfl) rfl Fx.sz470 tk1 (by first|exact qE|exact qL|rfl) (by first|exact ba_one _ _|exact wa_one _ _|exact one_V _|decide|exact one_app (wa_one _ _) (by simp [Value.oneCell'])) ?_
   refine .nil (WoT.last (by kernel_rfl) ?_)
   refine .code (.ret (We.fin0 Tryz.results393 (.cell rfl (fun w hw=>run_loadVarN Fx.ag470 (RdN.own tk1) ((by first|exact qE|exact qL|rfl)) hw) (.cell rfl (fun w hw=>run_loadVarN Fx.ag470 (RdN.own .here) ((by first|exact qE|exact qL|rfl)) hw) .nil)) ?_))
   obtain rfl:k=64:=by omega
   exact ⟨rfl,by rw [ef,ef2,ba_congr (fun i hi=>outs_eq (padF key 54#8) hi),ba_congr (fun i hi=>outs_eq (padF key 92#8) hi)]; rfl⟩
  refine lA rfl .no Fx.ag470 (.u rfl) (fun _=>RdN.own .here) (fun _=>(by first|exact qE|exact qL|rfl)) ?_
  refine .nil (WoT.n1 0 (by kernel_rfl) ?_)
  refine lA rfl .no Fx.ag470 (.u rfl) (fun _=>RdN.own tk1) (fun _=>(by first|exact qE|exact qL|rfl)) ?_
  refine .nil (WoT.n1 2 (by kernel_rfl) ?_)
  refine sw rfl (.u rfl) (.u rfl) rfl Fx.sz470 tk1 (by first|exact qE|exact qL|rfl) (by first|exact ba_one _ _|exact wa_one _ _|exact one_V _|decide|exact one_app (wa_one _ _) (by simp [Value.oneCell'])) ?_
  refine .nil (WoT.n1 3 (by kernel_rfl) ?_)
  refine sw rfl (.u rfl) (.u rfl) rfl Fx.sz470 tk1 (by first|exact qE|exact qL|rfl) (by first|exact ba_one _ _|exact wa_one _ _|exact one_V _|decide|exact one_app (wa_one _ _) (by simp [Value.oneCell'])) ?_
  refine .nil (WoT.last (by kernel_rfl) ?_)
  refine .code (.ret (We.fin0 Tryz.results393 (.cell rfl (fun w hw=>run_loadVarN Fx.ag470 (RdN.own tk1) ((by first|exact qE|exact qL|rfl)) hw) (.cell rfl (fun w hw=>run_loadVarN Fx.ag470 (RdN.own .here) ((by first|exact qE|exact qL|rfl)) hw) .nil)) ?_))
  obtain rfl:k=64:=by omega
  exact ⟨rfl,by rw [ef,ef2,ba_congr (fun i hi=>outs_eq (padF key 54#8) hi),ba_congr (fun i hi=>outs_eq (padF key 92#8) hi)]; rfl⟩
 have c1k:=c1
 try simp only [qcA,qcB] at c1
 have ek2:keyL key=key:=by unfold keyL; rw [if_neg (by omega)]
 refine .skip (.code (.seq (.seq ?_)))
 skip
 refine rq1 rfl rfl (mV rfl rfl (.nil (.code (.block ?_))))
 refine Wk.lop (α:=Nat×(Nat→Y)×(Nat→Y)) (fun gh=>[(13,true,.int .i64 (gh.1:Int))]) (fun gh=>[.blk b3 (cl (ba 64 gh.2.2) 470),.blk b2 (cl (ba 64 gh.2.1) 470)])
  (fun gh Gl=>(gh.1≤64)∧(gh.2.1=outs (padF key 54#8) gh.1)∧(gh.2.2=outs (padF key 92#8) gh.1)) (fun gh=>64-gh.1) (0,fun _=>0#8,fun _=>0#8) [(0,true,_),(2,true,_),(3,true,_)] []
  (esC rfl (by first|rfl|exact evi (by omega)) (esD rfl (esD rfl (esD rfl eZ))))
  (mS .here rfl (mS .here rfl mN)) ?_ ?_
 ·refine ⟨?_,?_,?_⟩
  ·(try dsimp only)<;>(first|omega|rfl|assumption|(simp; done))
  ·(try dsimp only)<;>(first|omega|rfl|assumption|(simp; done))
  (try dsimp only)<;>(first|omega|rfl|assumption|(simp; done))
 intro gh N1 Gl1 hN1 hGl1 hF1
 obtain ⟨k,f,f2⟩:=gh; dsimp only at hF1 hN1 ⊢
 obtain ⟨hk,ef,ef2⟩:=hF1
 have hs:=hs.mono hGl1
 refine .seq (rq1 rfl rfl (cp rfl .no (.u rfl) (.u rfl) rfl (.nil (.code (.seq (.cond rfl (fun c4=>?_) (fun c4=>?_)))))))
 ·have c4k:=c4
  try simp only [qcA,qcB] at c4
  refine .skip (.code (.seq (.block (.seq (rq2 rfl rfl (mV rfl rfl (aS rfl rfl (.nil (.code (.seq (rq6 rfl rfl (mV rfl rfl (mV rfl rfl (iA rfl .no Fx.ar470 (.u rfl) (.u rfl) (fun _=>by omega) (fun _=>by omega) ?_))))))))))))))
  refine s1 rfl (.u rfl) (.u rfl) rfl Fx.sz5 tk1 (by first|decide|(simp only [wa_len,ba_len,qlA]; omega)) (by first|exact ba_set1 (z:=54#8) (k) (by omega)|exact wa_set1 (z:=54#32) (k) (by omega)|rfl) ?_
  refine iA rfl .no Fx.ar470 (.u rfl) (.u rfl) (fun _=>by omega) (fun _=>by omega) ?_
  refine s1 rfl (.u rfl) (.u rfl) rfl Fx.sz5 tk1 (by first|decide|(simp only [wa_len,ba_len,qlA]; omega)) (by first|exact ba_set1 (z:=92#8) (k) (by omega)|exact wa_set1 (z:=92#32) (k) (by omega)|rfl) ?_
  refine .nil (.code (.seq (rq4 rfl rfl (mV rfl rfl (mV rfl rfl (ln rfl .no Fx.sn25 (.u rfl) (cp rfl .no (.u rfl) (.u rfl) rfl (.nil (.code (.cond rfl (fun c5=>?_) (fun c5=>?_)))))))))))
  ·have c5k:=c5
   try simp only [qcA,qcB] at c5
   refine .seq (Wk.draw (mc:=⟨false,false⟩) [0,1,2,3,4,5,6,7,8,9] Fx.mix (by kernel_rfl) ?_)
   refine mV rfl rfl (iA rfl .no Fx.ar470 (.u rfl) (.u rfl) (fun _=>by omega) (fun _=>by omega) ?_)
   refine ld rfl .no Fx.ag5 (.u rfl) (fun _=>Rd.own tk1 (by first|exact wa_at1 (k) (by omega) (by omega)|exact ba_at1 (k) (by omega) (by omega)|exact wap_at1 (k) (by omega) (by omega)|rfl)) ?_
   refine mV rfl rfl (mV rfl rfl (ih rfl .no Fx.se25 (.u rfl) (.u rfl) (fun _=>by omega) (fun _=>by omega) (fun _=>hs.nn (k:=k) (by omega)) ?_))
   refine ld rfl .no Fx.ag5 (.u rfl) (fun _=>(hs.yat (k) (by omega) (by omega)).rd) ?_
   refine bw (k:=.u8) rfl .no rfl (.u rfl) (.u rfl) rfl (iA rfl .no Fx.ar470 (.u rfl) (.u rfl) (fun _=>by omega) (fun _=>by omega) ?_)
   refine s1 rfl (.u rfl) (.u rfl) rfl Fx.sz5 tk1 (by first|decide|(simp only [wa_len,ba_len,qlA]; omega)) (by first|exact wa_set1 (k) (by omega)|exact ba_set1 (k) (by omega)|exact wap_set1 (k) (by omega) (by omega)|rfl) ?_
   refine .nil (.code (Wk.draw (mc:=⟨false,false⟩) [0,1,2,3,4,5,6,7,8,9] Fx.mix (by kernel_rfl) ?_))
   refine mV rfl rfl (iA rfl .no Fx.ar470 (.u rfl) (.u rfl) (fun _=>by omega) (fun _=>by omega) ?_)
   refine ld rfl .no Fx.ag5 (.u rfl) (fun _=>Rd.own tk1 (by first|exact wa_at1 (k) (by omega) (by omega)|exact ba_at1 (k) (by omega) (by omega)|exact wap_at1 (k) (by omega) (by omega)|rfl)) ?_
   refine mV rfl rfl (mV rfl rfl (ih rfl .no Fx.se25 (.u rfl) (.u rfl) (fun _=>by omega) (fun _=>by omega) (fun _=>hs.nn (k:=k) (by omega)) ?_))
   refine ld rfl .no Fx.ag5 (.u rfl) (fun _=>(hs.yat (k) (by omega) (by omega)).rd) ?_
   refine bw (k:=.u8) rfl .no rfl (.u rfl) (.u rfl) rfl (iA rfl .no Fx.ar470 (.u rfl) (.u rfl) (fun _=>by omega) (fun _=>by omega) ?_)
   refine s1 rfl (.u rfl) (.u rfl) rfl Fx.sz5 tk1 (by first|decide|(simp only [wa_len,ba_len,qlA]; omega)) (by first|exact wa_set1 (k) (by omega)|exact ba_set1 (k) (by omega)|exact wap_set1 (k) (by omega) (by omega)|rfl) ?_
   refine .nil (.blk (.code (rq2 rfl rfl (arn (((k+1):Nat):Int) rfl .no (.u rfl) (.u rfl) rfl (fun _=>by omega) (fun _=>wrap_i64 (by omega) (by omega)) ?_))))
   refine mV rfl rfl (.nil (We.lpo (k+1,upd (upd f k 54#8) k (upd f k 54#8 k ^^^ key.getD k 0),upd (upd f2 k 92#8) k (upd f2 k 92#8 k ^^^ key.getD k 0)) ?_ ?_ ?_ ?_ ?_))
   ·exact (esC rfl (by first|rfl|exact evi (by omega)) (esD rfl (esD rfl (esD rfl eZ))))
   ·exact (mS .here rfl (mS .here rfl mN))
   ·first|omega|(dsimp only; omega)
   ·exact hGl1
   refine ⟨?_,?_,?_⟩
   ·(try dsimp only)<;>(first|omega|rfl|assumption|(simp; done))
   ·(try dsimp only)<;>(exact outs_step2 ef (by rw [upd_at,padF,ek2,if_pos (by omega)]))
   (try dsimp only)<;>(exact outs_step2 ef2 (by rw [upd_at,padF,ek2,if_pos (by omega)]))
  have c5k:=c5
  try simp only [qcA,qcB] at c5
  refine .skip (.blk (.code (rq2 rfl rfl (arn (((k+1):Nat):Int) rfl .no (.u rfl) (.u rfl) rfl (fun _=>by omega) (fun _=>wrap_i64 (by omega) (by omega)) ?_))))
  refine mV rfl rfl (.nil (We.lpo (k+1,upd f k 54#8,upd f2 k 92#8) ?_ ?_ ?_ ?_ ?_))
  ·exact (esC rfl (by first|rfl|exact evi (by omega)) (esD rfl (esD rfl (esD rfl eZ))))
  ·exact (mS .here rfl (mS .here rfl mN))
  ·first|omega|(dsimp only; omega)
  ·exact hGl1
  refine ⟨?_,?_,?_⟩
  ·(try dsimp only)<;>(first|omega|rfl|assumption|(simp; done))
  ·(try dsimp only)<;>(exact outs_step1 ef (by rw [padF,ek2,if_neg (by omega)]))
  (try dsimp only)<;>(exact outs_step1 ef2 (by rw [padF,ek2,if_neg (by omega)]))
 have c4k:=c4
 try simp only [qcA,qcB] at c4
 refine .exit (.xcode (.xlp (.xblk (.code (.seq (Wk.drawT Fx.mix rfl ?_))))))
 refine WoT.n2 0 1 (by kernel_rfl) ?_ ?_
 ·refine lA rfl .no Fx.ag470 (.u rfl) (fun _=>RdN.own tk1) (fun _=>(by first|exact qE|exact qL|rfl)) ?_
  refine .nil (WoT.n2 1 2 (by kernel_rfl) ?_ ?_)
  ·refine lA rfl .no Fx.ag470 (.u rfl) (fun _=>RdN.own .here) (fun _=>(by first|exact qE|exact qL|rfl)) ?_
   refine .nil (WoT.n1 2 (by kernel_rfl) ?_)
   refine sw rfl (.u rfl) (.u rfl) rfl Fx.sz470 tk1 (by first|exact qE|exact qL|rfl) (by first|exact ba_one _ _|exact wa_one _ _|exact one_V _|decide|exact one_app (wa_one _ _) (by simp [Value.oneCell'])) ?_
   refine .nil (WoT.n1 3 (by kernel_rfl) ?_)
   refine sw rfl (.u rfl) (.u rfl) rfl Fx.sz470 tk1 (by first|exact qE|exact qL|rfl) (by first|exact ba_one _ _|exact wa_one _ _|exact one_V _|decide|exact one_app (wa_one _ _) (by simp [Value.oneCell'])) ?_
   refine .nil (WoT.last (by kernel_rfl) ?_)
   refine .code (.ret (We.fin0 Tryz.results393 (.cell rfl (fun w hw=>run_loadVarN Fx.ag470 (RdN.own tk1) ((by first|exact qE|exact qL|rfl)) hw) (.cell rfl (fun w hw=>run_loadVarN Fx.ag470 (RdN.own .here) ((by first|exact qE|exact qL|rfl)) hw) .nil)) ?_))
   obtain rfl:k=64:=by omega
   exact ⟨rfl,by rw [ef,ef2,ba_congr (fun i hi=>outs_eq (padF key 54#8) hi),ba_congr (fun i hi=>outs_eq (padF key 92#8) hi)]; rfl⟩
  refine sw rfl (.u rfl) (.u rfl) rfl Fx.sz470 tk1 (by first|exact qE|exact qL|rfl) (by first|exact ba_one _ _|exact wa_one _ _|exact one_V _|decide|exact one_app (wa_one _ _) (by simp [Value.oneCell'])) ?_
  refine .nil (WoT.n1 1 (by kernel_rfl) ?_)
  refine lA rfl .no Fx.ag470 (.u rfl) (fun _=>RdN.own tk1) (fun _=>(by first|exact qE|exact qL|rfl)) ?_
  refine .nil (WoT.n1 3 (by kernel_rfl) ?_)
  refine sw rfl (.u rfl) (.u rfl) rfl Fx.sz470 tk1 (by first|exact qE|exact qL|rfl) (by first|exact ba_one _ _|exact wa_one _ _|exact one_V _|decide|exact one_app (wa_one _ _) (by simp [Value.oneCell'])) ?_
  refine .nil (WoT.last (by kernel_rfl) ?_)
  refine .code (.ret (We.fin0 Tryz.results393 (.cell rfl (fun w hw=>run_loadVarN Fx.ag470 (RdN.own tk1) ((by first|exact qE|exact qL|rfl)) hw) (.cell rfl (fun w hw=>run_loadVarN Fx.ag470 (RdN.own .here) ((by first|exact qE|exact qL|rfl)) hw) .nil)) ?_))
  obtain rfl:k=64:=by omega
  exact ⟨rfl,by rw [ef,ef2,ba_congr (fun i hi=>outs_eq (padF key 54#8) hi),ba_congr (fun i hi=>outs_eq (padF key 92#8) hi)]; rfl⟩
 refine lA rfl .no Fx.ag470 (.u rfl) (fun _=>RdN.own .here) (fun _=>(by first|exact qE|exact qL|rfl)) ?_
 refine .nil (WoT.n1 0 (by kernel_rfl) ?_)
 refine lA rfl .no Fx.ag470 (.u rfl) (fun _=>RdN.own tk1) (fun _=>(by first|exact qE|exact qL|rfl)) ?_
 refine .nil (WoT.n1 2 (by kernel_rfl) ?_)
 refine sw rfl (.u rfl) (.u rfl) rfl Fx.sz470 tk1 (by first|exact qE|exact qL|rfl) (by first|exact ba_one _ _|exact wa_one _ _|exact one_V _|decide|exact one_app (wa_one _ _) (by simp [Value.oneCell'])) ?_
 refine .nil (WoT.n1 3 (by kernel_rfl) ?_)
 refine sw rfl (.u rfl) (.u rfl) rfl Fx.sz470 tk1 (by first|exact qE|exact qL|rfl) (by first|exact ba_one _ _|exact wa_one _ _|exact one_V _|decide|exact one_app (wa_one _ _) (by simp [Value.oneCell'])) ?_
 refine .nil (WoT.last (by kernel_rfl) ?_)
 refine .code (.ret (We.fin0 Tryz.results393 (.cell rfl (fun w hw=>run_loadVarN Fx.ag470 (RdN.own tk1) ((by first|exact qE|exact qL|rfl)) hw) (.cell rfl (fun w hw=>run_loadVarN Fx.ag470 (RdN.own .here) ((by first|exact qE|exact qL|rfl)) hw) .nil)) ?_))
 obtain rfl:k=64:=by omega
 exact ⟨rfl,by rw [ef,ef2,ba_congr (fun i hi=>outs_eq (padF key 54#8) hi),ba_congr (fun i hi=>outs_eq (padF key 92#8) hi)]; rfl⟩
namespace Fx
theorem go393:goFn Tryz.prog 393=true:=by kernel_rfl
theorem go394:goFn Tryz.prog 394=true:=by kernel_rfl
theorem go395:goFn Tryz.prog 395=true:=by kernel_rfl
theorem zq451:zrL Tryz.prog 451=some (ba 16 (fun _=>0#8)):=by kernel_rfl
theorem fo254_1:fOff Tryz.prog 254 1=some 32:=by kernel_rfl
theorem ar405:arE Tryz.prog 405=some (12,5,1):=by kernel_rfl
theorem go207:goFn Tryz.prog 207=true:=by kernel_rfl
theorem go381:goFn Tryz.prog 381=true:=by kernel_rfl
theorem ar451:arE Tryz.prog 451=some (16,5,1):=by kernel_rfl
theorem ag451:aggN Tryz.prog 451=some (some 16):=by kernel_rfl
theorem sz451:szT Tryz.prog 451=some 16:=by kernel_rfl
theorem fo254_0:fOff Tryz.prog 254 0=some 0:=by kernel_rfl
theorem ag405:aggN Tryz.prog 405=some (some 12):=by kernel_rfl
theorem go340:goFn Tryz.prog 340=true:=by kernel_rfl
theorem ag254:aggN Tryz.prog 254=some (some 64):=by kernel_rfl
theorem go341:goFn Tryz.prog 341=true:=by kernel_rfl
end Fx
theorem macSum_ok (key:List Y) (hk:Sh) (ps:List (Sh×List Y)) (h:Sh) (G:PM) (hsk:SlR G 1 encY hk key) (hs:SlP G h ps) (hK:RdNP G 6 0 (wa 64 kW)) (hlk:key.length≤140737488351232) (hl:(catL ps).length≤1000000000000000) (hn:ps.length≤1000):Ct Tryz.prog 381 ([hk.val key.length,h.val ps.length]:List Value).toArray G [] (fun _ μ' u=>μ'=[]∧u=.agg (ba 32 (macL key (catL ps))).toArray):=by
 refine Ct.of Tryz.func381 rfl Tryz.ntmps381 rfl fun w0 hs0=>?_
 refine .seq (rq1 rfl rfl ?_)
 refine al rfl Fx.zq34 ?_; intro b4
 refine .nil (.code (.seq (rq9 rfl rfl (mV rfl rfl (kv rfl .no Fx.go393 (Evc rfl Evn) (fun _=>pads_ok key hk _ hsk hK hlk) ?_)))))
 refine mV rfl rfl (ex rfl .no (.u rfl) rfl (ex rfl .no (.u rfl) rfl ?_))
 refine al rfl Fx.zq470 ?_; intro b5
 refine al rfl Fx.zq470 ?_; intro b6
 refine sw rfl (.u rfl) (.u rfl) rfl Fx.sz470 tk1 (by first|exact qE|exact qL|rfl) (by first|exact ba_one _ _|exact wa_one _ _|exact one_V _|decide|exact one_app (wa_one _ _) (by simp [Value.oneCell'])) ?_
 refine sw rfl (.u rfl) (.u rfl) rfl Fx.sz470 tk1 (by first|exact qE|exact qL|rfl) (by first|exact ba_one _ _|exact wa_one _ _|exact one_V _|decide|exact one_app (wa_one _ _) (by simp [Value.oneCell'])) ?_
 refine .nil (.code (.seq ?_))
 refine wk_fz tk1 (by intro b hb; cases hb) ?_; intro Gfb5 hleb5 hbb5
 have hs:=hs.mono hleb5
 have hK:=hK.mono hleb5
 refine wk_fz .here (by intro b hb; cases hb) ?_; intro Gfb6 hleb6 hbb6
 have hs:=hs.mono hleb6
 have hK:=hK.mono hleb6
 have hbb5:=hbb5.mono hleb6
 refine rq2 rfl rfl (kc rfl Fx.go394 Evn (New_ok _) ?_)
 rintro _ G16 μ16 hG16 ⟨b16,rfl,rfl⟩
 have hs:=hs.mono hG16
 have hK:=hK.mono hG16
 have hbb5:=hbb5.mono hG16
 have hbb6:=hbb6.mono hG16
 refine aS rfl rfl (.nil (.code (.seq (rq3 rfl rfl (mV rfl rfl ?_)))))
 refine kA rfl .no Fx.ar470 (.u rfl) hbb5 (by first|exact ba_all|exact app_l|exact app_r) ?_; intro h18 L18 eL18 lL18 hs18
 refine ka rfl (.inr rfl) Fx.go395 (Evc rfl (Evc rfl Evn)) (mtk2 .here .here) (Write_ok [] L18 _ _ _ _ hs18 hK (by simp; omega)) ?_
 rintro _ G19 μ19 hG19 ⟨vq0,rfl,rfl⟩
 have hs:=hs.mono hG19
 have hK:=hK.mono hG19
 have hbb6:=hbb6.mono hG19
 refine .nil (.code (.seq (.seq (rq3 rfl rfl (mV rfl rfl (ln rfl .no Fx.sn351 (.u rfl) (mV rfl rfl (.nil (.code (.block ?_))))))))))
 refine Wk.lop (α:=Nat×Value) (fun gh=>[(22,true,.int .i64 (gh.1:Int))]) (fun gh=>[.blk b16 (cl (stC (L18++catL (ps.take gh.1)) gh.2) 463),rB gh.2 5 (restL (L18++catL (ps.take gh.1)))])
  (fun gh Gl=>(gh.1≤ps.length)) (fun gh=>ps.length-gh.1) (0,vq0) [(4,true,_),(6,true,_),(7,true,_),(20,true,_),(21,true,_)] [_]
  (esC rfl (by first|rfl|exact evi (by omega)) (esD rfl (esD rfl (esD rfl (esD rfl (esD rfl eZ))))))
  (mS .here (by simp [catL]) (mS .here (by simp [catL]) (mS .here rfl mN))) ?_ ?_
 ·(try dsimp only)<;>(first|omega|rfl|assumption|(simp; done))
 intro gh N0 Gl0 hN0 hGl0 hF0
 obtain ⟨k,vq⟩:=gh; dsimp only at hF0 hN0 ⊢
 have hk:=hF0
 have hs:=hs.mono hGl0
 have hK:=hK.mono hGl0
 have hbb6:=hbb6.mono hGl0
 refine .seq (rq1 rfl rfl (cp rfl .no (.u rfl) (.u rfl) rfl (.nil (.code (.seq (.cond rfl (fun c1=>?_) (fun c1=>?_)))))))
 ·have c1k:=c1
  try simp only [qcA,qcB] at c1
  refine .skip (.code (.seq (.block (.seq (rq3 rfl rfl (ih rfl .no Fx.se351 (.u rfl) (.u rfl) (fun _=>by omega) (fun _=>by omega) (fun _=>hs.sl.nn (k:=k) (by omega)) ?_))))))
  obtain ⟨p25,ep25⟩:=getx (k:=k) (xs:=ps) (by omega)
  have hq25:=hs.get ep25
  refine ld rfl .no Fx.ag25 (.u rfl) (fun _=>(hs.at (k) (by omega) ep25).rd) ?_
  refine aS rfl rfl (.nil (.code (rq3 rfl rfl (mV rfl rfl (mV rfl rfl (ka rfl (.inr rfl) Fx.go395 (Evc rfl (Evc rfl Evn)) (mtk2 .here .here) (Write_ok (L18++catL (ps.take k)) p25.2 _ _ _ _ hq25 hK (by have:=cat_len ep25; rw [List.length_append]; omega)) ?_))))))
  rintro _ G28 μ28 hG28 ⟨vq',rfl,rfl⟩
  have hK:=hK.mono hG28
  have hbb6:=hbb6.mono hG28
  refine .nil (.blk (.code (rq2 rfl rfl (arn (((k+1):Nat):Int) rfl .no (.u rfl) (.u rfl) rfl (fun _=>by omega) (fun _=>wrap_i64 (by omega) (by omega)) ?_))))
  refine mV rfl rfl (.nil (We.lpo (k+1,vq') ?_ ?_ ?_ ?_ ?_))
  ·exact (esC rfl (by first|rfl|exact evi (by omega)) (esD rfl (esD rfl (esD rfl (esD rfl (esD rfl eZ))))))
  ·exact (mS .here (by rw [cat_take ep25,List.append_assoc]) (mS .here (by rw [cat_take ep25,List.append_assoc]) (mS .here rfl mN)))
  ·first|omega|(dsimp only; omega)
  ·exact (hGl0).trans hG28
  (try dsimp only)<;>(first|omega|rfl|assumption|(simp; done))
 have c1k:=c1
 try simp only [qcA,qcB] at c1
 refine .exit (.xcode (.xlp (.xblk (.code (.seq ?_)))))
 obtain rfl:k=ps.length:=by omega
 rw [List.take_length]
 refine rq4 rfl rfl (mV rfl rfl (ka rfl (.inr rfl) Fx.go352 (Evc rfl Evn) (mtk2 .here .here) (StSum_ok (L18++catL ps) _ _ _ hK (by rw [List.length_append]; omega)) ?_))
 rintro _ G31 μ31 hG31 ⟨rfl,rfl⟩
 have hK:=hK.mono hG31
 have hbb6:=hbb6.mono hG31
 refine al rfl Fx.zq34 ?_; intro b10
 refine sw rfl (.u rfl) (.u rfl) rfl Fx.sz34 .here (by first|exact qE|exact qL|rfl) (by first|exact ba_one _ _|exact wa_one _ _|exact one_V _|decide|exact one_app (wa_one _ _) (by simp [Value.oneCell'])) ?_
 refine .nil (.code (.seq ?_))
 refine wk_fz .here (by intro b hb; cases hb) ?_; intro Gfb10 hleb10 hbb10
 have hK:=hK.mono hleb10
 have hbb6:=hbb6.mono hleb10
 refine Wk.draw (mc:=⟨false,false⟩) [0,1,2,3,4] Fx.mix (by kernel_rfl) ?_
 refine kA rfl .no Fx.ar470 (.u rfl) hbb6 (by first|exact ba_all|exact app_l|exact app_r) ?_; intro h32 L32 eL32 lL32 hs32
 refine kA rfl .no Fx.ar34 (.u rfl) hbb10 (by first|exact ba_all|exact app_l|exact app_r) ?_; intro h33 L33 eL33 lL33 hs33
 refine Go.Tan.bN rfl Fx.se351 Fx.zv25 (Evp.cons (.u rfl) (Evp.cons (.u rfl) Evp.nil)) rfl (by decide) (by simp [Value.oneCell',Sh.val]) ?_; intro b34
 refine kp rfl .no Fx.go311 (Evc rfl Evn) (Gp.add .here Gp.nil) (fun _ hle hq=>sum2_ok hle hs32 hs33 hK (by omega)) ?_
 refine sw rfl (.u rfl) (.u rfl) rfl Fx.sz34 tk3 (by first|exact qE|exact qL|rfl) (by first|exact ba_one _ _|exact wa_one _ _|exact one_V _|decide|exact one_app (wa_one _ _) (by simp [Value.oneCell'])) ?_
 refine .nil (.code (.ret (We.fin0 Tryz.results381 (.cell rfl (fun w hw=>run_loadVarN Fx.ag34 (RdN.own .here) ((by first|exact qE|exact qL|rfl)) hw) .nil) ?_)))
 exact ⟨rfl,by rw [eL32,eL33,eL18]; rfl⟩
theorem mac4_ok {G:PM} {b T:Nat} {hk h1 h2 h3 h4:Sh} {key L1 L2 L3 L4:List Y} (hle:PM.le G (G.add b (cl [h1.val L1.length,h2.val L2.length,h3.val L3.length,h4.val L4.length] T))) (hsk:SlR G 1 encY hk key) (hs:SlR G 1 encY h1 L1) (hs2:SlR G 1 encY h2 L2) (hs3:SlR G 1 encY h3 L3) (hs4:SlR G 1 encY h4 L4) (hK:RdNP G 6 0 (wa 64 kW)) (hlk:key.length≤140737488351232) (hl:L1.length+L2.length+L3.length+L4.length≤1000000000000000) :
  Ct Tryz.prog 381 ([hk.val key.length,.slice (some ⟨b,0,none⟩) 4 4]:List Value).toArray (G.add b (cl [h1.val L1.length,h2.val L2.length,h3.val L3.length,h4.val L4.length] T)) [] (fun _ μ' u=>μ'=[]∧u=.agg (ba 32 (macL key (L1++L2++L3++L4))).toArray):=by
 have h:=macSum_ok key hk [(h1,L1),(h2,L2),(h3,L3),(h4,L4)] ⟨some ⟨b,0,none⟩,4⟩ _ (hsk.mono hle) (SlP.four hle hs hs2 hs3 hs4) (hK.mono hle) hlk (by simp [catL]; omega) (by simp)
 rw [show catL [(h1,L1),(h2,L2),(h3,L3),(h4,L4)]=L1++L2++L3++L4 by simp [catL]] at h
 exact h
theorem Tag_ok (enc mac nonce:Nat→Y) (ad:List Y) (ha:Sh) (xs:List Y) (hx:Sh) (G:PM) (hsa:SlR G 1 encY ha ad) (hsx:SlR G 1 encY hx xs) (hK:RdNP G 6 0 (wa 64 kW)) (hla:ad.length≤140737488351232) (hl:xs.length≤140737488355328):Ct Tryz.prog 341 ([.agg (ba 32 enc++ba 32 mac).toArray,.agg (ba 12 nonce).toArray,ha.val ad.length,hx.val xs.length]:List Value).toArray G [] (fun _ μ' u=>μ'=[]∧u=.agg (ba 16 (tagF mac nonce ad xs)).toArray):=by
 refine Ct.of Tryz.func341 rfl Tryz.ntmps341 rfl fun w0 hs0=>?_
 refine .seq (rq3 rfl rfl ?_)
 refine bx rfl (.u rfl) rfl ?_; intro b4
 refine bx rfl (.u rfl) rfl ?_; intro b5
 refine al rfl Fx.zq451 ?_; intro b8
 refine .nil (.code (.seq ?_))
 refine wk_fz tk2 (by intro b hb; cases hb) ?_; intro Gfb4 hleb4 hbb4
 have hsa:=hsa.mono hleb4
 have hsx:=hsx.mono hleb4
 have hK:=hK.mono hleb4
 refine wk_fz tk1 (by intro b hb; cases hb) ?_; intro Gfb5 hleb5 hbb5
 have hsa:=hsa.mono hleb5
 have hsx:=hsx.mono hleb5
 have hK:=hK.mono hleb5
 have hbb4:=hbb4.mono hleb5
 refine Wk.draw (mc:=⟨false,false⟩) [0,1,2,3,4,6,7,8,5,9,10,11,12] Fx.mix (by kernel_rfl) ?_
 refine fa rfl .no Fx.fo254_1 (.u rfl) ?_
 refine kA rfl .no Fx.ar33 (.u rfl) hbb4 (by first|exact ba_all|exact app_l|exact app_r) ?_; intro h11 L11 eL11 lL11 hs11
 refine mV rfl rfl (ln rfl .no Fx.sn25 (.u rfl) (ci rfl .no rfl Fx.cv3_23 (.u rfl) ?_))
 refine mV rfl rfl ?_
 refine kA rfl .no Fx.ar405 (.u rfl) hbb5 (by first|exact ba_all|exact app_l|exact app_r) ?_; intro h17 L17 eL17 lL17 hs17
 refine mV rfl rfl (kc rfl Fx.go207 (Evc rfl (Evc rfl (Evc rfl Evn))) (Ct.frzB (Fix_ok [] ⟨none,0⟩ _ 8 _ SlR.nul (by simp) (by decide))) ?_)
 rintro _ G15 μ15 hG15 ⟨h15,L15,eL15,rfl,rfl,hs15⟩
 have hsa:=hsa.mono hG15
 have hsx:=hsx.mono hG15
 have hK:=hK.mono hG15
 have hs11:=hs11.mono hG15
 have hs17:=hs17.mono hG15
 refine Go.Tan.bN rfl Fx.se351 Fx.zv25 (Evp.cons (.u rfl) (Evp.cons (.u rfl) (Evp.cons (.u rfl) (Evp.cons (.u rfl) Evp.nil)))) rfl (by decide) (by simp [Value.oneCell',Sh.val]) ?_; intro b19
 have lL15:L15.length=8:=by rw [eL15,List.nil_append]; exact fix_len _ 8
 refine kp rfl .no Fx.go381 (Evc rfl (Evc rfl Evn)) (Gp.add .here Gp.nil) (fun _ hle hq=>mac4_ok hle hs11 hs15 hsa hs17 hsx hK (by omega) (by omega)) ?_
 refine al rfl Fx.zq34 ?_; intro b9
 refine sw rfl (.u rfl) (.u rfl) rfl Fx.sz34 .here (by first|exact qE|exact qL|rfl) (by first|exact ba_one _ _|exact wa_one _ _|exact one_V _|decide|exact one_app (wa_one _ _) (by simp [Value.oneCell'])) ?_
 refine .nil (.code (.seq (rq4 rfl rfl (sah rfl .no Fx.ar34 (.u rfl) (.u rfl) (fun _=>by first|decide|omega) (fun _=>by first|decide|omega) ?_))))
 refine sp rfl .no Fx.ar451 (.u rfl) (fun _=>by first|decide|omega) ?_
 refine lA rfl .no Fx.ag451 (.u rfl) (fun _=>RdN.part (n:=16) (cs':=ba 16 _) .here (ba_take (by decide))) (fun _=>(by first|exact qE|exact qL|rfl)) ?_
 refine sw rfl (.u rfl) (.u rfl) rfl Fx.sz451 tk2 (by first|exact qE|exact qL|rfl) (by first|exact ba_one _ _|exact wa_one _ _|exact one_V _|decide|exact one_app (wa_one _ _) (by simp [Value.oneCell'])) ?_
 refine .nil (.code (.ret (We.fin0 Tryz.results341 (.cell rfl (fun w hw=>run_loadVarN Fx.ag451 (RdN.own .here) ((by first|exact qE|exact qL|rfl)) hw) .nil) ?_)))
 exact ⟨rfl,by rw [eL11,eL15,eL17]; rfl⟩
theorem tag_row (enc mac nonce:Nat→Y) (ad:List Y) (ha:Sh) (xs:List Y) (v:Value) (G:PM) (hsa:SlR G 1 encY ha ad) (hK:RdNP G 6 0 (wa 64 kW)) (hla:ad.length≤140737488351232) (hl:xs.length≤140737488355328):Ct Tryz.prog 341 ([.agg (ba 32 enc++ba 32 mac).toArray,.agg (ba 12 nonce).toArray,ha.val ad.length,v]:List Value).toArray G [rB v 5 xs] (fun _ μ' u=>∃ ν,μ'=rB v 5 xs :: ν∧ν=[]∧u=.agg (ba 16 (tagF mac nonce ad xs)).toArray) :=
 Ct.lendB (fun hx G2 hle hv hs=>by subst hv; exact Tag_ok enc mac nonce ad ha xs hx G2 (hsa.mono hle) hs (hK.mono hle) hla hl)
theorem Seal_ok (enc mac nonce:Nat→Y) (ad:List Y) (ha:Sh) (xs:List Y) (hx:Sh) (G:PM) (hsa:SlR G 1 encY ha ad) (hsx:SlR G 1 encY hx xs) (hK:RdNP G 6 0 (wa 64 kW)) (hla:ad.length≤140737488351232) (hl:xs.length≤140737488351232):Ct Tryz.prog 292 ([.agg (ba 32 enc++ba 32 mac).toArray,.agg (ba 12 nonce).toArray,ha.val ad.length,hx.val xs.length]:List Value).toArray G [] (PR 5 (fun L=>L=sealL enc mac nonce ad xs)):=by
 refine Ct.of Tryz.func292 rfl Tryz.ntmps292 rfl fun w0 hs0=>?_
 have lc:=cross_len enc nonce 1#32 xs
 refine .seq (rq3 rfl rfl ?_)
 refine bx rfl (.u rfl) rfl ?_; intro b4
 refine bx rfl (.u rfl) rfl ?_; intro b5
 refine aS rfl rfl (.nil (.code (.seq (rq6 rfl rfl (fz rfl .no Fx.fo254_0 (.u rfl) (lA rfl .no Fx.ag33 (.u rfl) (fun _=>RdN.part (n:=32) (cs':=ba 32 enc) tk1 (app_l)) (fun _=>(by first|exact qE|exact qL|rfl)) ?_))))))
 refine lA rfl .no Fx.ag405 (.u rfl) (fun _=>RdN.own .here) (fun _=>(by first|exact qE|exact qL|rfl)) ?_
 refine mV rfl rfl (kc rfl Fx.go340 (Evc rfl (Evc rfl (Evc rfl (Evc rfl Evn)))) (Ct.rowc (Cross_ok enc nonce 1#32 hx xs _ hsx hl)) ?_)
 rintro v15 G15 μ15 hG15 ⟨L15,ov15,eL15,rfl⟩
 have hsa:=hsa.mono hG15
 have hK:=hK.mono hG15
 refine aS rfl rfl (.nil (.code (.seq (rq7 rfl rfl ?_))))
 have lL15:L15.length=xs.length:=by rw [eL15,cross_len]
 refine lA rfl .no Fx.ag254 (.u rfl) (fun _=>RdN.own tk2) (fun _=>(by first|exact qE|exact qL|rfl)) ?_
 refine lA rfl .no Fx.ag405 (.u rfl) (fun _=>RdN.own tk1) (fun _=>(by first|exact qE|exact qL|rfl)) ?_
 refine mV rfl rfl (mV rfl rfl (ka rfl (.inr rfl) Fx.go341 (Evc rfl (Evc rfl (Evc rfl (Evc rfl Evn)))) (mtk1 .here) (tag_row enc mac nonce ad ha L15 _ _ hsa hK hla (by rw [eL15,cross_len]; omega)) ?_))
 rintro _ G20 μ20 hG20 ⟨_,rfl,rfl,rfl⟩
 refine al rfl Fx.zq451 ?_; intro b10
 refine sw rfl (.u rfl) (.u rfl) rfl Fx.sz451 .here (by first|exact qE|exact qL|rfl) (by first|exact ba_one _ _|exact wa_one _ _|exact one_V _|decide|exact one_app (wa_one _ _) (by simp [Value.oneCell'])) ?_
 refine .nil (.code (.seq (rq4 rfl rfl (mV rfl rfl (sa0 rfl .no Fx.ar451 (.u rfl) (apY rfl Fx.se25 Fx.zv5 (.u rfl) (.u rfl) tk1 (Sc.arr .here) (by (try simp only [qlA,yl_len]); omega) ?_))))))
 intro v23 L23 ov23 eL23
 have lL23:L23.length=L15.length+16:=by rw [eL23,List.length_append]; first|rfl | simp [yl_len]
 refine aS rfl rfl (.nil (.code (.ret (We.fin Tryz.results292 (.tmp rfl .nil) (mS .here rfl mN) ?_))))
 exact ⟨L23,by rw [eL23,eL15]; rfl,rfl⟩
namespace Fx
theorem cst25:csT Tryz.prog 25=true:=by kernel_rfl
end Fx
namespace Fx
theorem go353:goFn Tryz.prog 353=true:=by kernel_rfl
theorem go313:goFn Tryz.prog 313=true:=by kernel_rfl
theorem go227:goFn Tryz.prog 227=true:=by kernel_rfl
theorem go342:goFn Tryz.prog 342=true:=by kernel_rfl
theorem cv344_23:cvK Tryz.prog 344 23=some .u64:=by kernel_rfl
end Fx
theorem nibble_ok (x:W) (G:PM):Ct Tryz.prog 353 ([U x]:List Value).toArray G [] (fun _ μ' u=>μ'=[]∧u=U (hIt 4 x)):=by
 refine Ct.of Tryz.func353 rfl Tryz.ntmps353 rfl fun w0 hs0=>?_
 refine .seq (rq1 rfl rfl (aS rfl rfl (.nil (.code (.seq (.seq (rq1 rfl rfl (mV rfl rfl (.nil (.code (.block ?_)))))))))))
 refine Wk.lop (α:=Nat×W) (fun gh=>[(0,true,U gh.2),(3,true,.int .i64 (gh.1:Int))]) (fun _=>[])
  (fun gh Gl=>(gh.1≤4)∧(gh.2=hIt gh.1 x)) (fun gh=>4-gh.1) (0,x) [] []
  (esD rfl (esC rfl (by first|rfl|exact evi (by omega)) eZ))
  mN ?_ ?_
 ·refine ⟨?_,?_⟩
  ·(try dsimp only)<;>(first|omega|rfl|assumption|(simp; done))
  (try dsimp only)<;>(first|omega|rfl|assumption|(simp; done))
 intro gh N0 Gl0 hN0 hGl0 hF0
 obtain ⟨k,y⟩:=gh; dsimp only at hF0 hN0 ⊢
 obtain ⟨hk,ey⟩:=hF0
 refine .seq (rq1 rfl rfl (cp rfl .no (.u rfl) (.u rfl) rfl (.nil (.code (.seq (.cond rfl (fun c1=>?_) (fun c1=>?_)))))))
 ·have c1k:=c1
  try simp only [qcA,qcB] at c1
  refine .skip (.code (.seq (.block (rq8 rfl rfl (mV rfl rfl (rw' (k:=.u32) rfl .no (.u rfl) (.u rfl) (fun _=>by decide) ?_))))))
  refine mV rfl rfl (bw (k:=.u32) (b:=1#32) rfl .no rfl (.u rfl) (.u rfl) rfl (nw (k:=.u32) rfl .no rfl (.u rfl) ?_))
  refine bw (k:=.u32) (a:=2197175160#32) rfl .no rfl (.u rfl) (.u rfl) rfl (bw (k:=.u32) rfl .no rfl (.u rfl) (.u rfl) rfl (aS rfl rfl (.nil (.blk (.code (rq2 rfl rfl (arn (((k+1):Nat):Int) rfl .no (.u rfl) (.u rfl) rfl (fun _=>by omega) (fun _=>wrap_i64 (by omega) (by omega)) ?_)))))))
  refine mV rfl rfl (.nil (We.lpo (k+1,halfW y) ?_ ?_ ?_ ?_ ?_))
  ·exact (esD rfl (esC rfl (by first|rfl|exact evi (by omega)) eZ))
  ·exact mN
  ·first|omega|(dsimp only; omega)
  ·exact hGl0
  refine ⟨?_,?_⟩
  ·(try dsimp only)<;>(first|omega|rfl|assumption|(simp; done))
  (try dsimp only)<;>(rw [ey]; rfl)
 have c1k:=c1
 try simp only [qcA,qcB] at c1
 refine .exit (.xcode (.xlp (.xblk (.code (.seq (rq2 rfl rfl (mV rfl rfl (aS rfl rfl (.nil (.code (.ret (We.fin0 Tryz.results353 (.tmp rfl .nil) ?_))))))))))))
 obtain rfl:k=4:=by omega
 exact ⟨rfl,by rw [ey]; rfl⟩
theorem crcMore_ok (sum:W) (xs:List Y) (h:Sh) (G:PM) (hs:SlR G 1 encY h xs) (hl:xs.length≤9000000000000000000):Ct Tryz.prog 313 ([U sum,h.val xs.length]:List Value).toArray G [] (fun _ μ' u=>μ'=[]∧u=U (crcW sum xs)):=by
 refine Ct.of Tryz.func313 rfl Tryz.ntmps313 rfl fun w0 hs0=>?_
 refine .seq (rq1 rfl rfl (aS rfl rfl (.nil (.code (.seq (rq3 rfl rfl (mV rfl rfl (xw (k:=.u32) rfl .no rfl (.u rfl) ?_))))))))
 refine aS rfl rfl (.nil (.code (.seq (.seq (rq3 rfl rfl (mV rfl rfl (ln rfl .no Fx.sn25 (.u rfl) (mV rfl rfl (.nil (.code (.block ?_)))))))))))
 refine Wk.lop (α:=Nat×W) (fun gh=>[(5,true,U gh.2),(12,true,.int .i64 (gh.1:Int))]) (fun _=>[])
  (fun gh Gl=>(gh.1≤xs.length)∧(gh.2=(xs.take gh.1).foldl crcB (~~~sum))) (fun gh=>xs.length-gh.1) (0, ~~~sum) [(10,true,_),(11,true,_)] []
  (esD rfl (esC rfl (by first|rfl|exact evi (by omega)) (esD rfl (esD rfl eZ))))
  mN ?_ ?_
 ·refine ⟨?_,?_⟩
  ·(try dsimp only)<;>(first|omega|rfl|assumption|(simp; done))
  (try dsimp only)<;>(first|omega|rfl|assumption|(simp; done))
 intro gh N0 Gl0 hN0 hGl0 hF0
 obtain ⟨k,x⟩:=gh; dsimp only at hF0 hN0 ⊢
 obtain ⟨hk,ex⟩:=hF0
 have hs:=hs.mono hGl0
 refine .seq (rq1 rfl rfl (cp rfl .no (.u rfl) (.u rfl) rfl (.nil (.code (.seq (.cond rfl (fun c1=>?_) (fun c1=>?_)))))))
 ·have c1k:=c1
  try simp only [qcA,qcB] at c1
  refine .skip (.code (.seq (.block (.seq (rq3 rfl rfl (ih rfl .no Fx.se25 (.u rfl) (.u rfl) (fun _=>by omega) (fun _=>by omega) (fun _=>hs.nn (k:=k) (by omega)) ?_))))))
  refine ld rfl .no Fx.ag5 (.u rfl) (fun _=>(hs.yat (k) (by omega) (by omega)).rd) ?_
  refine aS rfl rfl (.nil (.code (rq7 rfl rfl (mV rfl rfl (mV rfl rfl (cu (k:=.u8) rfl .no rfl Fx.cv5_344 (.u rfl) ?_))))))
  refine bw (k:=.u32) rfl .no rfl (.u rfl) (.u rfl) rfl (kv rfl .no Fx.go353 (Evc rfl Evn) (fun _=>nibble_ok _ _) ?_)
  refine kv rfl .no Fx.go353 (Evc rfl Evn) (fun _=>nibble_ok _ _) ?_
  refine aS rfl rfl (.nil (.blk (.code (rq2 rfl rfl (arn (((k+1):Nat):Int) rfl .no (.u rfl) (.u rfl) rfl (fun _=>by omega) (fun _=>wrap_i64 (by omega) (by omega)) ?_)))))
  refine mV rfl rfl (.nil (We.lpo (k+1,hIt 4 (hIt 4 (x ^^^ (xs.getD k 0).setWidth 32))) ?_ ?_ ?_ ?_ ?_))
  ·exact (esD rfl (esC rfl (by first|rfl|exact evi (by omega)) (esD rfl (esD rfl eZ))))
  ·exact mN
  ·first|omega|(dsimp only; omega)
  ·exact hGl0
  refine ⟨?_,?_⟩
  ·(try dsimp only)<;>(first|omega|rfl|assumption|(simp; done))
  (try dsimp only)<;>(rw [fold_take (by omega),←ex,hIt_add]; rfl)
 have c1k:=c1
 try simp only [qcA,qcB] at c1
 refine .exit (.xcode (.xlp (.xblk (.code (.seq (rq3 rfl rfl (mV rfl rfl (xw (k:=.u32) rfl .no rfl (.u rfl) ?_))))))))
 refine aS rfl rfl (.nil (.code (.ret (We.fin0 Tryz.results313 (.tmp rfl .nil) ?_))))
 obtain rfl:k=xs.length:=by omega
 exact ⟨rfl,by rw [ex,List.take_length]; rfl⟩
theorem crcSum_ok (ps:List (Sh×List Y)) (h:Sh) (G:PM) (hs:SlP G h ps) (hl:(catL ps).length≤9000000000000000000) (hn:ps.length≤1000):Ct Tryz.prog 227 ([h.val ps.length]:List Value).toArray G [] (fun _ μ' u=>μ'=[]∧u=U (crcW 0#32 (catL ps))):=by
 refine Ct.of Tryz.func227 rfl Tryz.ntmps227 rfl fun w0 hs0=>?_
 refine .seq (rq1 rfl rfl (aS rfl rfl (.nil (.code (.seq (rq1 rfl rfl (aS rfl rfl (.nil (.code (.seq (.seq (rq3 rfl rfl (mV rfl rfl (ln rfl .no Fx.sn351 (.u rfl) (mV rfl rfl (.nil (.code (.block ?_))))))))))))))))))
 refine Wk.lop (α:=Nat×W) (fun gh=>[(3,true,U gh.2),(8,true,.int .i64 (gh.1:Int))]) (fun _=>[])
  (fun gh Gl=>(gh.1≤ps.length)∧(gh.2=crcW 0#32 (catL (ps.take gh.1)))) (fun gh=>ps.length-gh.1) (0,0#32) [(6,true,_),(7,true,_)] []
  (esD rfl (esC rfl (by first|rfl|exact evi (by omega)) (esD rfl (esD rfl eZ))))
  mN ?_ ?_
 ·refine ⟨?_,?_⟩
  ·(try dsimp only)<;>(first|omega|rfl|assumption|(simp; done))
  (try dsimp only)<;>(simp [catL,crc_nil])
 intro gh N0 Gl0 hN0 hGl0 hF0
 obtain ⟨k,x⟩:=gh; dsimp only at hF0 hN0 ⊢
 obtain ⟨hk,ex⟩:=hF0
 have hs:=hs.mono hGl0
 refine .seq (rq1 rfl rfl (cp rfl .no (.u rfl) (.u rfl) rfl (.nil (.code (.seq (.cond rfl (fun c1=>?_) (fun c1=>?_)))))))
 ·have c1k:=c1
  try simp only [qcA,qcB] at c1
  refine .skip (.code (.seq (.block (.seq (rq3 rfl rfl (ih rfl .no Fx.se351 (.u rfl) (.u rfl) (fun _=>by omega) (fun _=>by omega) (fun _=>hs.sl.nn (k:=k) (by omega)) ?_))))))
  obtain ⟨p11,ep11⟩:=getx (k:=k) (xs:=ps) (by omega)
  have hq11:=hs.get ep11
  refine ld rfl .no Fx.ag25 (.u rfl) (fun _=>(hs.at (k) (by omega) ep11).rd) ?_
  refine aS rfl rfl (.nil (.code (rq4 rfl rfl (mV rfl rfl (mV rfl rfl (kv rfl .no Fx.go313 (Evc rfl (Evc rfl Evn)) (fun _=>crcMore_ok _ p11.2 _ _ hq11 (by have:=cat_len ep11; omega)) ?_))))))
  refine aS rfl rfl (.nil (.blk (.code (rq2 rfl rfl (arn (((k+1):Nat):Int) rfl .no (.u rfl) (.u rfl) rfl (fun _=>by omega) (fun _=>wrap_i64 (by omega) (by omega)) ?_)))))
  refine mV rfl rfl (.nil (We.lpo (k+1,crcW x p11.2) ?_ ?_ ?_ ?_ ?_))
  ·exact (esD rfl (esC rfl (by first|rfl|exact evi (by omega)) (esD rfl (esD rfl eZ))))
  ·exact mN
  ·first|omega|(dsimp only; omega)
  ·exact hGl0
  refine ⟨?_,?_⟩
  ·(try dsimp only)<;>(first|omega|rfl|assumption|(simp; done))
  (try dsimp only)<;>(rw [ex,crc_app,cat_take ep11])
 have c1k:=c1
 try simp only [qcA,qcB] at c1
 refine .exit (.xcode (.xlp (.xblk (.code (.seq (rq2 rfl rfl (mV rfl rfl (aS rfl rfl (.nil (.code (.ret (We.fin0 Tryz.results227 (.tmp rfl .nil) ?_))))))))))))
 obtain rfl:k=ps.length:=by omega
 exact ⟨rfl,by rw [ex,List.take_length]; rfl⟩
theorem Mask_ok (x:W) (G:PM):Ct Tryz.prog 342 ([U x]:List Value).toArray G [] (fun _ μ' u=>μ'=[]∧u=U (maskW x)):=by
 refine Ct.of Tryz.func342 rfl Tryz.ntmps342 rfl fun w0 hs0=>?_
 refine .seq (rq1 rfl rfl (aS rfl rfl (.nil (.code (.seq (rq4 rfl rfl (mV rfl rfl (kv rfl .no Fx.go228 (Evc rfl (Evc rfl Evn)) (fun _=>rot_ok _ 17 _) ?_))))))))
 refine bw (k:=.u32) (b:=2726488792#32) rfl .no rfl (.u rfl) (.u rfl) rfl (aS rfl rfl (.nil (.code (.ret (We.fin0 Tryz.results342 (.tmp rfl .nil) ?_)))))
 exact ⟨rfl,rfl⟩
theorem crc2_ok {G:PM} {b7 b9 T7 T9:Nat} {kind:Y} {h:Sh} {p:List Y} (hle:PM.le G ((G.add b7 (cl [V kind] T7)).add b9 (cl [.slice (some ⟨b7,0,none⟩) 1 1,h.val p.length] T9))) (hq:PM.le (G.add b7 (cl [V kind] T7)) ((G.add b7 (cl [V kind] T7)).add b9 (cl [.slice (some ⟨b7,0,none⟩) 1 1,h.val p.length] T9))) (hs:SlR G 1 encY h p) (hl:p.length≤1000000000000000) :
  Ct Tryz.prog 227 ([.slice (some ⟨b9,0,none⟩) 2 2]:List Value).toArray ((G.add b7 (cl [V kind] T7)).add b9 (cl [.slice (some ⟨b7,0,none⟩) 1 1,h.val p.length] T9)) [] (fun _ μ' u=>μ'=[]∧u=U (crcW 0#32 ([kind]++p))):=by
 have h1:SlR (G.add b7 (cl [V kind] T7)) 1 encY ⟨some ⟨b7,0,none⟩,1⟩ [kind]:=SlR.ofBlk (T:=T7) (PM.add_same _ _ _) (fun _ _=>rfl) (by simp)
 have hP:SlP ((G.add b7 (cl [V kind] T7)).add b9 (cl [.slice (some ⟨b7,0,none⟩) 1 1,h.val p.length] T9)) ⟨some ⟨b9,0,none⟩,2⟩ [(⟨some ⟨b7,0,none⟩,1⟩,[kind]),(h,p)] :=
  ⟨SlR.ofBlk (T:=T9) (PM.add_same _ _ _) (fun _ _=>rfl) (by simp),fun q hq'=>by
   rcases List.mem_cons.1 hq' with rfl | hq'
   ·exact h1.mono hq
   ·rw [List.mem_singleton.1 hq']; exact hs.mono hle⟩
 have hh:=crcSum_ok _ ⟨some ⟨b9,0,none⟩,2⟩ _ hP (by simp [catL]; omega) (by simp)
 rw [show catL [((⟨some ⟨b7,0,none⟩,1⟩ : Sh),[kind]),(h,p)]=[kind]++p by simp [catL]] at hh
 exact hh
theorem whead_ok (kind:Y) (p:List Y) (h:Sh) (G:PM) (hs:SlR G 1 encY h p) (hl:p.length≤1000000000000000):Ct Tryz.prog 294 ([V kind,h.val p.length]:List Value).toArray G [] (PR 5 (fun L=>L=fixL ((maskW (crcW 0#32 ([kind]++p))).setWidth 64) 4++fixL (BitVec.ofInt 64 (p.length:Int)) 2++[kind])):=by
 refine Ct.of Tryz.func294 rfl Tryz.ntmps294 rfl fun w0 hs0=>?_
 refine .seq (rq1 rfl rfl (aS rfl rfl (.nil (.code (.seq (rq7 rfl rfl (mV rfl rfl ?_)))))))
 refine Go.Tan.b1 rfl Fx.se25 Fx.zv5 (.u rfl) rfl rfl (by decide) ?_; intro b7
 refine mV rfl rfl ?_
 refine Go.Tan.bN rfl Fx.se351 Fx.zv25 (Evp.cons (.u rfl) (Evp.cons (.u rfl) Evp.nil)) rfl (by decide) (by simp [Value.oneCell',Sh.val]) ?_; intro b9
 refine kp rfl .no Fx.go227 (Evc rfl Evn) (Gp.add .here (Gp.add .here Gp.nil)) (fun _ hle hq=>crc2_ok hle hq.1 hs hl) ?_
 refine kv rfl .no Fx.go342 (Evc rfl Evn) (fun _=>Mask_ok _ _) ?_
 refine aS rfl rfl (.nil (.code (.seq (Wk.rg [0,1,2,3,4,5,6,7,8,9,10] rfl rfl (mV rfl rfl (cu (k:=.u32) rfl .no rfl Fx.cv344_23 (.u rfl) ?_))))))
 refine kc rfl Fx.go207 (Evc rfl (Evc rfl (Evc rfl Evn))) (Ct.frzB (Fix_ok [] ⟨none,0⟩ _ 4 _ SlR.nul (by simp) (by decide))) ?_
 rintro _ G14 μ14 hG14 ⟨h14,L14,eL14,rfl,rfl,hs14⟩
 refine mV rfl rfl (ln rfl .no Fx.sn25 (.u rfl) (ci rfl .no rfl Fx.cv3_23 (.u rfl) ?_))
 refine kc rfl Fx.go207 (Evc rfl (Evc rfl (Evc rfl Evn))) (Ct.rowc (Fix_ok L14 h14 _ 2 _ hs14 (by have:=fx0 eL14; omega) (by decide))) ?_
 rintro v18 G18 μ18 hG18 ⟨L18,ov18,eL18,rfl⟩
 refine mV rfl rfl ?_
 refine Go.Tan.b1 rfl Fx.se25 Fx.zv5 (.u rfl) rfl rfl (by decide) ?_; intro b20
 have lL18:L18.length=6:=by have:=fx0 eL14; have:=fx2 eL18; omega
 refine apY rfl Fx.se25 Fx.zv5 (.u rfl) (.u rfl) tk1 (Sc.one .here) (by show _+1≤_; omega) ?_
 intro v21 L21 ov21 eL21
 have lL21:L21.length=L18.length+1:=by rw [eL21,List.length_append]; first|rfl | simp [yl_len]
 refine aS rfl rfl (.nil (.code (.ret (We.fin Tryz.results294 (.tmp rfl .nil) (mS .here rfl mN) ?_))))
 exact ⟨L21,by rw [eL21,eL18,eL14]; rfl,rfl⟩
namespace Fx
theorem fo161_0:fOff Tryz.prog 161 0=some 0:=by kernel_rfl
theorem fo161_1:fOff Tryz.prog 161 1=some 1:=by kernel_rfl
theorem fo161_2:fOff Tryz.prog 161 2=some 2:=by kernel_rfl
theorem ag23:aggN Tryz.prog 23=some none:=by kernel_rfl
theorem zq405:zrL Tryz.prog 405=some (ba 12 (fun _=>0#8)):=by kernel_rfl
theorem sz405:szT Tryz.prog 405=some 12:=by kernel_rfl
theorem fo161_3:fOff Tryz.prog 161 3=some 3:=by kernel_rfl
theorem fo161_4:fOff Tryz.prog 161 4=some 4:=by kernel_rfl
theorem bp326_0_1_2:bPl Tryz.prog 326 [0,1,2]=some ([.int .u64 0,.int .u64 0,.int .u64 0],[(0,1),(1,1),(2,1)]):=by kernel_rfl
theorem ar326:arE Tryz.prog 326=some (3,23,1):=by kernel_rfl
end Fx
theorem Nonce_ok (n:BitVec 64) (G:PM):Ct Tryz.prog 293 ([uv .u64 n]:List Value).toArray G [] (fun _ μ' u=>μ'=[]∧u=.agg (ba 12 (nonceF n)).toArray):=by
 refine Ct.of Tryz.func293 rfl Tryz.ntmps293 rfl fun w0 hs0=>?_
 refine .seq (rq1 rfl rfl ?_)
 refine al rfl Fx.zq405 ?_; intro b2
 refine .nil (.code (.seq (rq1 rfl rfl ?_)))
 refine al rfl Fx.zq405 ?_; intro b3
 refine .nil (.code (.seq (.seq (rq1 rfl rfl (mV rfl rfl (.nil (.code (.block ?_))))))))
 refine Wk.lop (α:=Nat×(Nat→Y)) (fun gh=>[(5,true,.int .i64 (gh.1:Int))]) (fun gh=>[.blk b3 (cl (ba 12 gh.2) 405)])
  (fun gh Gl=>(gh.1≤8)∧(gh.2=outs (nonceF n) gh.1)) (fun gh=>8-gh.1) (0,fun _=>0#8) [(0,true,_),(2,true,_),(3,true,_)] [_]
  (esC rfl (by first|rfl|exact evi (by omega)) (esD rfl (esD rfl (esD rfl eZ))))
  (mS .here rfl (mS .here rfl mN)) ?_ ?_
 ·refine ⟨?_,?_⟩
  ·(try dsimp only)<;>(first|omega|rfl|assumption|(simp; done))
  (try dsimp only)<;>(first|omega|rfl|assumption|(simp; done))
 intro gh N0 Gl0 hN0 hGl0 hF0
 obtain ⟨k,f⟩:=gh; dsimp only at hF0 hN0 ⊢
 obtain ⟨hk,ef⟩:=hF0
 refine .seq (rq1 rfl rfl (cp rfl .no (.u rfl) (.u rfl) rfl (.nil (.code (.seq (.cond rfl (fun c1=>?_) (fun c1=>?_)))))))
 ·have c1k:=c1
  try simp only [qcA,qcB] at c1
  refine .skip (.code (.seq (.block (.seq (rq2 rfl rfl (mV rfl rfl (aS rfl rfl (.nil (.code (rq8 rfl rfl (mV rfl rfl (mV rfl rfl (mV rfl rfl (arn (((8*k):Nat):Int) rfl .no (.u rfl) (.u rfl) rfl (fun _=>by omega) (fun _=>wrap_i64 (by omega) (by omega)) ?_))))))))))))))
  refine rw' (k:=.u64) rfl .no (.u rfl) (.u rfl) (fun _=>by omega) ?_
  refine cu (k:=.u64) rfl .no rfl Fx.cv23_5 (.u rfl) ?_
  refine iA rfl .no Fx.ar405 (.u rfl) (.u rfl) (fun _=>by omega) (fun _=>by omega) ?_
  refine s1 rfl (.u rfl) (.u rfl) rfl Fx.sz5 .here (by first|decide|(simp only [wa_len,ba_len,qlA]; omega)) (by first|exact wa_set1 (k) (by omega)|exact ba_set1 (k) (by omega)|exact wap_set1 (k) (by omega) (by omega)|rfl) ?_
  refine .nil (.blk (.code (rq2 rfl rfl (arn (((k+1):Nat):Int) rfl .no (.u rfl) (.u rfl) rfl (fun _=>by omega) (fun _=>wrap_i64 (by omega) (by omega)) ?_))))
  refine mV rfl rfl (.nil (We.lpo (k+1,upd f k ((n >>> (8*k)).setWidth 8)) ?_ ?_ ?_ ?_ ?_))
  ·exact (esC rfl (by first|rfl|exact evi (by omega)) (esD rfl (esD rfl (esD rfl eZ))))
  ·exact (mS .here rfl (mS .here rfl mN))
  ·first|omega|(dsimp only; omega)
  ·exact hGl0
  refine ⟨?_,?_⟩
  ·(try dsimp only)<;>(first|omega|rfl|assumption|(simp; done))
  (try dsimp only)<;>(exact outs_step1 ef (by unfold nonceF; rw [if_pos (by omega)]))
 have c1k:=c1
 try simp only [qcA,qcB] at c1
 refine .exit (.xcode (.xlp (.xblk (.code (.seq (rq2 rfl rfl (lA rfl .no Fx.ag405 (.u rfl) (fun _=>RdN.own .here) (fun _=>(by first|exact qE|exact qL|rfl)) ?_)))))))
 refine sw rfl (.u rfl) (.u rfl) rfl Fx.sz405 tk1 (by first|exact qE|exact qL|rfl) (by first|exact ba_one _ _|exact wa_one _ _|exact one_V _|decide|exact one_app (wa_one _ _) (by simp [Value.oneCell'])) ?_
 refine .nil (.code (.ret (We.fin0 Tryz.results293 (.cell rfl (fun w hw=>run_loadVarN Fx.ag405 (RdN.own .here) ((by first|exact qE|exact qL|rfl)) hw) .nil) ?_)))
 obtain rfl:k=8:=by omega
 exact ⟨rfl,by rw [ef,ba_congr (fun i hi=>nonce_outs n hi)]; rfl⟩
theorem nLay_ok (h:Hd) (G:PM):Ct Tryz.prog 138 ([.agg ([V h.kind,V h.level,uv .u64 h.gen,uv .u64 h.epoch,uv .u64 h.num]:List Value).toArray]:List Value).toArray G [] (PR 5 (fun L=>L=headL h)):=by
 refine Ct.of Tryz.func138 rfl Tryz.ntmps138 rfl fun w0 hs0=>?_
 refine .seq (rq2 rfl rfl ?_)
 refine bx rfl (.u rfl) rfl ?_; intro b1
 refine aS rfl rfl (.nil (.code (.seq (rq9 rfl rfl ?_))))
 refine Go.Tan.bN rfl Fx.se25 Fx.zv5 (Evp.cons (.u rfl) (Evp.cons (.u rfl) (Evp.cons (.u rfl) (Evp.cons (.u rfl) Evp.nil)))) rfl (by decide) (by simp [Value.oneCell',Sh.val]) ?_; intro b6
 refine mkS [116#8,97#8,110#8,116#8] rfl rfl Fx.cst25 (.u rfl) .here rfl rfl (by decide) ?_; intro G7 hG7 hs7
 refine fz rfl .no Fx.fo161_0 (.u rfl) (ld rfl .no Fx.ag5 (.u rfl) (fun _=>Rd.own .here (by first|exact wap_f rfl|rfl)) ?_)
 refine fz rfl .no Fx.fo161_1 (.u rfl) (ld rfl .no Fx.ag5 (.u rfl) (fun _=>Rd.own .here (by first|exact wap_f rfl|rfl)) ?_)
 refine Go.Tan.bN rfl Fx.se25 Fx.zv5 (Evp.cons (.u rfl) (Evp.cons (.u rfl) Evp.nil)) rfl (by decide) (one2 rfl rfl) ?_; intro b12
 refine apF (.inr rfl) rfl Fx.se25 Fx.zv5 (.u rfl) (.u rfl) hs7 rfl (Sc.blk (ys:=[h.kind,h.level]) .here rfl rfl) (by (try simp only [List.length_cons,List.length_nil]); omega) (by (try simp only [List.length_cons,List.length_nil]); omega) (by (try simp only [List.length_cons,List.length_nil]); omega) ?_; intro v13 L13 ov13 eL13
 have lL13:L13.length=[116#8,97#8,110#8,116#8].length+2:=by rw [eL13,List.length_append]; first|rfl | simp [yl_len]
 refine aS rfl rfl (.nil (.code (.seq (.seq (rq8 rfl rfl (fz rfl .no Fx.fo161_2 (.u rfl) (ld rfl .no Fx.ag23 (.u rfl) (fun _=>Rd.own tk2 (by first|exact wap_f rfl|rfl)) ?_)))))))
 refine fz rfl .no Fx.fo161_3 (.u rfl) (ld rfl .no Fx.ag23 (.u rfl) (fun _=>Rd.own tk2 (by first|exact wap_f rfl|rfl)) ?_)
 refine fz rfl .no Fx.fo161_4 (.u rfl) (ld rfl .no Fx.ag23 (.u rfl) (fun _=>Rd.own tk2 (by first|exact wap_f rfl|rfl)) ?_)
 refine bC rfl .no Fx.bp326_0_1_2 (.cons (.u rfl) rfl (.cons (.u rfl) rfl (.cons (.u rfl) rfl .nil))) rfl ?_
 refine mV rfl rfl (.nil (.code (.block ?_)))
 refine Wk.lop (α:=Nat×Value×List Y) (fun gh=>[(3,true,gh.2.1),(21,true,.int .i64 (gh.1:Int))]) (fun gh=>[rB gh.2.1 5 gh.2.2])
  (fun gh Gl=>(gh.1≤3)∧(gh.2.2=h.some gh.1)) (fun gh=>3-gh.1) (0,_,_) [(20,true,_)] [_,_]
  (esD rfl (esC rfl (by first|rfl|exact evi (by omega)) (esD rfl eZ)))
  (mS .here rfl (mS .here rfl (mS .here rfl mN))) ?_ ?_
 ·refine ⟨?_,?_⟩
  ·(try dsimp only)<;>(first|omega|rfl|assumption|(simp; done))
  (try dsimp only)<;>(rw [eL13]; rfl)
 intro gh N0 Gl0 hN0 hGl0 hF0
 obtain ⟨k,v,L⟩:=gh; dsimp only at hF0 hN0 ⊢
 obtain ⟨hk,eL⟩:=hF0
 have lL:L.length=6+8*k:=by rw [eL,Hd.some_len]
 refine .seq (rq1 rfl rfl (cp rfl .no (.u rfl) (.u rfl) rfl (.nil (.code (.seq (.cond rfl (fun c1=>?_) (fun c1=>?_)))))))
 ·have c1k:=c1
  try simp only [qcA,qcB] at c1
  refine .skip (.code (.seq (.block (.seq (rq2 rfl rfl (ix rfl .no Fx.ar326 Fx.ag23 (.u rfl) (.u rfl) (fun _=>by omega) (fun _=>by omega) (fun _=>Hd.three_at (by omega)) ?_))))))
  refine aS rfl rfl (.nil (.code ?_))
  refine wk_fb .here (by first|(intro b hb; cases hb; done) | simp [keys,Res.keys]) ?_; intro GfR13 hR13 hleR13 evR13 hsR13; subst evR13
  refine rq4 rfl rfl (mV rfl rfl (mV rfl rfl (kc rfl Fx.go207 (Evc rfl (Evc rfl (Evc rfl Evn))) (Ct.rowc (Fix_ok L _ _ 8 _ hsR13 (by omega) (by decide))) ?_)))
  rintro v26 G26 μ26 hG26 ⟨L26,ov26,eL26,rfl⟩
  refine aS rfl rfl (.nil (.blk (.code (rq2 rfl rfl (arn (((k+1):Nat):Int) rfl .no (.u rfl) (.u rfl) rfl (fun _=>by omega) (fun _=>wrap_i64 (by omega) (by omega)) ?_)))))
  refine mV rfl rfl (.nil (We.lpo (k+1,v26,L26) ?_ ?_ ?_ ?_ ?_))
  ·exact (esD rfl (esC rfl (by first|rfl|exact evi (by omega)) (esD rfl eZ)))
  ·exact (mS .here rfl (mS .here rfl (mS .here rfl mN)))
  ·first|omega|(dsimp only; omega)
  ·exact ((hGl0).trans hleR13).trans hG26
  refine ⟨?_,?_⟩
  ·(try dsimp only)<;>(first|omega|rfl|assumption|(simp; done))
  (try dsimp only)<;>(rw [eL26,eL,Hd.some_succ]; rfl)
 have c1k:=c1
 try simp only [qcA,qcB] at c1
 refine .exit (.xcode (.xlp (.xblk (.code (.seq (rq2 rfl rfl (mV rfl rfl (aS rfl rfl (.nil (.code (.ret (We.fin Tryz.results138 (.tmp rfl .nil) (mS .here rfl mN) ?_))))))))))))
 obtain rfl:k=3:=by omega
 exact ⟨L,by rw [eL,Hd.some_all],rfl⟩
theorem mac1_ok {G:PM} {b T:Nat} {hk h1:Sh} {key L1:List Y} (hle:PM.le G (G.add b (cl [h1.val L1.length] T))) (hsk:SlR G 1 encY hk key) (hs:SlR G 1 encY h1 L1) (hK:RdNP G 6 0 (wa 64 kW)) (hlk:key.length≤140737488351232) (hl:L1.length≤1000000000000000) :
  Ct Tryz.prog 381 ([hk.val key.length,.slice (some ⟨b,0,none⟩) 1 1]:List Value).toArray (G.add b (cl [h1.val L1.length] T)) [] (fun _ μ' u=>μ'=[]∧u=.agg (ba 32 (macL key L1)).toArray):=by
 have h:=macSum_ok key hk [(h1,L1)] ⟨some ⟨b,0,none⟩,1⟩ _ (hsk.mono hle) (SlP.one hle hs) (hK.mono hle) hlk (by simpa [catL] using hl) (by simp)
 rw [show catL [(h1,L1)]=L1 by simp [catL]] at h
 exact h
theorem Extract_ok (salt:List Y) (hk:Sh) (xs:List Y) (h:Sh) (G:PM) (hsk:SlR G 1 encY hk salt) (hs:SlR G 1 encY h xs) (hK:RdNP G 6 0 (wa 64 kW)) (hlk:salt.length≤140737488351232) (hl:xs.length≤1000000000000000):Ct Tryz.prog 348 ([hk.val salt.length,h.val xs.length]:List Value).toArray G [] (fun _ μ' u=>μ'=[]∧u=.agg (ba 32 (macL salt xs)).toArray):=by
 refine Ct.of Tryz.func348 rfl Tryz.ntmps348 rfl fun w0 hs0=>?_
 refine .seq (rq1 rfl rfl ?_)
 refine al rfl Fx.zq34 ?_; intro b4
 refine .nil (.code (.seq (rq5 rfl rfl (mV rfl rfl (mV rfl rfl ?_)))))
 refine Go.Tan.b1 rfl Fx.se351 Fx.zv25 (.u rfl) rfl rfl (by decide) ?_; intro b7
 refine kp rfl .no Fx.go381 (Evc rfl (Evc rfl Evn)) (Gp.add .here Gp.nil) (fun _ hle hq=>mac1_ok hle hsk hs hK hlk hl) ?_
 refine sw rfl (.u rfl) (.u rfl) rfl Fx.sz34 tk1 (by first|exact qE|exact qL|rfl) (by first|exact ba_one _ _|exact wa_one _ _|exact one_V _|decide|exact one_app (wa_one _ _) (by simp [Value.oneCell'])) ?_
 refine .nil (.code (.ret (We.fin0 Tryz.results348 (.cell rfl (fun w hw=>run_loadVarN Fx.ag34 (RdN.own .here) ((by first|exact qE|exact qL|rfl)) hw) .nil) ?_)))
 exact ⟨rfl,rfl⟩
theorem SlP.three {G:PM} {b T:Nat} {h1 h2 h3:Sh} {L1 L2 L3:List Y} (hle:PM.le G (G.add b (cl [h1.val L1.length,h2.val L2.length,h3.val L3.length] T))) (hs:SlR G 1 encY h1 L1) (hs2:SlR G 1 encY h2 L2) (hs3:SlR G 1 encY h3 L3) :
  SlP (G.add b (cl [h1.val L1.length,h2.val L2.length,h3.val L3.length] T)) ⟨some ⟨b,0,none⟩,3⟩ [(h1,L1),(h2,L2),(h3,L3)] :=
 ⟨SlR.ofBlk (T:=T) (PM.add_same _ _ _) (fun _ _=>rfl) (by simp),fun p hp=>by
  simp only [List.mem_cons,List.not_mem_nil,or_false] at hp
  rcases hp with rfl|rfl|rfl
  ·exact hs.mono hle
  ·exact hs2.mono hle
  ·exact hs3.mono hle⟩
theorem mac3_row {G:PM} {b c T T' E lo:Nat} {hk hu s:Sh} {key use L:List Y} {y:Y} (hsk:SlR G 1 encY hk key) (hsu:SlR G 1 encY hu use) (hK:RdNP G 6 0 (wa 64 kW)) (hlo:lo≤L.length) (hlk:key.length≤140737488351232) (hl:L.length+use.length≤100000000000000) :
  Ct Tryz.prog 381 ([hk.val key.length,.slice (some ⟨c,0,none⟩) 3 3]:List Value).toArray G [rB (s.val L.length) E L,.blk b (cl [V y] T),.blk c (cl [(s.cut lo 1).val (L.length-lo),hu.val use.length,.slice (some ⟨b,0,none⟩) 1 1] T')]
   (fun _ μ' u=>∃ ν,μ'=rB (s.val L.length) E L :: ν∧∃ ν2,ν=.blk b (cl [V y] T) :: ν2∧∃ ν3,ν2=.blk c (cl [(s.cut lo 1).val (L.length-lo),hu.val use.length,.slice (some ⟨b,0,none⟩) 1 1] T') :: ν3∧ν3=[]∧u=.agg (ba 32 (macL key (L.drop lo++use++[y]))).toArray) :=
 Ct.lendB (fun s' G2 hle hv hs=>Ct.lendK (fun h1=>Ct.lendK (fun h2=>by
  obtain rfl:=Sh.val_inj hv
  have e1:SlR G2 1 encY (s.cut lo 1) (L.drop lo):=by
   have:=hs.cutn (lo:=lo) (m:=L.length-lo) (by omega)
   rwa [List.take_of_length_le (by simp)] at this
  have e2:SlR (G2.add b (cl [V y] T)) 1 encY ⟨some ⟨b,0,none⟩,1⟩ [y]:=SlR.ofBlk (T:=T) (PM.add_same _ _ _) (fun _ _=>rfl) (by simp)
  have e3:L.length-lo=(L.drop lo).length:=by simp
  rw [e3] at h2 ⊢
  have hP:=SlP.three (h1:=s.cut lo 1) (h2:=hu) (h3:=⟨some ⟨b,0,none⟩,1⟩) h2 (e1.mono h1) ((hsu.mono hle).mono h1) e2
  have h:=macSum_ok key hk _ ⟨some ⟨c,0,none⟩,3⟩ _ (((hsk.mono hle).mono h1).mono h2) hP (((hK.mono hle).mono h1).mono h2) hlk (by simp [catL]; omega) (by simp)
  rw [show catL [((s.cut lo 1),L.drop lo),(hu,use),((⟨some ⟨b,0,none⟩,1⟩ : Sh),[y])]=L.drop lo++use++[y] by simp [catL]] at h
  exact h)))
theorem Expand_ok (key:List Y) (hk:Sh) (use:List Y) (hu:Sh) (G:PM) (hsk:SlR G 1 encY hk key) (hsu:SlR G 1 encY hu use) (hK:RdNP G 6 0 (wa 64 kW)) (hlk:key.length≤1000) (hl:use.length≤1000000):Ct Tryz.prog 349 ([hk.val key.length,hu.val use.length,.int .i64 ((64:Nat):Int)]:List Value).toArray G [] (fun G' μ' u=>∃ s L,L=expL key use 2∧μ'=[]∧u=.tuple #[s.val L.length,.int .i64 0]∧SlR G' 1 encY s L):=by
 refine Ct.of Tryz.func349 rfl Tryz.ntmps349 rfl fun w0 hs0=>?_
 refine .seq (rq2 rfl rfl (aS rfl rfl (aS rfl rfl (.nil (.code (.seq (.seq (rq6 rfl rfl (mV rfl rfl (cp rfl .no (.u rfl) (.u rfl) rfl (mV rfl rfl (mv rfl (.f rfl rfl) (.u rfl) (cp rfl (.f rfl rfl) (.s rfl) (.u rfl) rfl (pkO rfl .no (.u rfl) (.s rfl) (.nil (.code (.cond rfl (fun c1=>?_) (fun c1=>?_))))))))))))))))))
 ·have c1k:=c1
  exact absurd c1 (by decide)
 have c1k:=c1
 try simp only [qcA,qcB] at c1
 refine .skip (.code (.seq (rq4 rfl rfl (mV rfl rfl (arn (((64+32):Nat):Int) rfl .no (.u rfl) (.u rfl) rfl (fun _=>by omega) (fun _=>wrap_i64 (by omega) (by omega)) ?_)))))
 refine mkY (0) ((64+32)) rfl Fx.se25 Fx.zv5 (.u rfl) (.u rfl) (by first|rfl|omega) (by first|rfl|omega) (by omega) (by omega) ?_; intro b19
 have lR19:(List.replicate (0) (0#8:Y)).length=0:=List.length_replicate
 refine aS rfl rfl (.nil (.code (.seq (.seq (rq1 rfl rfl (aS rfl rfl (.nil (.code (.block ?_)))))))))
 refine Wk.lop (α:=Nat×Value×List Y) (fun gh=>[(8,true,gh.2.1),(9,true,V (BitVec.ofNat 8 (gh.1+1)))]) (fun gh=>[rB gh.2.1 5 gh.2.2])
  (fun gh Gl=>(gh.1≤2)∧(gh.2.2=expL key use gh.1)) (fun gh=>2-gh.1) (0,_,_) [(0,true,_),(1,true,_),(2,true,_)] []
  (esD rfl (esD rfl (esD rfl (esD rfl (esD rfl eZ)))))
  (mS .here rfl mN) ?_ ?_
 ·refine ⟨?_,?_⟩
  ·(try dsimp only)<;>(first|omega|rfl|assumption|(simp; done))
  (try dsimp only)<;>(rfl)
 intro gh N0 Gl0 hN0 hGl0 hF0
 obtain ⟨j,v,L⟩:=gh; dsimp only at hF0 hN0 ⊢
 obtain ⟨hj,eL⟩:=hF0
 have hsk:=hsk.mono hGl0
 have hsu:=hsu.mono hGl0
 have hK:=hK.mono hGl0
 have lL:L.length=32*j:=by rw [eL,exp_len]
 refine .seq (.seq (rq4 rfl rfl (mV rfl rfl (lr rfl .no Fx.sn25 (.u rfl) .here ?_))))
 refine mV rfl rfl (cp rfl .no (.u rfl) (.u rfl) rfl (.nil (.code (.cond rfl (fun c2=>?_) (fun c2=>?_)))))
 ·have c2k:=c2
  try simp only [qcA,qcB] at c2
  refine .skip (.code (.seq (.block (.seq ?_))))
  refine wk_rs .here ?_; intro sR19 bbR19 evR19 lcR19 oaR19; subst evR19
  refine Wk.rg [0,1,2,3,4,5,6,7,8,9,10,11,12,13] rfl rfl (mV rfl rfl (mV rfl rfl (mV rfl rfl (lr rfl .no Fx.sn25 (.u rfl) .here ?_))))
  refine ar rfl .no (.u rfl) (.u rfl) rfl (fun _=>wrap_i64 (by omega) (by omega)) ?_
  refine mAq ((32*j-32:Nat):Int) rfl (.u rfl) (.u rfl) (by split<;>omega) ?_
  refine sd rfl .no Fx.se25 (.u rfl) (.u rfl) (fun _=>by omega) (fun _=>by omega) ?_
  refine mV rfl rfl (mV rfl rfl ?_)
  refine Go.Tan.b1 rfl Fx.se25 Fx.zv5 (.u rfl) rfl rfl (by decide) ?_; intro b35
  refine Go.Tan.bN rfl Fx.se351 Fx.zv25 (Evp.cons (.u rfl) (Evp.cons (.u rfl) (Evp.cons (.u rfl) Evp.nil))) rfl (by decide) (by simp [Value.oneCell',Sh.val]) ?_; intro b36
  refine ka rfl (.inr rfl) Fx.go381 (Evc rfl (Evc rfl Evn)) (mtk3 tk2 tk1 .here) (mac3_row (lo:=32*j-32) hsk hsu hK (by omega) (by omega) (by omega)) ?_
  rintro _ G37 μ37 hG37 ⟨_,rfl,_,rfl,_,rfl,rfl,rfl⟩
  refine al rfl Fx.zq34 ?_; intro b10
  refine sw rfl (.u rfl) (.u rfl) rfl Fx.sz34 .here (by first|exact qE|exact qL|rfl) (by first|exact ba_one _ _|exact wa_one _ _|exact one_V _|decide|exact one_app (wa_one _ _) (by simp [Value.oneCell'])) ?_
  refine .nil (.code (rq4 rfl rfl (mV rfl rfl (sa0 rfl .no Fx.ar34 (.u rfl) (apY rfl Fx.se25 Fx.zv5 (.u rfl) (.u rfl) tk1 (Sc.arr .here) (by (try simp only [qlA,yl_len]); omega) ?_)))))
  intro v40 L40 ov40 eL40
  have lL40:L40.length=L.length+32:=by rw [eL40,List.length_append]; first|rfl | simp [yl_len]
  refine aS rfl rfl (.nil (.blk (.code (rq3 rfl rfl (mV rfl rfl (bw (k:=.u8) (b:=1#8) rfl .no rfl (.u rfl) (.u rfl) rfl (aS rfl rfl (.nil (We.lpo (j+1,v40,L40) ?_ ?_ ?_ ?_ ?_)))))))))
  ·exact (esD rfl (esC rfl (by show V (BitVec.ofNat 8 (j+1)+1#8)=_; rw [← BitVec.ofNat_add]) (esD rfl (esD rfl (esD rfl eZ)))))
  ·exact (mS .here rfl mN)
  ·first|omega|(dsimp only; omega)
  ·exact (hGl0).trans hG37
  refine ⟨?_,?_⟩
  ·(try dsimp only)<;>(first|omega|rfl|assumption|(simp; done))
  (try dsimp only)<;>(rw [eL40,eL,exp_last]; rfl)
 have c2k:=c2
 try simp only [qcA,qcB] at c2
 refine .exit (.xcode (.xlp (.xblk (.code (.seq ?_)))))
 refine wk_fb .here (by first|(intro b hb; cases hb; done) | simp [keys,Res.keys]) ?_; intro GfR19 hR19 hleR19 evR19 hsR19; subst evR19
 refine rq6 rfl rfl (mV rfl rfl (mV rfl rfl (mV rfl rfl ?_)))
 refine kM 64 rfl Fx.se25 hsR19 (.u rfl) (.u rfl) (.u rfl) (by omega) ?_; intro h44 L44 eL44 lL44 hs44
 refine aS rfl rfl (aS rfl rfl (.nil (.code (.ret (We.fin0 Tryz.results349 (.tmp rfl (.tmp rfl .nil)) ?_)))))
 obtain rfl:j=2:=by omega
 exact ⟨h44,L44,by rw [eL44,eL]; exact List.take_of_length_le (by rw [exp_len]; omega),rfl,rfl,hs44⟩
namespace Fx
theorem zq254:zrL Tryz.prog 254=some (ba 32 (fun _=>0#8)++ba 32 (fun _=>0#8)):=by kernel_rfl
theorem go348:goFn Tryz.prog 348=true:=by kernel_rfl
theorem go349:goFn Tryz.prog 349=true:=by kernel_rfl
theorem bp254_0_1:bPl Tryz.prog 254 [0,1]=some (ba 32 (fun _=>0#8)++ba 32 (fun _=>0#8),[(0,32),(32,32)]):=by kernel_rfl
theorem sz254:szT Tryz.prog 254=some 64:=by kernel_rfl
theorem ag161:aggN Tryz.prog 161=some (some 5):=by kernel_rfl
theorem go138:goFn Tryz.prog 138=true:=by kernel_rfl
theorem go307:goFn Tryz.prog 307=true:=by kernel_rfl
end Fx
theorem Derive_ok (root:Nat→Y) (use:List Y) (hu:Sh) (G:PM) (hsu:SlR G 1 encY hu use) (hK:RdNP G 6 0 (wa 64 kW)) (hl:use.length≤1000000):Ct Tryz.prog 307 ([.agg (ba 32 root).toArray,hu.val use.length]:List Value).toArray G [] (fun _ μ' u=>μ'=[]∧u=.agg (ba 32 (keyEnc root use)++ba 32 (keyMac root use)).toArray):=by
 refine Ct.of Tryz.func307 rfl Tryz.ntmps307 rfl fun w0 hs0=>?_
 refine .seq (rq2 rfl rfl ?_)
 refine bx rfl (.u rfl) rfl ?_; intro b2
 refine al rfl Fx.zq254 ?_; intro b4
 refine .nil (.code (.seq ?_))
 refine wk_fz tk1 (by intro b hb; cases hb) ?_; intro Gfb2 hleb2 hbb2
 have hsu:=hsu.mono hleb2
 have hK:=hK.mono hleb2
 refine rq6 rfl rfl ?_
 refine Go.Tan.bN rfl Fx.se25 Fx.zv5 (Evp.cons (.u rfl) (Evp.cons (.u rfl) (Evp.cons (.u rfl) (Evp.cons (.u rfl) (Evp.cons (.u rfl) (Evp.cons (.u rfl) (Evp.cons (.u rfl) (Evp.cons (.u rfl) Evp.nil)))))))) rfl (by decide) (by simp [Value.oneCell',Sh.val]) ?_; intro b8
 refine mkS saltL rfl rfl Fx.cst25 (.u rfl) .here rfl rfl (by decide) ?_; intro G9 hG9 hs9
 have hsu:=hsu.mono hG9
 have hK:=hK.mono hG9
 have hbb2:=hbb2.mono hG9
 refine kA rfl .no Fx.ar34 (.u rfl) hbb2 (by first|exact ba_all|exact app_l|exact app_r) ?_; intro h10 L10 eL10 lL10 hs10
 refine kv rfl .no Fx.go348 (Evc rfl (Evc rfl Evn)) (fun _=>Extract_ok saltL _ L10 h10 _ hs9 hs10 hK (by decide) (by omega)) ?_
 refine al rfl Fx.zq34 ?_; intro b5
 refine sw rfl (.u rfl) (.u rfl) rfl Fx.sz34 .here (by first|exact qE|exact qL|rfl) (by first|exact ba_one _ _|exact wa_one _ _|exact one_V _|decide|exact one_app (wa_one _ _) (by simp [Value.oneCell'])) ?_
 refine .nil (.code (.seq ?_))
 refine wk_fz .here (by intro b hb; cases hb) ?_; intro Gfb5 hleb5 hbb5
 have hsu:=hsu.mono hleb5
 have hK:=hK.mono hleb5
 refine rq8 rfl rfl ?_
 refine kA rfl .no Fx.ar34 (.u rfl) hbb5 (by first|exact ba_all|exact app_l|exact app_r) ?_; intro h13 L13 eL13 lL13 hs13
 refine mV rfl rfl (kc rfl Fx.go349 (Evc rfl (Evc rfl (Evc rfl Evn))) (Expand_ok L13 h13 use hu _ hs13 hsu hK (by omega) hl) ?_)
 rintro _ G15 μ15 hG15 ⟨h15,L15,eL15,rfl,rfl,hs15⟩
 refine mV rfl rfl (ex rfl .no (.u rfl) rfl (ex rfl .no (.u rfl) rfl (aS rfl rfl ?_)))
 have lL15:L15.length=64:=by rw [eL15,exp_len]
 refine aS rfl rfl (.nil (.code (.seq (Wk.draw (mc:=⟨false,false⟩) [0,1,2,3,4,5,6,7,8,9] Fx.mix (by kernel_rfl) ?_))))
 refine mV rfl rfl (kE (32) rfl .no Fx.se25 hs15 (.u rfl) (.u rfl) (fun _=>by omega) (fun _=>by omega) ?_)
 intro h19 L19 eL19 lL19 hs19
 have lL19:=lL19 rfl
 refine spS rfl .no Fx.ar33 hs19 (.u rfl) (fun _=>by omega) (by decide) ?_
 refine lA rfl .no Fx.ag33 (.u rfl) (fun _=>(hs19.arr (m:=32) (by omega)).rd) (fun _=>ba_len _ _) ?_
 refine mV rfl rfl (kD (32) rfl .no Fx.se25 hs15 (.u rfl) (.u rfl) (fun _=>by omega) (fun _=>by omega) ?_)
 intro h23 L23 eL23 lL23 hs23
 have lL23:=lL23 rfl
 refine spS rfl .no Fx.ar33 hs23 (.u rfl) (fun _=>by omega) (by decide) ?_
 refine lA rfl .no Fx.ag33 (.u rfl) (fun _=>(hs23.arr (m:=32) (by omega)).rd) (fun _=>ba_len _ _) ?_
 refine bCe (ba 32 (fun i=>L19.getD i 0)++ba 32 (fun i=>L23.getD i 0)) rfl .no Fx.bp254_0_1 (.cons (.u rfl) rfl (.cons (.u rfl) rfl .nil)) rfl (key_put (by decide) _ _) ?_
 refine sw rfl (.u rfl) (.u rfl) rfl Fx.sz254 .here (by first|exact qE|exact qL|rfl) (key_one _ _) ?_
 refine .nil (.code (.ret (We.fin0 Tryz.results307 (.cell rfl (fun w hw=>run_loadVarN Fx.ag254 (RdN.own .here) ((by first|exact qE|exact qL|rfl)) hw) .nil) ?_)))
 have e:L15=deriveL root use:=by rw [eL15,eL13,eL10]; rfl
 exact ⟨rfl,congrArg (fun z=>Value.agg (List.toArray z)) (key_cells e eL19 eL23)⟩
theorem KeyOf_ok (root:Nat→Y) (h:Hd) (G:PM) (hK:RdNP G 6 0 (wa 64 kW)):Ct Tryz.prog 219 ([.agg (ba 32 root).toArray,.agg ([V h.kind,V h.level,uv .u64 h.gen,uv .u64 h.epoch,uv .u64 h.num]:List Value).toArray]:List Value).toArray G [] (fun _ μ' u=>μ'=[]∧u=.agg (ba 32 (keyEnc root (headL h))++ba 32 (keyMac root (headL h))).toArray):=by
 refine Ct.of Tryz.func219 rfl Tryz.ntmps219 rfl fun w0 hs0=>?_
 refine .seq (rq3 rfl rfl ?_)
 refine bx rfl (.u rfl) rfl ?_; intro b2
 refine bx rfl (.u rfl) rfl ?_; intro b3
 refine al rfl Fx.zq254 ?_; intro b4
 refine .nil (.code (.seq (Wk.draw (mc:=⟨false,false⟩) [0,1,2,3,4] Fx.mix (by kernel_rfl) ?_)))
 refine lA rfl .no Fx.ag34 (.u rfl) (fun _=>RdN.own tk2) (fun _=>(by first|exact qE|exact qL|rfl)) ?_
 refine lA rfl .no Fx.ag161 (.u rfl) (fun _=>RdN.own tk1) (fun _=>(by first|exact qE|exact qL|rfl)) ?_
 refine kc rfl Fx.go138 (Evc rfl Evn) (Ct.frzB (nLay_ok h _)) ?_
 rintro _ G7 μ7 hG7 ⟨h7,L7,eL7,rfl,rfl,hs7⟩
 have hK:=hK.mono hG7
 refine kv rfl .no Fx.go307 (Evc rfl (Evc rfl Evn)) (fun _=>Derive_ok root L7 h7 _ hs7 hK (by rw [eL7,head_len]; decide)) ?_
 refine sw rfl (.u rfl) (.u rfl) rfl Fx.sz254 .here (by first|exact qE|exact qL|rfl) (key_one _ _) ?_
 refine .nil (.code (.ret (We.fin0 Tryz.results219 (.cell rfl (fun w hw=>run_loadVarN Fx.ag254 (RdN.own .here) ((by first|exact qE|exact qL|rfl)) hw) .nil) ?_)))
 subst eL7
 exact ⟨rfl,rfl⟩
namespace Fx
theorem go219:goFn Tryz.prog 219=true:=by kernel_rfl
theorem go293:goFn Tryz.prog 293=true:=by kernel_rfl
theorem go292:goFn Tryz.prog 292=true:=by kernel_rfl
theorem go294:goFn Tryz.prog 294=true:=by kernel_rfl
end Fx
theorem wLay_ok (root:Nat→Y) (h:Hd) (n:BitVec 64) (p:List Y) (hp:Sh) (G:PM) (hs:SlR G 1 encY hp p) (hK:RdNP G 6 0 (wa 64 kW)):Ct Tryz.prog 206 ([.agg (ba 32 root).toArray,.agg ([V h.kind,V h.level,uv .u64 h.gen,uv .u64 h.epoch,uv .u64 h.num]:List Value).toArray,uv .u64 n,hp.val p.length]:List Value).toArray G [] (fun _ μ' u=>∃ v L e,(L,e)=layP root h n p∧μ'=[rB v 5 L]∧u=.tuple #[v,.int .i64 e]):=by
 refine Ct.of Tryz.func206 rfl Tryz.ntmps206 rfl fun w0 hs0=>?_
 refine .seq (rq4 rfl rfl ?_)
 refine bx rfl (.u rfl) rfl ?_; intro b4
 refine bx rfl (.u rfl) rfl ?_; intro b5
 refine aS rfl rfl (aS rfl rfl (.nil (.code (.seq (.seq (rq3 rfl rfl (mV rfl rfl (ln rfl .no Fx.sn25 (.u rfl) (cp rfl .no (.u rfl) (.u rfl) rfl (.nil (.code (.cond rfl (fun c1=>?_) (fun c1=>?_)))))))))))))
 ·have c1k:=c1
  try simp only [qcA,qcC,qcB] at c1
  refine .seq (rq2 rfl rfl (aS rfl rfl (aS rfl rfl (.nil (.code (.ret (we_nilB 5 ?_)))))))
  refine We.fin Tryz.results206 (.tmp rfl (.tmp rfl .nil)) (mS .here rfl mN) ?_
  exact ⟨_,[],4,lay_long (by omega),rfl,rfl⟩
 have c1k:=c1
 try simp only [qcA,qcC,qcB] at c1
 refine .skip (.code (.seq (Wk.draw (mc:=⟨false,false⟩) [0,1,3,5,7,2,4,6,8,9] Fx.mix (by kernel_rfl) ?_)))
 refine lA rfl .no Fx.ag34 (.u rfl) (fun _=>RdN.own tk1) (fun _=>(by first|exact qE|exact qL|rfl)) ?_
 refine lA rfl .no Fx.ag161 (.u rfl) (fun _=>RdN.own .here) (fun _=>(by first|exact qE|exact qL|rfl)) ?_
 refine mV rfl rfl (lA rfl .no Fx.ag161 (.u rfl) (fun _=>RdN.own .here) (fun _=>(by first|exact qE|exact qL|rfl)) ?_)
 refine mV rfl rfl (kv rfl .no Fx.go219 (Evc rfl (Evc rfl Evn)) (fun _=>KeyOf_ok root h _ hK) ?_)
 refine kv rfl .no Fx.go293 (Evc rfl Evn) (fun _=>Nonce_ok _ _) ?_
 refine kc rfl Fx.go138 (Evc rfl Evn) (Ct.frzB (nLay_ok h _)) ?_
 rintro _ G25 μ25 hG25 ⟨h25,L25,eL25,rfl,rfl,hs25⟩
 have hs:=hs.mono hG25
 have hK:=hK.mono hG25
 refine kc rfl Fx.go292 (Evc rfl (Evc rfl (Evc rfl (Evc rfl Evn)))) (Ct.rowc (Seal_ok (keyEnc root (headL h)) (keyMac root (headL h)) (nonceF n) L25 h25 p hp _ hs25 hs hK (by rw [eL25,head_len]; decide) (by omega))) ?_
 rintro v27 G27 μ27 hG27 ⟨L27,ov27,eL27,rfl⟩
 refine aS rfl rfl (.nil ?_)
 have lL27:L27.length=p.length+16:=by rw [eL27,seal_len]
 refine .code (.seq ?_)
 refine wk_fb .here (by first|(intro b hb; cases hb; done) | simp [keys,Res.keys]) ?_; intro GfR27 hR27 hleR27 evR27 hsR27; subst evR27
 refine rq1 rfl rfl (aS rfl rfl (.nil (.code (.seq (.seq (wk_nilB 5 ?_))))))
 refine rq1 rfl rfl (aS rfl rfl (.nil (.code (.block ?_))))
 refine Wk.lop (α:=Nat×Sh×List Y×Value×List Y) (fun gh=>[(10,true,gh.2.1.val gh.2.2.1.length),(11,true,gh.2.2.2.1),(12,true,.bool (decide (gh.1=0)))]) (fun gh=>[rB gh.2.2.2.1 5 gh.2.2.2.2])
  (fun gh Gl=>(SlR Gl 1 encY gh.2.1 gh.2.2.1)∧(gh.2.2.1=L27.drop (128*gh.1))∧(gh.2.2.2.2=outL L27 gh.1)∧(128*gh.1≤L27.length+127)) (fun gh=>gh.2.2.1.length) (0,_,_,.slice none 0 0,[]) [] [_,_]
  (esD rfl (esD rfl (esD rfl eZ)))
  (mS .here rfl (mS .here rfl (mS .here rfl mN))) ?_ ?_
 ·refine ⟨?_,?_,?_,?_⟩
  ·(try dsimp only)<;>(exact hsR27)
  ·(try dsimp only)<;>(rfl)
  ·(try dsimp only)<;>(rfl)
  (try dsimp only)<;>(first|omega|rfl|assumption|(simp; done))
 intro gh N0 Gl0 hN0 hGl0 hF0
 obtain ⟨j,r,M,v,O⟩:=gh; dsimp only at hF0 hN0 ⊢
 obtain ⟨hr,eM,eO,hj⟩:=hF0
 have lM:M.length=L27.length-128*j:=by rw [eM]; simp
 have lO9:=out_len L27 j
 rw [← eO] at lO9
 refine .seq (.seq (rq3 rfl rfl (mV rfl rfl (ln rfl .no Fx.sn25 (.u rfl) (cp rfl .no (.u rfl) (.u rfl) rfl (.nil (.code (.cond rfl (fun c2=>?_) (fun c2=>?_)))))))))
 ·have c2k:=c2
  try simp only [qcA,qcC,qcB] at c2
  refine .skip (.code (.seq (.block (.seq (rq4 rfl rfl (mV rfl rfl (ln rfl .no Fx.sn25 (.u rfl) (mIn (M.length) (128) rfl .no (.u rfl) (.u rfl) (fun _=>by omega) (fun _=>by omega) ?_))))))))
  refine aS rfl rfl (.nil (.code (.seq (rq1 rfl rfl (aS rfl rfl (.nil (.code (.seq (.seq (rq5 rfl rfl (mV rfl rfl (mV rfl rfl (ln rfl .no Fx.sn25 (.u rfl) (cp rfl .no (.u rfl) (.u rfl) rfl (aS rfl rfl (.nil (.code (.block (.seq (rq5 rfl rfl (mV rfl rfl (mV rfl rfl (mv rfl (.t rfl rfl) (.u rfl) (pkA rfl .no (.u rfl) (.s rfl) (aS rfl rfl (.nil (.code (.cond rfl (fun c3=>?_) (fun c3=>?_)))))))))))))))))))))))))))))
  ·have c3k:=c3
   try simp only [qcA,qcC,qcB] at c3
   refine rq1 rfl rfl (aS rfl rfl (.nil (.blk (.code (.seq (Wk.draw (mc:=⟨false,false⟩) [0,1,2,3,4,7,8,9,5,6,10,11] Fx.mix (by kernel_rfl) ?_))))))
   refine mV rfl rfl (mV rfl rfl (mV rfl rfl (mV rfl rfl (kE ((min M.length 128)) rfl .no Fx.se25 hr (.u rfl) (.u rfl) (fun _=>by omega) (fun _=>by omega) ?_))))
   intro h51 L51 eL51 lL51 hs51
   have lL51:=lL51 rfl
   refine mV rfl rfl (mV rfl rfl (kE ((min M.length 128)) rfl .no Fx.se25 hr (.u rfl) (.u rfl) (fun _=>by omega) (fun _=>by omega) ?_))
   intro h56 L56 eL56 lL56 hs56
   have lL56:=lL56 rfl
   refine kc rfl Fx.go294 (Evc rfl (Evc rfl Evn)) (Ct.frzB (whead_ok 1#8 L51 h51 _ hs51 (by omega))) ?_
   rintro _ G52 μ52 hG52 ⟨h52,L52,eL52,rfl,rfl,hs52⟩
   have hr:=hr.mono hG52
   have hs51:=hs51.mono hG52
   have hs56:=hs56.mono hG52
   have lL52:L52.length=7:=by rw [eL52]; exact frame_len _ _
   refine apY rfl Fx.se25 Fx.zv5 (.u rfl) (.u rfl) .here hs52.sc (by (try simp only [qlA,yl_len]); omega) ?_
   intro v53 L53 ov53 eL53
   have lL53:L53.length=O.length+L52.length:=by rw [eL53,List.length_append]
   refine apY rfl Fx.se25 Fx.zv5 (.u rfl) (.u rfl) .here hs56.sc (by (try simp only [qlA,yl_len]); omega) ?_
   intro v57 L57 ov57 eL57
   have lL57:L57.length=L53.length+L56.length:=by rw [eL57,List.length_append]
   refine aS rfl rfl (.nil (.code (rq4 rfl rfl (mV rfl rfl (mV rfl rfl (kD ((min M.length 128)) rfl .no Fx.se25 hr (.u rfl) (.u rfl) (fun _=>by omega) (fun _=>by omega) ?_))))))
   intro h60 L60 eL60 lL60 hs60
   have lL60:=lL60 rfl
   refine aS rfl rfl (.nil (.blk (.code (rq1 rfl rfl (aS rfl rfl (.nil (We.lpo (j+1,h60,L60,v57,L57) ?_ ?_ ?_ ?_ ?_)))))))
   ·exact (esD rfl (esD rfl (esC rfl (by simp) eZ)))
   ·exact (mS .here rfl (mS .here rfl (mS .here rfl mN)))
   ·first|omega|(dsimp only; omega)
   ·exact (hGl0).trans hG52
   refine ⟨?_,?_,?_,?_⟩
   ·(try dsimp only)<;>(exact hs60)
   ·(try dsimp only)<;>(rw [eL60,eM]; exact drop_step)
   ·(try dsimp only)<;>(exact rec_step eO eM eL51 eL56 eL52 eL53 eL57 (kind_full (by omega) (by omega)))
   (try dsimp only)<;>(first|omega|rfl|assumption|(simp; done))
  have c3k:=c3
  try simp only [qcA,qcC,qcB] at c3
  refine .seq (rq2 rfl rfl (mV rfl rfl (aS rfl rfl (.nil (.code (.cond rfl (fun c4=>?_) (fun c4=>?_)))))))
  ·have c4k:=c4
   try simp only [qcA,qcC,qcB] at c4
   refine rq1 rfl rfl (aS rfl rfl (.nil (.blk (.code (.seq (Wk.draw (mc:=⟨false,false⟩) [0,1,2,3,4,7,8,9,5,6,10,11] Fx.mix (by kernel_rfl) ?_))))))
   refine mV rfl rfl (mV rfl rfl (mV rfl rfl (mV rfl rfl (kE ((min M.length 128)) rfl .no Fx.se25 hr (.u rfl) (.u rfl) (fun _=>by omega) (fun _=>by omega) ?_))))
   intro h51 L51 eL51 lL51 hs51
   have lL51:=lL51 rfl
   refine mV rfl rfl (mV rfl rfl (kE ((min M.length 128)) rfl .no Fx.se25 hr (.u rfl) (.u rfl) (fun _=>by omega) (fun _=>by omega) ?_))
   intro h56 L56 eL56 lL56 hs56
   have lL56:=lL56 rfl
   refine kc rfl Fx.go294 (Evc rfl (Evc rfl Evn)) (Ct.frzB (whead_ok 2#8 L51 h51 _ hs51 (by omega))) ?_
   rintro _ G52 μ52 hG52 ⟨h52,L52,eL52,rfl,rfl,hs52⟩
   have hr:=hr.mono hG52
   have hs51:=hs51.mono hG52
   have hs56:=hs56.mono hG52
   have lL52:L52.length=7:=by rw [eL52]; exact frame_len _ _
   refine apY rfl Fx.se25 Fx.zv5 (.u rfl) (.u rfl) .here hs52.sc (by (try simp only [qlA,yl_len]); omega) ?_
   intro v53 L53 ov53 eL53
   have lL53:L53.length=O.length+L52.length:=by rw [eL53,List.length_append]
   refine apY rfl Fx.se25 Fx.zv5 (.u rfl) (.u rfl) .here hs56.sc (by (try simp only [qlA,yl_len]); omega) ?_
   intro v57 L57 ov57 eL57
   have lL57:L57.length=L53.length+L56.length:=by rw [eL57,List.length_append]
   refine aS rfl rfl (.nil (.code (rq4 rfl rfl (mV rfl rfl (mV rfl rfl (kD ((min M.length 128)) rfl .no Fx.se25 hr (.u rfl) (.u rfl) (fun _=>by omega) (fun _=>by omega) ?_))))))
   intro h60 L60 eL60 lL60 hs60
   have lL60:=lL60 rfl
   refine aS rfl rfl (.nil (.blk (.code (rq1 rfl rfl (aS rfl rfl (.nil (We.lpo (j+1,h60,L60,v57,L57) ?_ ?_ ?_ ?_ ?_)))))))
   ·exact (esD rfl (esD rfl (esC rfl (by simp) eZ)))
   ·exact (mS .here rfl (mS .here rfl (mS .here rfl mN)))
   ·first|omega|(dsimp only; omega)
   ·exact (hGl0).trans hG52
   refine ⟨?_,?_,?_,?_⟩
   ·(try dsimp only)<;>(exact hs60)
   ·(try dsimp only)<;>(rw [eL60,eM]; exact drop_step)
   ·(try dsimp only)<;>(exact rec_step eO eM eL51 eL56 eL52 eL53 eL57 (kind_first (by omega) (by omega)))
   (try dsimp only)<;>(first|omega|rfl|assumption|(simp; done))
  have c4k:=c4
  try simp only [qcA,qcC,qcB] at c4
  refine .seq (rq2 rfl rfl (mV rfl rfl (aS rfl rfl (.nil (.code (.cond rfl (fun c5=>?_) (fun c5=>?_)))))))
  ·have c5k:=c5
   try simp only [qcA,qcC,qcB] at c5
   refine rq1 rfl rfl (aS rfl rfl (.nil (.blk (.code (.seq (Wk.draw (mc:=⟨false,false⟩) [0,1,2,3,4,7,8,9,5,6,10,11] Fx.mix (by kernel_rfl) ?_))))))
   refine mV rfl rfl (mV rfl rfl (mV rfl rfl (mV rfl rfl (kE ((min M.length 128)) rfl .no Fx.se25 hr (.u rfl) (.u rfl) (fun _=>by omega) (fun _=>by omega) ?_))))
   intro h51 L51 eL51 lL51 hs51
   have lL51:=lL51 rfl
   refine mV rfl rfl (mV rfl rfl (kE ((min M.length 128)) rfl .no Fx.se25 hr (.u rfl) (.u rfl) (fun _=>by omega) (fun _=>by omega) ?_))
   intro h56 L56 eL56 lL56 hs56
   have lL56:=lL56 rfl
   refine kc rfl Fx.go294 (Evc rfl (Evc rfl Evn)) (Ct.frzB (whead_ok 4#8 L51 h51 _ hs51 (by omega))) ?_
   rintro _ G52 μ52 hG52 ⟨h52,L52,eL52,rfl,rfl,hs52⟩
   have hr:=hr.mono hG52
   have hs51:=hs51.mono hG52
   have hs56:=hs56.mono hG52
   have lL52:L52.length=7:=by rw [eL52]; exact frame_len _ _
   refine apY rfl Fx.se25 Fx.zv5 (.u rfl) (.u rfl) .here hs52.sc (by (try simp only [qlA,yl_len]); omega) ?_
   intro v53 L53 ov53 eL53
   have lL53:L53.length=O.length+L52.length:=by rw [eL53,List.length_append]
   refine apY rfl Fx.se25 Fx.zv5 (.u rfl) (.u rfl) .here hs56.sc (by (try simp only [qlA,yl_len]); omega) ?_
   intro v57 L57 ov57 eL57
   have lL57:L57.length=L53.length+L56.length:=by rw [eL57,List.length_append]
   refine aS rfl rfl (.nil (.code (rq4 rfl rfl (mV rfl rfl (mV rfl rfl (kD ((min M.length 128)) rfl .no Fx.se25 hr (.u rfl) (.u rfl) (fun _=>by omega) (fun _=>by omega) ?_))))))
   intro h60 L60 eL60 lL60 hs60
   have lL60:=lL60 rfl
   refine aS rfl rfl (.nil (.blk (.code (rq1 rfl rfl (aS rfl rfl (.nil (We.lpo (j+1,h60,L60,v57,L57) ?_ ?_ ?_ ?_ ?_)))))))
   ·exact (esD rfl (esD rfl (esC rfl (by simp) eZ)))
   ·exact (mS .here rfl (mS .here rfl (mS .here rfl mN)))
   ·first|omega|(dsimp only; omega)
   ·exact (hGl0).trans hG52
   refine ⟨?_,?_,?_,?_⟩
   ·(try dsimp only)<;>(exact hs60)
   ·(try dsimp only)<;>(rw [eL60,eM]; exact drop_step)
   ·(try dsimp only)<;>(exact rec_step eO eM eL51 eL56 eL52 eL53 eL57 (kind_last (by omega) (by omega)))
   (try dsimp only)<;>(first|omega|rfl|assumption|(simp; done))
  have c5k:=c5
  try simp only [qcA,qcC,qcB] at c5
  refine .skip (.blk (.code (.seq (Wk.draw (mc:=⟨false,false⟩) [0,1,2,3,4,7,8,9,5,6,10,11] Fx.mix (by kernel_rfl) ?_))))
  refine mV rfl rfl (mV rfl rfl (mV rfl rfl (mV rfl rfl (kE ((min M.length 128)) rfl .no Fx.se25 hr (.u rfl) (.u rfl) (fun _=>by omega) (fun _=>by omega) ?_))))
  intro h51 L51 eL51 lL51 hs51
  have lL51:=lL51 rfl
  refine mV rfl rfl (mV rfl rfl (kE ((min M.length 128)) rfl .no Fx.se25 hr (.u rfl) (.u rfl) (fun _=>by omega) (fun _=>by omega) ?_))
  intro h56 L56 eL56 lL56 hs56
  have lL56:=lL56 rfl
  refine kc rfl Fx.go294 (Evc rfl (Evc rfl Evn)) (Ct.frzB (whead_ok 3#8 L51 h51 _ hs51 (by omega))) ?_
  rintro _ G52 μ52 hG52 ⟨h52,L52,eL52,rfl,rfl,hs52⟩
  have hr:=hr.mono hG52
  have hs56:=hs56.mono hG52
  have lL52:L52.length=7:=by rw [eL52]; exact frame_len _ _
  refine apY rfl Fx.se25 Fx.zv5 (.u rfl) (.u rfl) .here hs52.sc (by (try simp only [qlA,yl_len]); omega) ?_
  intro v53 L53 ov53 eL53
  have lL53:L53.length=O.length+L52.length:=by rw [eL53,List.length_append]
  refine apY rfl Fx.se25 Fx.zv5 (.u rfl) (.u rfl) .here hs56.sc (by (try simp only [qlA,yl_len]); omega) ?_
  intro v57 L57 ov57 eL57
  have lL57:L57.length=L53.length+L56.length:=by rw [eL57,List.length_append]
  refine aS rfl rfl (.nil (.code (rq4 rfl rfl (mV rfl rfl (mV rfl rfl (kD ((min M.length 128)) rfl .no Fx.se25 hr (.u rfl) (.u rfl) (fun _=>by omega) (fun _=>by omega) ?_))))))
  intro h60 L60 eL60 lL60 hs60
  have lL60:=lL60 rfl
  refine aS rfl rfl (.nil (.blk (.code (rq1 rfl rfl (aS rfl rfl (.nil (We.lpo (j+1,h60,L60,v57,L57) ?_ ?_ ?_ ?_ ?_)))))))
  ·exact (esD rfl (esD rfl (esC rfl (by simp) eZ)))
  ·exact (mS .here rfl (mS .here rfl (mS .here rfl mN)))
  ·first|omega|(dsimp only; omega)
  ·exact (hGl0).trans hG52
  refine ⟨?_,?_,?_,?_⟩
  ·(try dsimp only)<;>(exact hs60)
  ·(try dsimp only)<;>(rw [eL60,eM]; exact drop_step)
  ·(try dsimp only)<;>(exact rec_step eO eM eL51 eL56 eL52 eL53 eL57 (kind_mid (by omega) (by omega)))
  (try dsimp only)<;>(first|omega|rfl|assumption|(simp; done))
 have c2k:=c2
 try simp only [qcA,qcC,qcB] at c2
 refine .exit (.xcode (.xlp (.xblk (.code (.seq (rq3 rfl rfl (mV rfl rfl (aS rfl rfl (aS rfl rfl (.nil (.code (.ret (We.fin Tryz.results206 (.tmp rfl (.tmp rfl .nil)) (mS .here rfl mN) ?_)))))))))))))
 exact ⟨v,O,0,lay_good (by omega) (by rw [eL27,eL25]) eO (by omega),rfl,rfl⟩
namespace FxGrP
theorem bs25_9:bsT Tryz.prog 25 9=true:=by kernel_rfl
end FxGrP
theorem dig_ok (n:BitVec 64) (G:PM) (hn:n.toNat<10):Ct Tryz.prog 160 ([uv .u64 n]:List Value).toArray G [] (fun _ μ' u=>μ'=[]∧u=.string (bstr (six n.toNat))):=by
 refine Ct.of Tryz.func160 rfl Tryz.ntmps160 rfl fun w0 hs0=>?_
 refine .seq (rq1 rfl rfl (aS rfl rfl (.nil (.code (.seq (wk_nilB 5 ?_))))))
 refine rq1 rfl rfl (aS rfl rfl (.nil (.code (.seq (.block ?_)))))
 refine Wk.lop (α:=Nat×Value) (fun gh=>[(0,true,uv .u64 (dgn n gh.1)),(3,true,gh.2)]) (fun gh=>[rB gh.2 5 (dgs n.toNat gh.1)])
  (fun gh Gl=>(gh.1≤6)) (fun gh=>6-gh.1) (0,.slice none 0 0) [] []
  (esD rfl (esD rfl eZ))
  (mS .here rfl mN) ?_ ?_
 ·(try dsimp only)<;>(first|omega|rfl|assumption|(simp; done))
 intro gh N0 Gl0 hN0 hGl0 hF0
 obtain ⟨k,v⟩:=gh; dsimp only at hF0 hN0 ⊢
 have hk:=hF0
 have hl:=dgs_len (d:=n.toNat) hk; have hz:k=0∨@BitVec.toNat IntKind.u64.bits (dgn n k)=0:=(Nat.eq_zero_or_pos k).imp id dgn_z
 refine .seq (.seq (rq7 rfl rfl (mV rfl rfl (cp rfl .no (.u rfl) (.u rfl) rfl (mV rfl rfl (mv rfl (.f rfl rfl) (.u rfl) (lr rfl (.f rfl rfl) Fx.sn25 (.s rfl) .here ?_)))))))
 refine cp rfl (.f rfl rfl) (.s rfl) (.u rfl) rfl (pkO rfl .no (.u rfl) (.s rfl) (.nil (.code (.cond rfl (fun c1=>?_) (fun c1=>?_)))))
 ·have c1k:=c1
  try simp only [qcA,qcC,qcB] at c1
  refine .skip (.code (.seq (.block ?_)))
  refine wk_rs .here ?_; intro sRB bbRB evRB lcRB oaRB; subst evRB
  refine rq8 rfl rfl (mV rfl rfl (mw (k:=.u64) (b:=10#64) rfl .no (.u rfl) (.u rfl) (fun _=>show (10#64:BitVec 64)≠0#64 by decide) ?_))
  refine bw (k:=.u64) (a:=48#64) rfl .no rfl (.u rfl) (.u rfl) rfl (cu (k:=.u64) rfl .no rfl Fx.cv23_5 (.u rfl) ?_)
  refine Go.Tan.b1 rfl Fx.se25 Fx.zv5 (.u rfl) rfl rfl (by decide) ?_; intro b17
  refine mV rfl rfl ?_
  refine apB [_] rfl Fx.se25 Fx.zv5 (.u rfl) rfl rfl (.u rfl) .here (Sc.rowS tk1 oaRB) (by show 1+(dgs n.toNat k).length≤_; omega) ?_; intro v19 L19 ov19 eL19
  refine aS rfl rfl (.nil (.blk (.code (rq3 rfl rfl (mV rfl rfl (dw (k:=.u64) (b:=10#64) rfl .no rfl (.u rfl) (.u rfl) (fun _=>show (10#64:BitVec 64)≠0#64 by decide) ?_))))))
  refine aS rfl rfl (.nil ?_)
  have hk6:k<6:=by omega
  refine We.lpo (k+1,v19) ?_ ?_ ?_ ?_ ?_
  ·exact (esC rfl (congrArg (uv .u64) (dgn_next hn)) (esD rfl eZ))
  ·exact (mS .here (congrArg (rB v19 5) (eL19.trans (dgs_next hn hk6))) mN)
  ·first|omega|(dsimp only; omega)
  ·exact hGl0
  (try dsimp only)<;>(first|omega|rfl|assumption|(simp; done))
 have c1k:=c1
 try simp only [qcA,qcC,qcB] at c1
 refine .exit (.xcode (.xlp (.xblk (.code (.seq ?_)))))
 refine wk_rs .here ?_; intro sRB bbRB evRB lcRB oaRB; subst evRB
 refine rq3 rfl rfl (mV rfl rfl (sB rfl .no FxGrP.bs25_9 (.u rfl) (fun _=>(Sc.rowS .here oaRB)) ?_))
 refine aS rfl rfl (.nil (.code (.ret (We.fin0 Tryz.results160 (.tmp rfl .nil) ?_))))
 obtain rfl:k=6:=by omega
 exact ⟨rfl,rfl⟩
end Go.Proofs.YtoifkgkandfeiaaGreatDoor
namespace Go.Tan
open Go.RowKit
def encT (s:ByteArray):List Value:=[.string s]
end Go.Tan
namespace Go.Proofs.YtoifkgkandfeiaaGreatDoor
open Go.Tan Go.RowKit
namespace FxGrQ
theorem sn97:(slE Tryz.prog 97).isSome=true:=by kernel_rfl
theorem se97:slE Tryz.prog 97=some (9,1,16):=by kernel_rfl
theorem ag9:aggN Tryz.prog 9=some none:=by kernel_rfl
theorem st9:strT Tryz.prog 9=true:=by kernel_rfl
theorem zv9:(Tryz.prog.info? 9).bind (·.zero)=some (.string ByteArray.empty):=by kernel_rfl
theorem ag4:aggN Tryz.prog 4=some none:=by kernel_rfl
end FxGrQ
namespace Fx
theorem go160:goFn Tryz.prog 160=true:=by kernel_rfl
theorem pt48:ptT Tryz.prog 48=true:=by kernel_rfl
theorem go53:goFn Tryz.prog 53=true:=by kernel_rfl
theorem fo118_3:fOff Tryz.prog 118 3=some 3:=by kernel_rfl
theorem fo118_2:fOff Tryz.prog 118 2=some 2:=by kernel_rfl
theorem fo118_0:fOff Tryz.prog 118 0=some 0:=by kernel_rfl
theorem ag116:aggN Tryz.prog 116=some none:=by kernel_rfl
theorem ms116:msE Tryz.prog 116=some 124:=by kernel_rfl
theorem zv124:(Tryz.prog.info? 124).bind (·.zero)=some (.agg #[.slice none 0 0,.int .i64 0]):=by kernel_rfl
theorem zr124:zrL Tryz.prog 124=some ([.slice none 0 0,.int .i64 0]):=by kernel_rfl
theorem sz124:szT Tryz.prog 124=some 2:=by kernel_rfl
theorem fo118_4:fOff Tryz.prog 118 4=some 4:=by kernel_rfl
theorem fo124_0:fOff Tryz.prog 124 0=some 0:=by kernel_rfl
end Fx
theorem name_ok (k:Y) (n:BitVec 64) (G:PM) (hn:n.toNat<10):Ct Tryz.prog 102 ([V k,uv .u64 n]:List Value).toArray G [] (fun _ μ' u=>μ'=[]∧u=.string (nmB k.toNat n.toNat)):=by
 refine Ct.of Tryz.func102 rfl Tryz.ntmps102 rfl fun w0 hs0=>?_
 have hk8:@BitVec.toNat IntKind.u8.bits k = @BitVec.toNat 8 k:=rfl
 refine .seq (rq1 rfl rfl (aS rfl rfl (.nil (.code (.seq (.seq (rq1 rfl rfl (mV rfl rfl (.nil (.code (.block (.seq (rq2 rfl rfl (cp rfl .no (.u rfl) (.u rfl) rfl (aS rfl rfl (.nil (.code (.cond rfl (fun c1=>?_) (fun c1=>?_)))))))))))))))))))
 ·have c1k:=c1
  try simp only [qcA,qcB] at c1
  refine .seq (rq4 rfl rfl (mV rfl rfl (kv rfl .no Fx.go160 (Evc rfl Evn) (fun _=>dig_ok n _ hn) ?_)))
  refine sP rfl .no (.u rfl) (.u rfl) (fun _=>by rw [bstr_len]; show 6+4≤9223372036854775807; omega) ?_
  refine aS rfl rfl (.nil (.code (.ret (We.fin0 Tryz.results102 (.tmp rfl .nil) ?_))))
  exact ⟨rfl,congrArg Value.string (nmK1 (by omega))⟩
 have c1k:=c1
 try simp only [qcA,qcB] at c1
 refine .seq (rq2 rfl rfl (cp rfl .no (.u rfl) (.u rfl) rfl (aS rfl rfl (.nil (.code (.cond rfl (fun c2=>?_) (fun c2=>?_)))))))
 ·have c2k:=c2
  try simp only [qcA,qcB] at c2
  refine .seq (rq4 rfl rfl (mV rfl rfl (kv rfl .no Fx.go160 (Evc rfl Evn) (fun _=>dig_ok n _ hn) ?_)))
  refine sP rfl .no (.u rfl) (.u rfl) (fun _=>by rw [bstr_len]; show 6+4≤9223372036854775807; omega) ?_
  refine aS rfl rfl (.nil (.code (.ret (We.fin0 Tryz.results102 (.tmp rfl .nil) ?_))))
  exact ⟨rfl,congrArg Value.string (nmK2 (by omega))⟩
 have c2k:=c2
 try simp only [qcA,qcB] at c2
 refine .seq (rq2 rfl rfl (cp rfl .no (.u rfl) (.u rfl) rfl (aS rfl rfl (.nil (.code (.cond rfl (fun c3=>?_) (fun c3=>?_)))))))
 ·have c3k:=c3
  try simp only [qcA,qcB] at c3
  refine .seq (rq4 rfl rfl (mV rfl rfl (kv rfl .no Fx.go160 (Evc rfl Evn) (fun _=>dig_ok n _ hn) ?_)))
  refine sP rfl .no (.u rfl) (.u rfl) (fun _=>by rw [bstr_len]; show 9+6≤9223372036854775807; omega) ?_
  refine aS rfl rfl (.nil (.code (.ret (We.fin0 Tryz.results102 (.tmp rfl .nil) ?_))))
  exact ⟨rfl,congrArg Value.string (nmK3 (by omega))⟩
 have c3k:=c3
 try simp only [qcA,qcB] at c3
 refine .seq (rq2 rfl rfl (cp rfl .no (.u rfl) (.u rfl) rfl (aS rfl rfl (.nil (.code (.cond rfl (fun c4=>?_) (fun c4=>?_)))))))
 ·have c4k:=c4
  try simp only [qcA,qcB] at c4
  refine .seq (rq1 rfl rfl (aS rfl rfl (.nil (.code (.ret (We.fin0 Tryz.results102 (.tmp rfl .nil) ?_))))))
  exact ⟨rfl,congrArg Value.string (nmK4 (by omega))⟩
 have c4k:=c4
 try simp only [qcA,qcB] at c4
 refine .seq (rq2 rfl rfl (cp rfl .no (.u rfl) (.u rfl) rfl (aS rfl rfl (.nil (.code (.cond rfl (fun c5=>?_) (fun c5=>?_)))))))
 ·have c5k:=c5
  try simp only [qcA,qcB] at c5
  refine .seq (rq1 rfl rfl (aS rfl rfl (.nil (.code (.ret (We.fin0 Tryz.results102 (.tmp rfl .nil) ?_))))))
  exact ⟨rfl,congrArg Value.string (nmK5 (by omega))⟩
 have c5k:=c5
 try simp only [qcA,qcB] at c5
 refine .skip (.blk (.code (.seq (rq1 rfl rfl (aS rfl rfl (.nil (.code (.ret (We.fin0 Tryz.results102 (.tmp rfl .nil) ?_)))))))))
 exact ⟨rfl,congrArg Value.string (nmK0 (by omega) (by omega) (by omega) (by omega) (by omega))⟩
theorem goodL_ok (h:Sh) (l:List ByteArray) (G:PM) (hs:SlR G 1 encT h l) (hl:l.length≤1000000) (hg:∀ s∈l,goodN s):Ct Tryz.prog 53 ([h.val l.length]:List Value).toArray G [] (fun _ μ' u=>μ'=[]∧u=.bool true):=by
 refine Ct.of Tryz.func53 rfl Tryz.ntmps53 rfl fun w0 hs0=>?_
 refine .seq (rq1 rfl rfl (aS rfl rfl (.nil (.code (.seq (.seq (rq3 rfl rfl (mV rfl rfl (ln rfl .no FxGrQ.sn97 (.u rfl) (mV rfl rfl (.nil (.code (.block ?_)))))))))))))
 refine Wk.lop (α:=Nat) (fun k=>[(7,true,.int .i64 (k:Int))]) (fun _=>[])
  (fun k Gl=>(k≤l.length)) (fun k=>l.length-k) 0 [(5,true,_),(6,true,_)] []
  (esC rfl (by first|rfl|exact evi (by omega)) (esD rfl (esD rfl eZ)))
  mN ?_ ?_
 ·(try dsimp only)<;>(first|omega|rfl|assumption|(simp; done))
 intro k N0 Gl0 hN0 hGl0 hF0
 try dsimp only at hF0 hN0 ⊢
 have hk:=hF0
 have hs:=hs.mono hGl0
 refine .seq (rq1 rfl rfl (cp rfl .no (.u rfl) (.u rfl) rfl (.nil (.code (.seq (.cond rfl (fun c1=>?_) (fun c1=>?_)))))))
 ·have c1k:=c1
  try simp only [qcA,qcC,qcB] at c1
  refine .skip (.code (.seq (.block (.seq (rq3 rfl rfl (ih rfl .no FxGrQ.se97 (.u rfl) (.u rfl) (fun _=>by omega) (fun _=>by omega) (fun _=>hs.nn (k:=k) (by first|omega|(simp only [Bool.and_eq_true,decide_eq_true_eq] at hc; omega)|(simp only [List.length_cons,List.length_nil]; omega))) ?_))))))
  obtain ⟨x,ex⟩:=getx (k:=k) (xs:=l) (by omega)
  have hx:=hg x (List.mem_of_getElem? ex)
  refine ld rfl .no FxGrQ.ag9 (.u rfl) (fun _=>(hs.at (by omega) ex 0 _ rfl).rd) (aS rfl rfl (.nil (.code (.seq (rq7 rfl rfl (mV rfl rfl (cs rfl .no (.u rfl) (.u rfl) rfl (mV rfl rfl (mv rfl (.f rfl rfl) (.u rfl) (ls rfl (.f rfl rfl) FxGrQ.st9 (.s rfl) (cp rfl (.f rfl rfl) (.s rfl) (.u rfl) rfl (pkO rfl .no (.u rfl) (.s rfl) (.nil (.code (.cond rfl (fun c2=>?_) (fun c2=>?_))))))))))))))))
  ·have c2k:=c2
   rw [strNe hx.1] at c2; have hx2:=hx.2; simp at c2; omega
  have c2k:=c2
  try simp only [qcA,qcC,qcB] at c2
  refine .skip (.blk (.code (rq2 rfl rfl (arn (((k+1):Nat):Int) rfl .no (.u rfl) (.u rfl) rfl (fun _=>by omega) (fun _=>wrap_i64 (by omega) (by omega)) ?_))))
  refine mV rfl rfl (.nil (We.lpo (k+1) ?_ ?_ ?_ ?_ ?_))
  ·exact (esC rfl (by first|rfl|exact evi (by omega)) (esD rfl (esD rfl eZ)))
  ·exact mN
  ·first|omega|(dsimp only; omega)
  ·exact hGl0
  (try dsimp only)<;>(first|omega|rfl|assumption|(simp; done))
 have c1k:=c1
 try simp only [qcA,qcC,qcB] at c1
 refine .exit (.xcode (.xlp (.xblk (.code (.seq (rq1 rfl rfl (aS rfl rfl (.nil (.code (.ret (We.fin0 Tryz.results53 (.tmp rfl .nil) ?_)))))))))))
 exact ⟨rfl,rfl⟩
theorem ready_ok (bd bm room done clk:Nat) (F:List Fi) (G:PM) (hD:DkR F clk) (hd9:done≤1000000000) (hr9:room≤1000000000) (nm:ByteArray) (there:Bool) (h:Sh) (l:List ByteArray) (hs:SlR G 1 encT h l) (hl:l.length≤1000000) (hg:∀ s∈l,goodN s) (hn:goodN nm) (ht:there=true→(fget nm F).isSome=true):Ct Tryz.prog 55 ([.pointer (some ⟨bd,0,none⟩),.string nm,.bool there,h.val l.length]:List Value).toArray G [.blk bd (cl (dkC bm room (done)) 118),.blk bm (mO ((F).map Fi.fe) (clk))] (fun _ μ' u=>μ'=[.blk bd (cl (dkC bm room (done)) 118),.blk bm (mO ((F).map Fi.fe) (clk))]∧u=.int .i64 0):=by
 refine Ct.of Tryz.func55 rfl Tryz.ntmps55 rfl fun w0 hs0=>?_
 refine .seq (rq1 rfl rfl (aS rfl rfl (.nil (.code (.seq (.seq (rq2 rfl rfl (mV rfl rfl (pe rfl .no Fx.pt48 (.u rfl) (.u rfl) ?_)))))))))
 refine .nil (.code (Wk.condF rfl rfl ?_))
 refine .skip (.code (.seq (.seq (rq9 rfl rfl (mV rfl rfl ?_)))))
 refine Go.Tan.b1 rfl FxGrQ.se97 FxGrQ.zv9 (.u rfl) rfl rfl (by decide) ?_; intro b14
 refine kp rfl .no Fx.go53 (Evc rfl Evn) (Gp.add .here Gp.nil) (fun _ hle hq=>goodL_ok ⟨some ⟨b14,0,none⟩,1⟩ [nm] _ (SlR.ofBlk (xs:=[nm]) (PM.add_same _ _ _) (fun _ _=>rfl) (Nat.le_refl 1)) (by show 1≤_; omega) (fun s hs=>by rw [List.mem_singleton.1 hs]; exact hn)) ?_
 refine nt rfl .no (.u rfl) (mV rfl rfl (mv rfl (.f rfl rfl) (.u rfl) (kv rfl (.f rfl rfl) Fx.go53 (Eva.cons (.s rfl) Evn) (fun hc=>goodL_ok h l _ hs hl hg) ?_)))
 refine nt rfl (.f rfl rfl) (.s rfl) (pkO rfl .no (.u rfl) (.s rfl) (.nil (.code (.cond rfl (fun c1=>?_) (fun c1=>?_)))))
 ·have c1k:=c1
  cases c1
 have c1k:=c1
 try simp only [qcA,qcC,qcB] at c1
 refine .skip (.code (.seq (.seq (rq5 rfl rfl (mV rfl rfl (nc rfl .no (.u rfl) (fz rfl .no Fx.fo118_3 (.u rfl) (ld rfl .no Fx.ag3 (.u rfl) (fun _=>Rd.own tk1 rfl) ?_))))))))
 refine cp rfl .no (.u rfl) (.u rfl) rfl (.nil (.code (.cond rfl (fun c2=>?_) (fun c2=>?_))))
 ·have c2k:=c2
  cases c2
 have c2k:=c2
 try simp only [qcA,qcC,qcB] at c2
 refine .skip (.code (.seq (.seq (rq4 rfl rfl (mV rfl rfl (nc rfl .no (.u rfl) (fz rfl .no Fx.fo118_2 (.u rfl) (ld rfl .no FxGrQ.ag4 (.u rfl) (fun _=>Rd.own tk1 rfl) ?_))))))))
 refine .nil (.code (.cond rfl (fun c3=>?_) (fun c3=>?_)))
 ·have c3k:=c3
  cases c3
 have c3k:=c3
 try simp only [qcA,qcC,qcB] at c3
 refine .skip (.code (.seq (.seq (Wk.rg [0,1,2,3,4,5,6,7,8,9,10,11] rfl rfl (mV rfl rfl (nc rfl .no (.u rfl) (fz rfl .no Fx.fo118_0 (.u rfl) (ld rfl .no Fx.ag116 (.u rfl) (fun _=>Rd.own tk1 (by first|exact wap_f rfl|rfl)) ?_))))))))
 refine mV rfl rfl (lkS2 rfl .no Fx.ms116 Fx.zv124 (.u rfl) (.u rfl) (mapOwn tk2) (lk_v) (lk_i) ?_)
 refine mV rfl rfl (ex rfl .no (.u rfl) rfl (ex rfl .no (.u rfl) rfl ?_))
 refine al rfl Fx.zr124 ?_; intro b9
 refine sw rfl (.u rfl) (.u rfl) rfl Fx.sz124 .here rfl (Fi.one _) ?_
 refine aS rfl rfl (.nil (.code (.seq (rq5 rfl rfl (mV rfl rfl (mV rfl rfl (mv rfl (.t rfl rfl) (.u rfl) (nt rfl (.t rfl rfl) (.s rfl) (pkA rfl .no (.u rfl) (.s rfl) (.nil (.code (.cond rfl (fun c4=>?_) (fun c4=>?_)))))))))))))
 ·have c4k:=c4
  exact absurd c4 (by cases there<;>simp_all)
 have c4k:=c4
 try simp only [qcA,qcC,qcB] at c4
 refine .skip (.code (.seq (rq1 rfl rfl (aS rfl rfl (.nil (.code (.ret (We.fin Tryz.results55 (.tmp rfl .nil) (mS tk2 rfl (mS tk2 rfl mN)) ?_))))))))
 exact ⟨rfl,rfl⟩
theorem did_ok (bd bm room done:Nat) (G:PM) (hd9:done≤2000000000):Ct Tryz.prog 56 ([.pointer (some ⟨bd,0,none⟩)]:List Value).toArray G [.blk bd (cl (dkC bm room done) 118)] (fun _ μ' u=>μ'=[.blk bd (cl (dkC bm room (done+1)) 118)]∧u=.int .i64 0):=by
 refine Ct.of Tryz.func56 rfl Tryz.ntmps56 rfl fun w0 hs0=>?_
 refine .seq (rq1 rfl rfl (aS rfl rfl (.nil (.code (.seq (rq8 rfl rfl (mV rfl rfl (nc rfl .no (.u rfl) (fz rfl .no Fx.fo118_4 (.u rfl) (ld rfl .no Fx.ag3 (.u rfl) (fun _=>Rd.own .here rfl) ?_))))))))))
 refine arn (((done+1):Nat):Int) rfl .no (.u rfl) (.u rfl) rfl (fun _=>by omega) (fun _=>wrap_i64 (by omega) (by omega)) ?_
 refine nc rfl .no (.u rfl) (fz rfl .no Fx.fo118_4 (.u rfl) (s1 rfl (.u rfl) (.u rfl) rfl Fx.sz3 .here (by first|(simp [dkC,Fi.cells]; done)|decide) (rfl) ?_))
 refine .nil (.code (.seq (.seq (rq5 rfl rfl (mV rfl rfl (nc rfl .no (.u rfl) (fz rfl .no Fx.fo118_3 (.u rfl) (ld rfl .no Fx.ag3 (.u rfl) (fun _=>Rd.own .here rfl) ?_))))))))
 refine cp rfl .no (.u rfl) (.u rfl) rfl (.nil (.code (.cond rfl (fun c1=>?_) (fun c1=>?_))))
 ·have c1k:=c1
  cases c1
 have c1k:=c1
 try simp only [qcA,qcC,qcB] at c1
 refine .skip (.code (.seq (rq1 rfl rfl (aS rfl rfl (.nil (.code (.ret (We.fin Tryz.results56 (.tmp rfl .nil) (mS .here rfl mN) ?_))))))))
 exact ⟨rfl,rfl⟩
theorem size_ok (bd bm room done clk:Nat) (F:List Fi) (G:PM) (hD:DkR F clk) (hbd:PB G bd (cl (dkC bm room done) 118)) (hbm:PB G bm (mO (F.map Fi.fe) clk)):Ct Tryz.prog 247 ([.pointer (some ⟨bd,0,none⟩)]:List Value).toArray G [] (fun _ μ' u=>μ'=[]∧u=.int .i64 ((szF F:Nat):Int)):=by
 refine Ct.of Tryz.func247 rfl Tryz.ntmps247 rfl fun w0 hs0=>?_
 refine .seq (rq1 rfl rfl (aS rfl rfl (.nil (.code (.seq (rq1 rfl rfl (aS rfl rfl (.nil (.code (.seq (.seq (rq2 rfl rfl (mV rfl rfl (pn rfl .no Fx.pt48 (.u rfl) (.u rfl) ?_))))))))))))))
 refine .nil (.code (Wk.condT rfl rfl ?_))
 refine .seq (rq5 rfl rfl (mV rfl rfl (nc rfl .no (.u rfl) (fa rfl .no Fx.fo118_0 (.u rfl) (ld rfl .no Fx.ag116 (.u rfl) (fun _=>(hbd.rd (rfl)).rd) ?_)))))
 refine rgS rfl Fx.ms116 (.u rfl) (mapStay hbm.h) ?_; intro b12
 refine .nil (.code (.block ?_))
 refine Wk.lop (α:=List Nat×Nat) (fun gh=>[(3,true,.int .i64 ((szS gh.1 F:Nat):Int))]) (fun gh=>[.blk b12 (itO bm clk gh.2 gh.1)])
  (fun gh Gl=>(gh.2=clk)) (fun gh=>lfS gh.1 F) ([],clk) [(12,true,_)] []
  (esC rfl (by rw [szS_nil]; rfl) (esD rfl eZ))
  (mS .here rfl mN) ?_ ?_
 ·(try dsimp only)<;>(first|omega|rfl|assumption|(simp; done))
 intro gh N0 Gl0 hN0 hGl0 hF0
 obtain ⟨seen,last⟩:=gh; dsimp only at hF0 hN0 ⊢
 have hl:=hF0
 have hbm:=hbm.mono hGl0
 have hsz:=szS_le (seen:=seen) (F:=F); have hfw:=hD.few; have hlst:∀ e∈F.map Fi.fe,e.2.2<last:=by rw [hl]; exact hD.oldE
 refine .seq (rq2 rfl rfl ?_)
 refine nxS rfl (.u rfl) .here (mapStay hbm.h) hD.oldE hlst ?_; intro o13 ho13
 refine ex rfl .no (.u rfl) (nx_b o13) (.nil (.code (.seq (.cond rfl (fun c1=>?_) (fun c1=>?_)))))
 ·have c1k:=c1
  obtain ⟨e6,rfl⟩:=Option.isSome_iff_exists.1 c1
  obtain ⟨f6,hf6,rfl,hn6,hm6⟩:=szS_next hD.nd ho13
  have hle6:=szS_le (seen:=seen++[f6.born]) (F:=F)
  refine .skip (.code (.block (.seq (rq4 rfl rfl (etS rfl (.u rfl) .here (mapStay hbm.h) (fe_find hD.nd hf6) ?_)))))
  refine ex rfl .no (.u rfl) rfl ?_
  refine al rfl Fx.zr124 ?_; intro b5
  refine sw rfl (.u rfl) (.u rfl) rfl Fx.sz124 .here rfl (Fi.one _) ?_
  refine .nil (.code (rq6 rfl rfl (mV rfl rfl (fz rfl .no Fx.fo124_0 (.u rfl) (ld rfl .no Fx.ag25 (.u rfl) (fun _=>Rd.own .here rfl) ?_)))))
  refine ln rfl .no Fx.sn25 (.u rfl) (arn (((szS seen F+f6.n):Nat):Int) rfl .no (.u rfl) (.u rfl) rfl (fun _=>by omega) (fun _=>wrap_i64 (by omega) (by omega)) ?_)
  refine aS rfl rfl (.nil (.blk (We.lpo (seen++[f6.born],clk) ?_ ?_ ?_ ?_ ?_)))
  ·exact (esC rfl (by rw [hn6]) (esD rfl eZ))
  ·exact (mS tk1 rfl mN)
  ·have h7:lfS (seen++[f6.born]) F+1=lfS seen F:=hm6; show lfS (seen++[f6.born]) F<N0; omega
  ·exact hGl0
  (try dsimp only)<;>(first|omega|rfl|assumption|(simp; done))
 have c1k:=c1
 have:o13=none:=by cases o13<;>simp_all
 subst this
 have hE:=szS_end ho13
 refine .exit (.xcode (.xlp (.xblk (.code (.seq (rq2 rfl rfl (mV rfl rfl (aS rfl rfl (.nil (.code (.ret (We.fin0 Tryz.results247 (.tmp rfl .nil) ?_))))))))))))
 exact ⟨rfl,by rw [hE]; rfl⟩
end Go.Proofs.YtoifkgkandfeiaaGreatDoor
namespace Go.Tan
open Go.RowKit
section
variable {P:Program} {n:Fm} {l:List Oper} {K K':Env→PM→Mem→Prop} {mc:Md}
theorem Sat.nil {G:PM} {w:World} (h:∀ b o,G b=some o→w.heap[b]? = some o):Sat G [] w:=⟨h,by simp,by simp [keys],by simp [keys]⟩
theorem Wo.unlay {j:Nat} {ρ:Env} {G:PM} {μ:Mem} {oi oj:Oper} {c:Bool} {v:Value} (hK:KOk K) (hoj:nth l j=some oj) (hap:Apart l oi oj) (hd:dstOk n oi.dst)
  (H:Wo true mc P n l K [j] (lay ρ oi.dst c v) G μ):Wo true mc P n l (fun ρ' G' μ'=>PM.le G G'∧(∃ c' v',ρ'=lay ρ oj.dst c' v')∧K (lay ρ' oi.dst c v) G' μ') [j] ρ G μ:=by
 have h0:∀ {ρ G μ},Wo true mc P n l K [] ρ G μ→K ρ G μ:=fun h=>by cases h with | nil h=>exact h
 have sw:∀ {c':Bool} {v':Value} {G':PM} {μ':Mem},Wo true mc P n l K [] (lay (lay ρ oi.dst c v) oj.dst c' v') G' μ'→K (lay (lay ρ oj.dst c' v') oi.dst c v) G' μ':=fun h=>hK.1 _ _ _ _ (look_swap hap.dd) (h0 h)
 cases H with
 | @pure _ _ _ _ _ o cj vj ho hk hg hr h =>
  obtain rfl:oj=o:=Option.some.inj (hoj.symm.trans ho)
  refine .pure hoj hk (gd_drop hap.ij hg) (fun hc a w ha=>drop_put hd hap.sj hap.ij (Φ:=fun s=>s.run P w=.ok (.value vj) w) (fun a ha=>hr hc a w ha) a ha) (.nil ⟨PM.le.refl G,⟨_,_,rfl⟩,sw h⟩)
 | @read _ _ _ _ _ o cj vj ho hk hg hr h =>
  obtain rfl:oj=o:=Option.some.inj (hoj.symm.trans ho)
  refine .read hoj hk (gd_drop hap.ij hg) (fun hc a w ha hs=>drop_put hd hap.sj hap.ij (Φ:=fun s=>s.run P w=.ok (.value vj) w) (fun a ha=>hr hc a w ha hs) a ha) (.nil ⟨PM.le.refl G,⟨_,_,rfl⟩,sw h⟩)
 | @make _ _ _ _ _ o ob mkv ho hk hg hr h =>
  obtain rfl:oj=o:=Option.some.inj (hoj.symm.trans ho)
  exact .make hoj hk hg hr fun b=>.nil ⟨PM.le.refl G,⟨_,_,rfl⟩,sw (h b)⟩
 | @box _ _ _ _ _ o ob mkv ho hk hg hr h =>
  obtain rfl:oj=o:=Option.some.inj (hoj.symm.trans ho)
  exact .box hoj hk (gd_drop hap.ij hg) (fun a w ha=>drop_put hd hap.sj hap.ij (Φ:=fun s=>s.run P w=.ok (.value (mkv w.heap.size)) (w.alloc ob)) (fun a ha=>hr a w ha) a ha) fun b=>.nil ⟨PM.le.refl G,⟨_,_,rfl⟩,sw (h b)⟩
 | @callv _ _ _ _ _ o cj f args vj Gp ho hk hg hr hf h =>
  obtain rfl:oj=o:=Option.some.inj (hoj.symm.trans ho)
  exact .callv hoj hk (gd_drop hap.ij hg) (fun hc a w ha=>drop_put hd hap.sj hap.ij (Φ:=fun s=>s.run P w=.ok (.enter f args) w) (fun a ha=>hr hc a w ha) a ha) hf (.nil ⟨PM.le.refl G,⟨_,_,rfl⟩,sw h⟩)
 | @call _ _ _ _ _ o f args post ho hk hg hr hf h =>
  obtain rfl:oj=o:=Option.some.inj (hoj.symm.trans ho)
  exact .call hoj hk (gd_drop hap.ij hg) (fun a w ha=>drop_put hd hap.sj hap.ij (Φ:=fun s=>s.run P w=.ok (.enter f args) w) (fun a ha=>hr a w ha) a ha) hf fun v' G' μ' hle hp=>.nil ⟨hle,⟨_,_,rfl⟩,sw (h v' G' μ' hle hp)⟩
 | callg hdf _ _ _ _ _=>cases hdf
 | callp hdf _ _ _ _ _ _ _=>cases hdf
 | pan hdf _ _ _ _=>cases hdf
 | @fresh _ _ _ _ _ o μ₁ μ₂ post ho hk hg hp hr hw h =>
  obtain rfl:oj=o:=Option.some.inj (hoj.symm.trans ho)
  exact .fresh hoj hk hg hp (fun a w ha hs=>drop_put hd hap.sj hap.ij (Φ:=fun s=>∃ v w' G' μa μb,s.run P w=.ok (.value v) w'∧Tr G (keys μ₁) w G' (μa++μb) w'∧post G' μa μb v) (fun a ha=>hr a w ha hs) a ha) hw fun v' G' μa μb hle hq=>.nil ⟨hle,⟨_,_,rfl⟩,sw (h v' G' μa μb hle hq)⟩
 | @act _ _ _ _ _ o μ₁ μ₂ post ho hk hg hp hr h =>
  obtain rfl:oj=o:=Option.some.inj (hoj.symm.trans ho)
  exact .act hoj hk (gd_drop hap.ij hg) hp (fun a w ha hs=>drop_put hd hap.sj hap.ij (Φ:=fun s=>(∃ v w' G' μ',(s.run P w=.ok (.value v) w'∨s.run P w=.ok .skip w'∧v=undef)∧Tr G (keys μ₁) w G' μ' w'∧post G' μ' v) ∨
    (∃ f args,s.run P w=.ok (.enter f args) w∧Ct P f args G μ₁ post)) (fun a ha=>hr a w ha hs) a ha) fun v' G' μ' hle hq=>.nil ⟨hle,⟨_,_,rfl⟩,sw (h v' G' μ' hle hq)⟩
def oneP (mc:Md) (l:List Oper) (listed:Array Bool) (i:Nat):Bool :=
 (rdy l listed).contains i&&match nth l i with
 | some oi=>(kindOf mc oi.op == .read)&&(List.range l.length).all fun j=>listed.getD j true||j == i||match nth l j with
  | some oj=>dep l l.length j i||oi.apart l.toArray oj
  | none=>false
 | none=>false
def PRd (P:Program) (n:Fm) (l:List Oper) (o:Oper) (c:Bool) (v:Value) (ρ:Env) (G:PM):Prop :=
 Gd l ρ o.guard c∧(c=true→∀ a w,Ag n ρ a→(∀ b u,G b=some u→w.heap[b]? = some u)→(execOp a.eval o).run P w=.ok (.value v) w)
def lastOk (l:List Oper) (j:Nat):Bool:=(List.range l.length).all fun i=>i == j||dep l l.length j i
def Wp (mc:Md) (P:Program) (n:Fm) (l:List Oper) (K:Env→PM→Mem→Prop):Nat→Array Bool→Env→PM→Mem→Prop
 | 0,listed,ρ,G,μ=>rdy l listed=[]∧K ρ G μ
 | m+1,listed,ρ,G,μ=>(∃ i,oneOk mc l listed i=true∧Wo true mc P n l (fun ρ' G' μ'=>Wp mc P n l K m (listed.setIfInBounds i true) ρ' G' μ') [i] ρ G μ) ∨
   (rdy l listed≠[]∧∀ j∈rdy l listed,Wo true mc P n l (fun ρ' G' μ'=>Wp mc P n l K m (listed.setIfInBounds j true) ρ' G' μ') [j] ρ G μ) ∨
   (∃ i o c v,oneP mc l listed i=true∧nth l i=some o∧PRd P n l o c v ρ G∧Wp mc P n l K m (listed.setIfInBounds i true) (lay ρ o.dst c v) G μ) ∨
   (∃ j,rdy l listed=[j]∧lastOk l j=true∧Wo false mc P n l (fun ρ' G' μ'=>Wp mc P n l K m (listed.setIfInBounds j true) ρ' G' μ') [j] ρ G μ)
theorem PRd.congr {o:Oper} {c:Bool} {v:Value} {ρ ρ':Env} {G:PM} (h:PRd P n l o c v ρ G) (e:∀ i,look ρ i=look ρ' i):PRd P n l o c v ρ' G :=
 ⟨h.1.congr fun _ t _ _ _=>e t,fun hc a w ha hs=>h.2 hc a w (ha.congr e) hs⟩
theorem Wp.kok (hK:KOk K):∀ (m:Nat) (listed:Array Bool),KOk (fun ρ G μ=>Wp mc P n l K m listed ρ G μ)
 | 0,listed=>⟨fun ρ ρ' G μ e h=>⟨h.1,hK.1 _ _ _ _ e h.2⟩,fun ρ G μ μ' p h=>⟨h.1,hK.2 _ _ _ _ p h.2⟩⟩
 | m+1,listed=>by
  refine ⟨fun ρ ρ' G μ e h=>?_,fun ρ G μ μ' p h=>?_⟩
  ·rcases h with ⟨i,h1,h2⟩ | ⟨h1,h2⟩ | ⟨i,o,c,v,h1,h2,h3,h4⟩ | ⟨j,h1,h2,h3⟩
   ·exact .inl ⟨i,h1,h2.congr (Wp.kok hK m _) e⟩
   ·exact .inr (.inl ⟨h1,fun j hj=>(h2 j hj).congr (Wp.kok hK m _) e⟩)
   ·exact .inr (.inr (.inl ⟨i,o,c,v,h1,h2,h3.congr e,(Wp.kok hK m _).1 _ _ _ _ (look_lay_congr e _ _ _) h4⟩))
   exact .inr (.inr (.inr ⟨j,h1,h2,h3.congr (Wp.kok hK m _) e⟩))
  rcases h with ⟨i,h1,h2⟩ | ⟨h1,h2⟩ | ⟨i,o,c,v,h1,h2,h3,h4⟩ | ⟨j,h1,h2,h3⟩
  ·exact .inl ⟨i,h1,h2.perm (Wp.kok hK m _) p⟩
  ·exact .inr (.inl ⟨h1,fun j hj=>(h2 j hj).perm (Wp.kok hK m _) p⟩)
  ·exact .inr (.inr (.inl ⟨i,o,c,v,h1,h2,h3,(Wp.kok hK m _).2 _ _ _ _ p h4⟩))
  exact .inr (.inr (.inr ⟨j,h1,h2,h3.perm (Wp.kok hK m _) p⟩))
theorem oneP_mono {listed:Array Bool} {i j:Nat} (hne:i≠j) (h:oneP mc l listed i=true):oneP mc l (listed.setIfInBounds j true) i=true:=by
 unfold oneP at h ⊢
 simp only [Bool.and_eq_true] at h ⊢
 obtain ⟨h1,h2⟩:=h
 refine ⟨by simpa using rdy_mono (by simpa using h1) hne,?_⟩
 cases hi:nth l i with
 | none=>rw [hi] at h2; cases h2
 | some oi =>
  simp only [hi,Bool.and_eq_true] at h2 ⊢
  refine ⟨h2.1,List.all_eq_true.2 fun k hk=>?_⟩
  have h3:=List.all_eq_true.1 h2.2 k hk
  by_cases e:j=k
  ·subst e
   have:(listed.setIfInBounds j true).getD j true=true:=by
    rcases Nat.lt_or_ge j listed.size with h' | h'<;>simp [h']
   rw [this]; rfl
  rw [getD_set_ne true e]; exact h3
theorem lastNo {listed:Array Bool} {i j:Nat} (hc:Closed l listed) (hi:listed.getD i true=false) (hil:i<l.length) (hj:j∈rdy l listed) (hne:i≠j) (h:lastOk l j=true):False:=by
 have h1:=List.all_eq_true.1 h i (List.mem_range.2 hil)
 rw [not_dep hc hi hj] at h1
 simp [hne] at h1
theorem Wp.front (hK:KOk K) (hs:Region.noSelect l.toArray=true) (hmk:∀ j oj,nth l j=some oj→kindOf mc oj.op=.make→Makes P oj) (hds:∀ j oj,nth l j=some oj→dstOk n oj.dst) :
  ∀ (m:Nat) (listed:Array Bool) (j:Nat) (ρ:Env) (G:PM) (μ:Mem),unlN listed=m+1→Closed l listed→j∈rdy l listed→Wp mc P n l K (m+1) listed ρ G μ→Wo true mc P n l (fun ρ' G' μ'=>Wp mc P n l K m (listed.setIfInBounds j true) ρ' G' μ') [j] ρ G μ∨(lastOk l j=true∧Wo false mc P n l (fun ρ' G' μ'=>Wp mc P n l K m (listed.setIfInBounds j true) ρ' G' μ') [j] ρ G μ)
 | m,listed,j,ρ,G,μ,hu,hcl,hj,H=>by
  rcases H with ⟨i,h1,h2⟩ | ⟨_,h2⟩ | ⟨i,oi,c,v,h1,hoi,h2,h3⟩ | ⟨j',h1,h2,h3⟩
  ·by_cases e:j=i
   ·subst e; exact .inl h2
   have hi:i∈rdy l listed:=by unfold oneOk at h1; simp only [Bool.and_eq_true] at h1; simpa using h1.1
   have hj':=rdy_mono hj e
   have hiun:=(rdy_iff.1 hi).1
   have hjun:=(rdy_iff.1 hj).1
   have hu1:=unlN_set hiun
   have hjun':(listed.setIfInBounds i true).getD j true=false:=by rw [getD_set_ne true (Ne.symm e)]; exact hjun
   have hp:=unlN_pos hjun'
   obtain ⟨m',rfl⟩ : ∃ m',m=m'+1:=⟨m-1,by omega⟩
   obtain ⟨_,oi,hoi,_⟩:=rdy_iff.1 hi
   have hil:i<l.length:=by
    have:=(nth_eq l i).trans hoi
    exact (by simpa using (Array.getElem?_eq_some_iff.1 this).1)
   obtain ⟨_,oj,hoj,_⟩:=rdy_iff.1 hj
   have h3:Wo true mc P n l (fun ρ' G' μ'=>Wp mc P n l K m' ((listed.setIfInBounds i true).setIfInBounds j true) ρ' G' μ') (i :: [j]) ρ G μ :=
    h2.bind1 fun ρ' G' μ' h=>(Wp.front hK hs hmk hds m' (listed.setIfInBounds i true) j ρ' G' μ' (by omega) (hcl.set hi) hj' h).resolve_right fun hl=>lastNo hcl hiun hil hj (fun q=>e q.symm) hl.1
   have hnoe:=not_dep hcl hiun hj l.length
   have hjl:j<l.length:=by
    have:=(nth_eq l j).trans hoj
    exact (by simpa using (Array.getElem?_eq_some_iff.1 this).1)
   have h1':=h1
   unfold oneOk at h1'
   simp only [Bool.and_eq_true,hoi] at h1'
   obtain ⟨_,hki,hall⟩:=h1'
   have h4:=List.all_eq_true.1 hall j (List.mem_range.2 hjl)
   simp only [hjun,hoj,hnoe,Bool.false_or,Bool.or_eq_true,beq_iff_eq,e,false_or,Bool.and_eq_true,bne_iff_ne] at h4
   simp only [Bool.or_eq_true,beq_iff_eq] at hki
   have hkk:kindOf mc oi.op=.pure∨(kindOf mc oi.op=.read∧kindOf mc oj.op≠.act)∨kindOf mc oj.op=.make:=by
    rcases hki with h5 | h5
    ·exact .inl h5
    rcases h4.2 with h6 | h6
    ·exact .inl h6
    exact .inr (.inl ⟨h5,h6⟩)
   have h5:=Wo.swap (Wp.kok hK m' _) rfl hoi hoj (apart_of hs hoi hoj h4.1) hds (hmk j oj hoj) hkk h3
   refine .inl (h5.cut1.bind1 fun ρ' G' μ' h=>.nil (.inl ⟨i,oneOk_mono (Ne.symm e) h1,?_⟩))
   rw [Array.setIfInBounds_comm _ _ e]
   exact h
  ·exact .inl (h2 j hj)
  ·by_cases e:j=i
   ·subst e
    have hkr:kindOf mc oi.op=.read:=by
     unfold oneP at h1; simp only [Bool.and_eq_true,hoi,beq_iff_eq] at h1; exact h1.2.1
    exact .inl (.read hoi (.inl hkr) h2.1 (fun hc a w ha hs=>h2.2 hc a w ha hs.sub) (.nil h3))
   have hi:i∈rdy l listed:=by unfold oneP at h1; simp only [Bool.and_eq_true] at h1; simpa using h1.1
   have hj':=rdy_mono hj e
   have hiun:=(rdy_iff.1 hi).1
   have hjun:=(rdy_iff.1 hj).1
   have hu1:=unlN_set hiun
   have hjun':(listed.setIfInBounds i true).getD j true=false:=by rw [getD_set_ne true (Ne.symm e)]; exact hjun
   have hp:=unlN_pos hjun'
   obtain ⟨m',rfl⟩ : ∃ m',m=m'+1:=⟨m-1,by omega⟩
   obtain ⟨_,oj,hoj,_⟩:=rdy_iff.1 hj
   have hnoe:=not_dep hcl hiun hj l.length
   have hjl:j<l.length:=by
    have:=(nth_eq l j).trans hoj
    exact (by simpa using (Array.getElem?_eq_some_iff.1 this).1)
   have h1':=h1
   unfold oneP at h1'
   simp only [Bool.and_eq_true,hoi] at h1'
   obtain ⟨_,_,hall⟩:=h1'
   have h4:=List.all_eq_true.1 hall j (List.mem_range.2 hjl)
   simp only [hjun,hoj,hnoe,Bool.false_or,Bool.or_eq_true,beq_iff_eq,e,false_or] at h4
   have hap:=apart_of hs hoi hoj h4
   have hil:i<l.length:=by
    have:=(nth_eq l i).trans hoi
    exact (by simpa using (Array.getElem?_eq_some_iff.1 this).1)
   have h5:=(Wp.front hK hs hmk hds m' (listed.setIfInBounds i true) j _ G μ (by omega) (hcl.set hi) hj' h3).resolve_right fun hl=>lastNo hcl hiun hil hj (fun q=>e q.symm) hl.1
   refine .inl ((Wo.unlay (Wp.kok hK m' _) hoj hap (hds i oi hoi) h5).bind1 fun ρ' G' μ' ⟨hle,⟨c',v',hρ⟩,h⟩=>.nil (.inr (.inr (.inl ⟨i,oi,c,v,oneP_mono (Ne.symm e) h1,hoi,?_,?_⟩))))
   ·subst hρ
    refine ⟨gd_put hap.ji h2.1,fun hc a w ha hs=>?_⟩
    exact keep_put (hds j oj hoj) hap.si hap.ji (Φ:=fun s=>s.run P w=.ok (.value v) w) (fun a ha=>h2.2 hc a w ha (fun b u hb=>hs b u (hle b u hb))) a ha
   rw [Array.setIfInBounds_comm _ _ e]
   exact h
  rw [h1] at hj
  obtain rfl:=List.mem_singleton.1 hj
  exact .inr ⟨h2,h3⟩
theorem Wp.any {Q:Exit→Act→World→Prop} {G0:PM} {K0:List Nat} {w0:World} (hK:KOk K) (hs:Region.noSelect l.toArray=true) (hmk:∀ j oj,nth l j=some oj→kindOf mc oj.op=.make→Makes P oj) (hds:∀ j oj,nth l j=some oj→dstOk n oj.dst)
  (hQ:∀ ρ G μ,K ρ G μ→∀ a w,Ag n ρ a→Tr G0 K0 w0 G μ w→Q .normal a w) (hD:∀ ch ρ G μ a w,n.die ch ρ G μ→Ag n ρ a→Tr G0 K0 w0 G μ w→Q (.panic ch) a w) :
  ∀ (m:Nat) (listed:Array Bool) (ρ:Env) (G:PM) (μ:Mem) (a:Act) (w:World),unlN listed=m→Closed l listed→Wp mc P n l K m listed ρ G μ→Ag n ρ a→Tr G0 K0 w0 G μ w→wpAny P .any l.toArray Q m listed a w
 | 0,listed,ρ,G,μ,a,w,_,_,H,ha,ht=>⟨H.1,hQ _ _ _ H.2 a w ha ht⟩
 | m+1,listed,ρ,G,μ,a,w,hu,hcl,H,ha,ht=>by
  refine ⟨fun h0=>?_,fun j hj=>?_⟩
  ·rcases H with ⟨i,h1,_⟩ | ⟨h1,_⟩ | ⟨i,oi,c,v,h1,_⟩ | ⟨j',h1,_⟩
   ·have hi:i∈rdy l listed:=by unfold oneOk at h1; simp only [Bool.and_eq_true] at h1; simpa using h1.1
    unfold rdy at hi
    rw [h0] at hi; cases hi
   ·exact absurd h0 h1
   ·have hi:i∈rdy l listed:=by unfold oneP at h1; simp only [Bool.and_eq_true] at h1; simpa using h1.1
    unfold rdy at hi
    rw [h0] at hi; cases hi
   unfold rdy at h1
   rw [h0] at h1; cases h1
  have hj':j∈rdy l listed:=hj
  have hu1:=unlN_set (rdy_iff.1 hj').1
  obtain ⟨o,ho,h⟩ : ∃ o,nth l j=some o∧if Region.wanted o (yielded l.toArray a.tmps) then o.wp P a w (wpAny P .any l.toArray Q m (listed.setIfInBounds j true)) Q else wpAny P .any l.toArray Q m (listed.setIfInBounds j true) (a.put o.dst undef) w:=by
   rcases Wp.front hK hs hmk hds m listed j ρ G μ hu hcl hj' H with hh | ⟨_,hh⟩
   ·exact hh.head ha ht (next:=wpAny P .any l.toArray Q m (listed.setIfInBounds j true)) (Q:=Q) hds (fun hdr'=>by cases hdr')
     (fun ρ' G' μ' a' w' H' ha' ht'=>by cases H' with | nil h=>exact Wp.any hK hs hmk hds hQ hD m _ ρ' G' μ' a' w' (by omega) (hcl.set hj') h ha' ht')
   exact hh.head ha ht (next:=wpAny P .any l.toArray Q m (listed.setIfInBounds j true)) (Q:=Q) hds (fun _=>hD)
    (fun ρ' G' μ' a' w' H' ha' ht'=>by cases H' with | nil h=>exact Wp.any hK hs hmk hds hQ hD m _ ρ' G' μ' a' w' (by omega) (hcl.set hj') h ha' ht')
  simp only [wpOp,nth_eq,ho]
  split
  ·rename_i hw; rw [if_pos hw] at h; exact .inl h
  rename_i hw; rw [if_neg hw] at h; exact h
theorem Wk.mixp {X:Cx} {k:List KI} {id:Nat} {ρ:Env} {G:PM} {μ:Mem} (mc:Md) (hm:X.P.follows .mixedOrders=true) (hok:mixOk X.P X.n.n l=true)
  (h:Wp mc X.P X.n l (fun ρ G μ=>We X .normal k ρ G μ) l.length (Array.replicate l.length false) ρ G μ):Wk X (.region id l.toArray true) k ρ G μ:=by
 simp only [mixOk,Bool.and_eq_true] at hok
 obtain ⟨⟨h1,h2⟩,h3⟩:=hok
 refine ⟨fun a w ha ht=>wp_region_any hm ?_⟩
 have hu:unlN (Array.replicate l.length false)=l.length:=by simp [unlN]
 have:=Wp.any (Q:=Qof X k) (We.kok .normal) h1 (fun j oj hj hk=>makes_of hk (List.all_eq_true.1 h3 oj (mem_of_nth hj)))
  (fun j oj hj=>by
   have:=List.all_eq_true.1 h2 oj (mem_of_nth hj)
   cases hd:oj.dst with
   | none=>trivial
   | some d=>rw [hd] at this; show d<X.n.n; exact of_decide_eq_true this) (fun _ _ _ h a w ha ht=>h.out a w ha ht) (Qof_panic X k) l.length _ ρ G μ a _ hu (Closed.none l.length) h ha ht.drew
 simpa using this
variable {ρ:Env} {G:PM} {μ:Mem} {m:Nat} {listed:Array Bool}
theorem Wp.last (hr:rdy l listed=[]) (h:K ρ G μ):Wp mc P n l K 0 listed ρ G μ:=⟨hr,h⟩
theorem Wp.one (i:Nat) (hc:oneOk mc l listed i=true) (h:Wo true mc P n l (fun ρ' G' μ'=>Wp mc P n l K m (listed.setIfInBounds i true) ρ' G' μ') [i] ρ G μ):Wp mc P n l K (m+1) listed ρ G μ:=.inl ⟨i,hc,h⟩
theorem Wp.pr (i:Nat) (hc:oneP mc l listed i=true) (h:Wo true mc P n l (fun ρ' G' μ'=>(G'=G∧μ'=[])∧Wp mc P n l K m (listed.setIfInBounds i true) ρ' G μ) [i] ρ G []):Wp mc P n l K (m+1) listed ρ G μ:=by
 have h1:=hc
 unfold oneP at h1
 simp only [Bool.and_eq_true] at h1
 cases hoi:nth l i with
 | none=>rw [hoi] at h1; cases h1.2
 | some oi =>
  have hkr:kindOf mc oi.op=.read:=by simp only [hoi,Bool.and_eq_true,beq_iff_eq] at h1; exact h1.2.1
  cases h with
  | @read _ _ _ _ _ o c v ho hk hg hr h =>
   obtain rfl:oi=o:=Option.some.inj (hoi.symm.trans ho)
   cases h with
   | nil h=>exact .inr (.inr (.inl ⟨i,oi,c,v,hc,hoi,⟨hg,fun hc' a w ha hs=>hr hc' a w ha (Sat.nil hs)⟩,h.2⟩))
  | @pure _ _ _ _ _ o cj vj ho hk _ _ _=>obtain rfl:oi=o:=Option.some.inj (hoi.symm.trans ho); rcases hk with hk | hk<;>simp_all
  | @make _ _ _ _ _ o _ _ ho hk _ _ _=>obtain rfl:oi=o:=Option.some.inj (hoi.symm.trans ho); rcases hk with hk | hk<;>simp_all
  | @box _ _ _ _ _ o _ _ ho hk _ _ _=>obtain rfl:oi=o:=Option.some.inj (hoi.symm.trans ho); rcases hk with hk | hk<;>simp_all
  | @callv _ _ _ _ _ o cj f args vj Gp ho hk _ _ _ _=>obtain rfl:oi=o:=Option.some.inj (hoi.symm.trans ho); rcases hk with hk | hk | hk<;>simp_all
  | @call _ _ _ _ _ o f args post ho hk _ _ _ _=>obtain rfl:oi=o:=Option.some.inj (hoi.symm.trans ho); rcases hk with hk | hk | hk<;>simp_all
  | callg hdf _ _ _ _ _=>cases hdf
  | callp hdf _ _ _ _ _ _ _=>cases hdf
  | pan hdf _ _ _ _=>cases hdf
  | @fresh _ _ _ _ _ o μ₁ μ₂ post ho hk _ _ _ _ _=>obtain rfl:oi=o:=Option.some.inj (hoi.symm.trans ho); rcases hk with hk | hk<;>simp_all
  | @act _ _ _ _ _ o μ₁ μ₂ post ho hk _ _ _ _=>obtain rfl:oi=o:=Option.some.inj (hoi.symm.trans ho); rcases hk with hk | hk<;>simp_all
theorem Wp.b1 (j:Nat) (hr:rdy l listed=[j]) (h:Wo true mc P n l (fun ρ' G' μ'=>Wp mc P n l K m (listed.setIfInBounds j true) ρ' G' μ') [j] ρ G μ):Wp mc P n l K (m+1) listed ρ G μ :=
 .inr (.inl ⟨by rw [hr]; simp,fun j' hj'=>by rw [hr] at hj'; obtain rfl:=List.mem_singleton.1 hj'; exact h⟩)
theorem Wp.bp (j:Nat) (hr:rdy l listed=[j]) (hl:lastOk l j=true) (h:Wo false mc P n l (fun ρ' G' μ'=>Wp mc P n l K m (listed.setIfInBounds j true) ρ' G' μ') [j] ρ G μ):Wp mc P n l K (m+1) listed ρ G μ :=
 .inr (.inr (.inr ⟨j,hr,hl,h⟩))
theorem Wp.b2 (j j2:Nat) (hr:rdy l listed=[j,j2]) (h:Wo true mc P n l (fun ρ' G' μ'=>Wp mc P n l K m (listed.setIfInBounds j true) ρ' G' μ') [j] ρ G μ)
  (h2:Wo true mc P n l (fun ρ' G' μ'=>Wp mc P n l K m (listed.setIfInBounds j2 true) ρ' G' μ') [j2] ρ G μ):Wp mc P n l K (m+1) listed ρ G μ :=
 .inr (.inl ⟨by rw [hr]; simp,fun j' hj'=>by
  rw [hr] at hj'
  rcases List.mem_cons.1 hj' with rfl | hj'
  ·exact h
  ·obtain rfl:=List.mem_singleton.1 hj'; exact h2⟩)
theorem Wp.b3 (j j2 j3:Nat) (hr:rdy l listed=[j,j2,j3]) (h:Wo true mc P n l (fun ρ' G' μ'=>Wp mc P n l K m (listed.setIfInBounds j true) ρ' G' μ') [j] ρ G μ)
  (h2:Wo true mc P n l (fun ρ' G' μ'=>Wp mc P n l K m (listed.setIfInBounds j2 true) ρ' G' μ') [j2] ρ G μ) (h3:Wo true mc P n l (fun ρ' G' μ'=>Wp mc P n l K m (listed.setIfInBounds j3 true) ρ' G' μ') [j3] ρ G μ):Wp mc P n l K (m+1) listed ρ G μ :=
 .inr (.inl ⟨by rw [hr]; simp,fun j' hj'=>by
  rw [hr] at hj'
  rcases List.mem_cons.1 hj' with rfl | hj'
  ·exact h
  ·rcases List.mem_cons.1 hj' with rfl | hj'
   ·exact h2
   ·obtain rfl:=List.mem_singleton.1 hj'; exact h3⟩)
end
end Go.Tan
namespace Go.Proofs.YtoifkgkandfeiaaGreatDoor
open Go.Tan Go.RowKit
namespace Fx
theorem go55:goFn Tryz.prog 55=true:=by kernel_rfl
theorem fo118_1:fOff Tryz.prog 118 1=some 1:=by kernel_rfl
theorem go247:goFn Tryz.prog 247=true:=by kernel_rfl
theorem ag124:aggN Tryz.prog 124=some (some 2):=by kernel_rfl
theorem go56:goFn Tryz.prog 56=true:=by kernel_rfl
theorem fo124_1:fOff Tryz.prog 124 1=some 1:=by kernel_rfl
end Fx
theorem dAppend_ok (bd bm room done clk:Nat) (F:List Fi) (G:PM) (hD:DkR F clk) (hd9:done≤1000000000) (hr9:room≤1000000000) (nm:ByteArray) (h:Sh) (xs:List Y) (hs:SlR G 1 encY h xs) (hn:goodN nm) (hab:fget nm F=none) (hx:xs.length≤1000000000) (hfit:xs.length+szF F≤room):Ct Tryz.prog 175 ([.pointer (some ⟨bd,0,none⟩),.string nm,h.val xs.length]:List Value).toArray G [.blk bd (cl (dkC bm room (done)) 118),.blk bm (mO ((F).map Fi.fe) (clk))] (fun _ μ' u=>∃ f:Fi,f.nm=nm∧f.n=xs.length∧f.safe=0∧f.born=clk∧μ'=[.blk bd (cl (dkC bm room (done+1)) 118),.blk bm (mO ((F++[f]).map Fi.fe) (clk+1))]∧u=.int .i64 0):=by
 refine Ct.of Tryz.func175 rfl Tryz.ntmps175 rfl fun w0 hs0=>?_
 have hfw:=hD.few
 refine .seq (rq1 rfl rfl (aS rfl rfl (.nil (.code (.seq (.seq (rq4 rfl rfl (mV rfl rfl (mV rfl rfl (ka rfl (.inr rfl) Fx.go55 (Evc rfl (Evc rfl (Evc rfl (Evc rfl Evn)))) (mtk2 .here .here) (ready_ok bd bm room done clk F _ hD hd9 hr9 nm false ⟨none,0⟩ [] SlR.nul (Nat.zero_le _) (fun s hs=>absurd hs List.not_mem_nil) hn (fun h=>absurd h (by decide))) ?_))))))))))
 rintro _ G11 μ11 hG11 ⟨rfl,rfl⟩
 have hs:=hs.mono hG11
 refine aS rfl rfl (.nil (.code (.seq (rq2 rfl rfl (mV rfl rfl (cp rfl .no (.u rfl) (.u rfl) rfl (.nil (.code (.cond rfl (fun c1=>?_) (fun c1=>?_))))))))))
 ·have c1k:=c1
  exact absurd c1 (by decide)
 have c1k:=c1
 try simp only [qcA,qcC,qcB] at c1
 refine .skip (.code (.seq (.seq (Wk.draw (mc:=⟨false,false⟩) [0,1,2,3,4,5,6,7,8,9] Fx.mix (by kernel_rfl) ?_))))
 refine mV rfl rfl (ln rfl .no Fx.sn25 (.u rfl) (mV rfl rfl (nc rfl .no (.u rfl) (fz rfl .no Fx.fo118_1 (.u rfl) (ld rfl .no Fx.ag3 (.u rfl) (fun _=>Rd.own .here rfl) ?_)))))
 refine mV rfl rfl (kp rfl .no Fx.go247 (Evc rfl Evn) (Gp.add tk1 (Gp.add .here Gp.nil)) (fun _ hle hq=>size_ok bd bm room done clk F _ hD ⟨hq.1 _ _ (PM.add_same _ _ _)⟩ ⟨PM.add_same _ _ _⟩) ?_)
 refine ar rfl .no (.u rfl) (.u rfl) rfl (fun _=>wrap_i64 (by omega) (by omega)) ?_
 refine cp rfl .no (.u rfl) (.u rfl) rfl (.nil (.code (.cond rfl (fun c2=>?_) (fun c2=>?_))))
 ·have c2k:=c2
  simp only [decide_eq_true_eq] at c2; omega
 have c2k:=c2
 try simp only [qcA,qcC,qcB] at c2
 refine .skip (.code (.seq (rq8 rfl rfl (mV rfl rfl (nc rfl .no (.u rfl) (fz rfl .no Fx.fo118_0 (.u rfl) (ld rfl .no Fx.ag116 (.u rfl) (fun _=>Rd.own .here rfl) ?_)))))))
 refine mV rfl rfl (lkS rfl .no Fx.ms116 Fx.zv124 (.u rfl) (.u rfl) (mapOwn tk1) (lk_z hab) ?_)
 refine al rfl Fx.zr124 ?_; intro b8
 refine sw rfl (.u rfl) (.u rfl) rfl Fx.sz124 .here rfl (by simp [Value.oneCell']) ?_
 refine .nil (.code (.seq (wk_nilB 5 ?_)))
 refine Wk.rg [0,1,2,3,4,5,6,7,8,9,10,11,12] rfl rfl (fz rfl .no Fx.fo124_0 (.u rfl) (ld rfl .no Fx.ag25 (.u rfl) (fun _=>Rd.own tk1 rfl) ?_))
 refine fz rfl .no Fx.fo124_0 (.u rfl) (ld rfl .no Fx.ag25 (.u rfl) (fun _=>Rd.own tk1 rfl) ?_)
 refine ln rfl .no Fx.sn25 (.u rfl) (fz rfl .no Fx.fo124_0 (.u rfl) (ld rfl .no Fx.ag25 (.u rfl) (fun _=>Rd.own tk1 rfl) ?_))
 refine ln rfl .no Fx.sn25 (.u rfl) (k00 rfl Fx.se25 (.u rfl) (.u rfl) (.u rfl) ?_)
 refine mV rfl rfl (apY rfl Fx.se25 Fx.zv5 (.u rfl) (.u rfl) .here hs.sc (by (try simp only [qlA,yl_len]); omega) ?_)
 intro v41 L41 ov41 eL41
 have lL41:L41.length=([]:List Y).length+xs.length:=by rw [eL41,List.length_append]
 refine fz rfl .no Fx.fo124_0 (.u rfl) (s1v rfl (.u rfl) (.u rfl) .here Fx.sz25 tk1 (by first|(simp [dkC,Fi.cells]; done)|decide) (rfl) ?_)
 refine .nil (.code (.seq ?_))
 refine wk_fb tk1 (keys_k tk1 rfl (keys_k tk1 rfl (keys_0))) ?_; intro GfRN hRN hleRN evRN hsRN; subst evRN
 refine Wk.draw (mc:=⟨false,false⟩) [0,1,2,3,4,5,6] Fx.mix (by kernel_rfl) ?_
 refine mV rfl rfl (nc rfl .no (.u rfl) (fz rfl .no Fx.fo118_0 (.u rfl) (ld rfl .no Fx.ag116 (.u rfl) (fun _=>Rd.own tk1 rfl) ?_)))
 refine mV rfl rfl (lA rfl .no Fx.ag124 (.u rfl) (fun _=>RdN.own .here) (fun _=>rfl) ?_)
 refine muS rfl Fx.ms116 (.u rfl) (.u rfl) (.u rfl) tk2 (lk_n hab) ?_
 refine .nil (.code (.seq (rq3 rfl rfl (mV rfl rfl (ka rfl (.inr rfl) Fx.go56 (Evc rfl Evn) (mtk1 tk2) (did_ok bd bm room done _ (by omega)) ?_)))))
 rintro _ G50 μ50 hG50 ⟨rfl,rfl⟩
 refine aS rfl rfl (.nil (.code (.ret (We.fin Tryz.results175 (.tmp rfl .nil) (mS .here rfl (mS .here rfl mN)) ?_))))
 exact ⟨⟨nm,hRN,xs.length,0,clk⟩,rfl,rfl,rfl,rfl,by rw [← fe_app]; simp only [Fi.fe,Fi.val,Fi.cells,←show L41.length=xs.length by rw [eL41]; rfl]; rfl,rfl⟩
theorem dSync_ok (bd bm room done clk:Nat) (F:List Fi) (G:PM) (hD:DkR F clk) (hd9:done≤1000000000) (hr9:room≤1000000000) (nm:ByteArray) (f:Fi) (hn:goodN nm) (hf:fget nm F=some f):Ct Tryz.prog 246 ([.pointer (some ⟨bd,0,none⟩),.string nm]:List Value).toArray G [.blk bd (cl (dkC bm room (done)) 118),.blk bm (mO ((F).map Fi.fe) (clk))] (fun _ μ' u=>μ'=[.blk bd (cl (dkC bm room (done+1)) 118),.blk bm (mO ((fsy nm F).map Fi.fe) (clk))]∧u=.int .i64 0):=by
 refine Ct.of Tryz.func246 rfl Tryz.ntmps246 rfl fun w0 hs0=>?_
 refine .seq (rq1 rfl rfl (aS rfl rfl (.nil (.code (.seq (.seq (rq4 rfl rfl (mV rfl rfl (mV rfl rfl (ka rfl (.inr rfl) Fx.go55 (Evc rfl (Evc rfl (Evc rfl (Evc rfl Evn)))) (mtk2 .here .here) (ready_ok bd bm room done clk F _ hD hd9 hr9 nm true ⟨none,0⟩ [] SlR.nul (Nat.zero_le _) (fun s hs=>absurd hs List.not_mem_nil) hn (fun _=>by rw [hf]; rfl)) ?_))))))))))
 rintro _ G9 μ9 hG9 ⟨rfl,rfl⟩
 refine aS rfl rfl (.nil (.code (.seq (rq2 rfl rfl (mV rfl rfl (cp rfl .no (.u rfl) (.u rfl) rfl (.nil (.code (.cond rfl (fun c1=>?_) (fun c1=>?_))))))))))
 ·have c1k:=c1
  exact absurd c1 (by decide)
 have c1k:=c1
 try simp only [qcA,qcC,qcB] at c1
 refine .skip (.code (.seq (rq8 rfl rfl (mV rfl rfl (nc rfl .no (.u rfl) (fz rfl .no Fx.fo118_0 (.u rfl) (ld rfl .no Fx.ag116 (.u rfl) (fun _=>Rd.own .here rfl) ?_)))))))
 refine mV rfl rfl (lkS rfl .no Fx.ms116 Fx.zv124 (.u rfl) (.u rfl) (mapOwn tk1) (lk_g hf) ?_)
 refine al rfl Fx.zr124 ?_; intro b6
 refine sw rfl (.u rfl) (.u rfl) rfl Fx.sz124 .here rfl (Fi.one _) ?_
 refine .nil (.code (.seq (rq5 rfl rfl (fz rfl .no Fx.fo124_0 (.u rfl) (ld rfl .no Fx.ag25 (.u rfl) (fun _=>Rd.own .here rfl) ?_)))))
 refine ln rfl .no Fx.sn25 (.u rfl) (fz rfl .no Fx.fo124_1 (.u rfl) (s1 rfl (.u rfl) (.u rfl) rfl Fx.sz3 .here (by first|(simp [dkC,Fi.cells]; done)|decide) (rfl) ?_))
 refine .nil (.code (.seq (Wk.draw (mc:=⟨false,false⟩) [0,1,2,3,4,5,6] Fx.mix (by kernel_rfl) ?_)))
 refine mV rfl rfl (nc rfl .no (.u rfl) (fz rfl .no Fx.fo118_0 (.u rfl) (ld rfl .no Fx.ag116 (.u rfl) (fun _=>Rd.own tk1 rfl) ?_)))
 refine mV rfl rfl (lA rfl .no Fx.ag124 (.u rfl) (fun _=>RdN.own .here) (fun _=>rfl) ?_)
 refine muT rfl Fx.ms116 (.u rfl) (.u rfl) (.u rfl) tk2 (lk_s hf) ?_
 refine .nil (.code (.seq (rq3 rfl rfl (mV rfl rfl (ka rfl (.inr rfl) Fx.go56 (Evc rfl Evn) (mtk1 tk2) (did_ok bd bm room done _ (by omega)) ?_)))))
 rintro _ G30 μ30 hG30 ⟨rfl,rfl⟩
 refine aS rfl rfl (.nil (.code (.ret (We.fin Tryz.results246 (.tmp rfl .nil) (mS .here rfl (mS .here rfl mN)) ?_))))
 exact ⟨by rw [← mset_fe hf]; rfl,rfl⟩
theorem dRename_ok (bd bm room done clk:Nat) (F:List Fi) (G:PM) (hD:DkR F clk) (hd9:done≤1000000000) (hr9:room≤1000000000) (nm to:ByteArray) (f:Fi) (hn:goodN nm) (hn2:goodN to) (hf:fget nm F=some f) (hab:fget to (fdel nm F)=none):Ct Tryz.prog 139 ([.pointer (some ⟨bd,0,none⟩),.string nm,.string to]:List Value).toArray G [.blk bd (cl (dkC bm room (done)) 118),.blk bm (mO ((F).map Fi.fe) (clk))] (fun _ μ' u=>μ'=[.blk bd (cl (dkC bm room (done+1)) 118),.blk bm (mO ((fdel nm F++[{ f with nm:=to,born:=clk }]).map Fi.fe) (clk+1))]∧u=.int .i64 0):=by
 refine Ct.of Tryz.func139 rfl Tryz.ntmps139 rfl fun w0 hs0=>?_
 refine .seq (rq1 rfl rfl (aS rfl rfl (.nil (.code (.seq (.seq (rq6 rfl rfl (mV rfl rfl (mV rfl rfl (mV rfl rfl ?_))))))))))
 refine Go.Tan.b1 rfl FxGrQ.se97 FxGrQ.zv9 (.u rfl) rfl rfl (by decide) ?_; intro b12
 refine ka rfl (.inr rfl) Fx.go55 (Evc rfl (Evc rfl (Evc rfl (Evc rfl Evn)))) (mtk3 .here .here .here) (Ct.give fun _=>ready_ok bd bm room done clk F _ hD hd9 hr9 nm true ⟨some ⟨b12,0,none⟩,1⟩ [to] (SlR.ofBlk (xs:=[to]) (PM.add_same _ _ _) (fun _ _=>rfl) (Nat.le_refl 1)) (by show 1≤_; omega) (fun s hs=>by rw [List.mem_singleton.1 hs]; exact hn2) hn (fun _=>by rw [hf]; rfl)) ?_
 rintro _ G13 μ13 hG13 ⟨rfl,rfl⟩
 refine aS rfl rfl (.nil (.code (.seq (rq2 rfl rfl (mV rfl rfl (cp rfl .no (.u rfl) (.u rfl) rfl (.nil (.code (.cond rfl (fun c1=>?_) (fun c1=>?_))))))))))
 ·have c1k:=c1
  exact absurd c1 (by decide)
 have c1k:=c1
 try simp only [qcA,qcC,qcB] at c1
 refine .skip (.code (.seq (rq8 rfl rfl (mV rfl rfl (nc rfl .no (.u rfl) (fz rfl .no Fx.fo118_0 (.u rfl) (ld rfl .no Fx.ag116 (.u rfl) (fun _=>Rd.own .here rfl) ?_)))))))
 refine mV rfl rfl (lkS rfl .no Fx.ms116 Fx.zv124 (.u rfl) (.u rfl) (mapOwn tk1) (lk_g hf) ?_)
 refine al rfl Fx.zr124 ?_; intro b8
 refine sw rfl (.u rfl) (.u rfl) rfl Fx.sz124 .here rfl (Fi.one _) ?_
 refine .nil (.code (.seq (rq6 rfl rfl (mV rfl rfl (nc rfl .no (.u rfl) (fz rfl .no Fx.fo118_0 (.u rfl) (ld rfl .no Fx.ag116 (.u rfl) (fun _=>Rd.own tk1 rfl) ?_)))))))
 refine mV rfl rfl (dlS rfl Fx.ms116 (.u rfl) (.u rfl) tk2 (lk_s hf) ?_)
 refine .nil (.code (.seq (Wk.draw (mc:=⟨false,false⟩) [0,1,2,3,4,5,6] Fx.mix (by kernel_rfl) ?_)))
 refine mV rfl rfl (nc rfl .no (.u rfl) (fz rfl .no Fx.fo118_0 (.u rfl) (ld rfl .no Fx.ag116 (.u rfl) (fun _=>Rd.own tk2 rfl) ?_)))
 refine mV rfl rfl (lA rfl .no Fx.ag124 (.u rfl) (fun _=>RdN.own tk1) (fun _=>rfl) ?_)
 refine muS rfl Fx.ms116 (.u rfl) (.u rfl) (.u rfl) .here (by rw [mdel_fe]; exact lk_n hab) ?_
 refine .nil (.code (.seq (rq3 rfl rfl (mV rfl rfl (ka rfl (.inr rfl) Fx.go56 (Evc rfl Evn) (mtk1 tk2) (did_ok bd bm room done _ (by omega)) ?_)))))
 rintro _ G35 μ35 hG35 ⟨rfl,rfl⟩
 refine aS rfl rfl (.nil (.code (.ret (We.fin Tryz.results139 (.tmp rfl .nil) (mS .here rfl (mS .here rfl mN)) ?_))))
 exact ⟨by rw [← fe_app,←mdel_fe]; rfl,rfl⟩
namespace FxGrS
theorem sz23:szT Tryz.prog 23=some 1:=by kernel_rfl
end FxGrS
namespace Fx
theorem bp87_:bPl Tryz.prog 87 []=some ([.int .u64 0,.int .u64 0],[]):=by kernel_rfl
theorem pt50:ptT Tryz.prog 50=true:=by kernel_rfl
theorem fo87_0:fOff Tryz.prog 87 0=some 0:=by kernel_rfl
theorem fo85_0:fOff Tryz.prog 85 0=some 0:=by kernel_rfl
theorem fo85_1:fOff Tryz.prog 85 1=some 1:=by kernel_rfl
theorem bp85_0_1:bPl Tryz.prog 85 [0,1]=some ([.int .u64 0,.int .u64 0],[(0,1),(1,1)]):=by kernel_rfl
theorem zr85:zrL Tryz.prog 85=some ([.int .u64 0,.int .u64 0]):=by kernel_rfl
theorem sz85:szT Tryz.prog 85=some 2:=by kernel_rfl
theorem ag85:aggN Tryz.prog 85=some (some 2):=by kernel_rfl
theorem eqt85:eqT Tryz.prog 2 85 ([.int .u64,.int .u64])=true:=by kernel_rfl
theorem bp118_0_1_3:bPl Tryz.prog 118 [0,1,3]=some ([.map none,.int .i64 0,.bool false,.int .i64 0,.int .i64 0],[(0,1),(1,1),(3,1)]):=by kernel_rfl
end Fx
theorem must_ok (G:PM):Ct Tryz.prog 135 ([.int .i64 0]:List Value).toArray G [] (fun _ μ' u=>μ'=[]∧u=.tuple #[]):=by
 refine Ct.of Tryz.func135 rfl Tryz.ntmps135 rfl fun w0 hs0=>?_
 refine .seq (rq2 rfl rfl (mV rfl rfl (cp rfl .no (.u rfl) (.u rfl) rfl (.nil (.code (.cond rfl (fun c1=>?_) (fun c1=>?_)))))))
 ·have c1k:=c1
  exact absurd c1 (by decide)
 have c1k:=c1
 try simp only [qcA,qcB] at c1
 refine .skip (.nil (We.fin0 Tryz.results135 .nil ?_))
 exact ⟨rfl,rfl⟩
theorem dneed_ok (b:Bool) (hb:b=true) (G:PM):Ct Tryz.prog 103 ([.bool b]:List Value).toArray G [] (fun _ μ' u=>μ'=[]∧u=.tuple #[]):=by
 subst hb
 refine Ct.of Tryz.func103 rfl Tryz.ntmps103 rfl fun w0 hs0=>?_
 refine .seq (rq2 rfl rfl (mV rfl rfl (nt rfl .no (.u rfl) (.nil (.code (.cond rfl (fun c1=>?_) (fun c1=>?_)))))))
 ·have c1k:=c1
  exact absurd c1 (by decide)
 have c1k:=c1
 try simp only [qcA,qcB] at c1
 refine .skip (.nil (We.fin0 Tryz.results103 .nil ?_))
 exact ⟨rfl,rfl⟩
theorem tnew_ok (G:PM):Ct Tryz.prog 27 ([]:List Value).toArray G [] (fun _ μ' u=>∃ bt,μ'=[.blk bt (cl [uv .u64 (0),uv .u64 (0)] 87)]∧u=.pointer (some ⟨bt,0,none⟩)):=by
 refine Ct.of Tryz.func27 rfl Tryz.ntmps27 rfl fun w0 hs0=>?_
 refine .seq (rq1 rfl rfl (aS rfl rfl (.nil (.code (.seq (rq3 rfl rfl (bC rfl .no Fx.bp87_ .nil rfl ?_)))))))
 refine bx rfl (.u rfl) rfl ?_; intro b2
 refine aS rfl rfl (.nil (.code (.ret (We.fin Tryz.results27 (.tmp rfl .nil) (mS .here rfl mN) ?_))))
 exact ⟨b2,rfl,rfl⟩
theorem marks_ok (bt:Nat) (m o:BitVec 64) (G:PM) (hbt:PB G bt (cl [uv .u64 m,uv .u64 o] 87)):Ct Tryz.prog 134 ([.pointer (some ⟨bt,0,none⟩)]:List Value).toArray G [] (fun _ μ' u=>μ'=[]∧u=uv .u64 m):=by
 refine Ct.of Tryz.func134 rfl Tryz.ntmps134 rfl fun w0 hs0=>?_
 refine .seq (rq1 rfl rfl (aS rfl rfl (.nil (.code (.seq (.seq (rq2 rfl rfl (mV rfl rfl (pe rfl .no Fx.pt50 (.u rfl) (.u rfl) ?_)))))))))
 refine .nil (.code (Wk.condF rfl rfl ?_))
 refine .skip (.code (.seq (rq6 rfl rfl (mV rfl rfl (nc rfl .no (.u rfl) (fa rfl .no Fx.fo87_0 (.u rfl) (fa rfl .no Fx.fo85_0 (.u rfl) (ld rfl .no Fx.ag23 (.u rfl) (fun _=>(hbt.rd (by rfl)).rd) ?_))))))))
 refine aS rfl rfl (.nil (.code (.ret (We.fin0 Tryz.results134 (.tmp rfl .nil) ?_))))
 exact ⟨rfl,rfl⟩
theorem mark_ok (bt:Nat) (m o:BitVec 64) (G:PM) (hm:m.toNat≤1000000):Ct Tryz.prog 209 ([.pointer (some ⟨bt,0,none⟩),uv .u64 (m+1#64)]:List Value).toArray G [.blk bt (cl [uv .u64 (m),uv .u64 (o)] 87)] (fun _ μ' u=>μ'=[.blk bt (cl [uv .u64 (m+1#64),uv .u64 (o)] 87)]∧u=.int .i64 0):=by
 refine Ct.of Tryz.func209 rfl Tryz.ntmps209 rfl fun w0 hs0=>?_
 have hm1:@BitVec.toNat IntKind.u64.bits (m+1#64) = @BitVec.toNat 64 m+1:=by show (m+1#64).toNat=_; rw [BitVec.toNat_add]; show (m.toNat+1)%2^64=_; omega
 have hm3:@BitVec.toNat 64 (m+1#64) = @BitVec.toNat 64 m+1:=hm1
 refine .seq (rq1 rfl rfl (aS rfl rfl (.nil (.code (.seq (.seq (rq2 rfl rfl (mV rfl rfl (pe rfl .no Fx.pt50 (.u rfl) (.u rfl) ?_)))))))))
 refine .nil (.code (Wk.condF rfl rfl ?_))
 refine .skip (.code (.seq (rq9 rfl rfl (mV rfl rfl (mV rfl rfl (nc rfl .no (.u rfl) (fz rfl .no Fx.fo87_0 (.u rfl) (fz rfl .no Fx.fo85_1 (.u rfl) (ld rfl .no Fx.ag23 (.u rfl) (fun _=>Rd.own .here (by first|exact wap_f rfl|rfl)) ?_)))))))))
 refine bC rfl .no Fx.bp85_0_1 (.cons (.u rfl) rfl (.cons (.u rfl) rfl .nil)) rfl ?_
 refine al rfl Fx.zr85 ?_; intro b5
 refine sw rfl (.u rfl) (.u rfl) rfl Fx.sz85 .here rfl (uv2_one _ _) ?_
 refine .nil (.code (.seq (.seq (Wk.draw (mc:=⟨false,false⟩) [0,1,2,3,4,5,6,7,8,9,10,11,12,13,14,15,16,17,18,19] Fx.mix (by kernel_rfl) ?_))))
 refine mV rfl rfl (cp rfl .no (.u rfl) (.u rfl) rfl (mV rfl rfl (lA rfl (.f rfl rfl) Fx.ag85 (.u rfl) (fun _=>RdN.own .here) (fun _=>(by first|exact qE|exact qL|rfl)) ?_)))
 refine mv rfl (.f rfl rfl) (.u rfl) (nc rfl (.f rfl rfl) (.s rfl) (fz rfl (.f rfl rfl) Fx.fo87_0 (.s rfl) (lA rfl (.f rfl rfl) Fx.ag85 (.s rfl) (fun _=>RdN.own tk1) (fun _=>(by first|exact qE|exact qL|rfl)) ?_)))
 refine eqC (false) rfl (.f rfl rfl) Fx.eqt85 (.s rfl) (.s rfl) (fun hc=>.u64 (.u64 .nil)) (fun hc=>.u64 (.u64 .nil)) (fun hc=>⟨fun h=>absurd h (by decide),fun h=>by have:=mk_ne h; omega⟩) ?_
 refine pkO rfl .no (.u rfl) (.s rfl) (mV rfl rfl (mv rfl (.f rfl rfl) (.u rfl) (bw (k:=.u64) (b:=1#64) rfl (.f rfl rfl) rfl (.s rfl) (.u rfl) rfl (mv rfl (.f rfl rfl) (.u rfl) (nc rfl (.f rfl rfl) (.s rfl) (fz rfl (.f rfl rfl) Fx.fo87_0 (.s rfl) (fz rfl (.f rfl rfl) Fx.fo85_0 (.s rfl) (ld rfl (.f rfl rfl) Fx.ag23 (.s rfl) (fun hc=>Rd.own tk1 (by first|exact wap_f rfl|rfl)) ?_))))))))
 refine cp rfl (.f rfl rfl) (.s rfl) (.s rfl) rfl (pkO rfl .no (.u rfl) (.s rfl) (.nil (.code (.cond rfl (fun c1=>?_) (fun c1=>?_)))))
 ·have c1k:=c1
  exact (mk_no hm c1).elim
 have c1k:=c1
 try simp only [qcA,qcC,qcB] at c1
 refine .skip (.code (.seq (rq5 rfl rfl (mV rfl rfl (lA rfl .no Fx.ag85 (.u rfl) (fun _=>RdN.own .here) (fun _=>rfl) ?_)))))
 refine nc rfl .no (.u rfl) (fz rfl .no Fx.fo87_0 (.u rfl) (sw rfl (.u rfl) (.u rfl) rfl Fx.sz85 tk1 rfl (uv2_one _ _) ?_))
 refine .nil (.code (.seq (rq1 rfl rfl (aS rfl rfl (.nil (.code (.ret (We.fin Tryz.results209 (.tmp rfl .nil) (mS .here rfl mN) ?_))))))))
 exact ⟨rfl,rfl⟩
theorem topen_ok (bt:Nat) (m o:BitVec 64) (G:PM) (ho:o.toNat≤1000000):Ct Tryz.prog 86 ([.pointer (some ⟨bt,0,none⟩)]:List Value).toArray G [.blk bt (cl [uv .u64 (m),uv .u64 (o)] 87)] (fun _ μ' u=>μ'=[.blk bt (cl [uv .u64 (m),uv .u64 (o+1#64)] 87)]∧u=.tuple #[uv .u64 (o+1#64),.int .i64 0]):=by
 refine Ct.of Tryz.func86 rfl Tryz.ntmps86 rfl fun w0 hs0=>?_
 have ho1:@BitVec.toNat IntKind.u64.bits o = @BitVec.toNat 64 o:=rfl
 refine .seq (rq2 rfl rfl (aS rfl rfl (aS rfl rfl (.nil (.code (.seq (.seq (rq2 rfl rfl (mV rfl rfl (pe rfl .no Fx.pt50 (.u rfl) (.u rfl) ?_))))))))))
 refine .nil (.code (Wk.condF rfl rfl ?_))
 refine .skip (.code (.seq (.seq (rq6 rfl rfl (mV rfl rfl (nc rfl .no (.u rfl) (fz rfl .no Fx.fo87_0 (.u rfl) (fz rfl .no Fx.fo85_1 (.u rfl) (ld rfl .no Fx.ag23 (.u rfl) (fun _=>Rd.own .here (by first|exact wap_f rfl|rfl)) ?_)))))))))
 refine cp rfl .no (.u rfl) (.u rfl) rfl (.nil (.code (.cond rfl (fun c1=>?_) (fun c1=>?_))))
 ·have c1k:=c1
  have:=of_decide_eq_true c1; omega
 have c1k:=c1
 try simp only [qcA,qcC,qcB] at c1
 refine .skip (.code (.seq (rq10 rfl rfl (mV rfl rfl (nc rfl .no (.u rfl) (fz rfl .no Fx.fo87_0 (.u rfl) (fz rfl .no Fx.fo85_1 (.u rfl) (ld rfl .no Fx.ag23 (.u rfl) (fun _=>Rd.own .here (by first|exact wap_f rfl|rfl)) ?_))))))))
 refine bw (k:=.u64) (b:=1#64) rfl .no rfl (.u rfl) (.u rfl) rfl (nc rfl .no (.u rfl) (fz rfl .no Fx.fo87_0 (.u rfl) (fz rfl .no Fx.fo85_1 (.u rfl) (s1 rfl (.u rfl) (.u rfl) rfl FxGrS.sz23 .here (by first|decide|(simp only [wa_len,ba_len,qlA]; omega)) (rfl) ?_))))
 refine .nil (.code (.seq (rq7 rfl rfl (mV rfl rfl (nc rfl .no (.u rfl) (fz rfl .no Fx.fo87_0 (.u rfl) (fz rfl .no Fx.fo85_1 (.u rfl) (ld rfl .no Fx.ag23 (.u rfl) (fun _=>Rd.own .here (by first|exact wap_f rfl|rfl)) ?_))))))))
 refine aS rfl rfl (aS rfl rfl (.nil (.code (.ret (We.fin Tryz.results86 (.tmp rfl (.tmp rfl .nil)) (mS .here rfl mN) ?_)))))
 exact ⟨rfl,rfl⟩
theorem dnew_ok (room:Nat) (G:PM) (hr:room≤1000000000):Ct Tryz.prog 26 ([.int .i64 ((room:Nat):Int)]:List Value).toArray G [] (fun _ μ' u=>∃ bd bm,μ'=[.blk bd (cl (dkC bm room 0) 118),.blk bm (mO [] 0)]∧u=.pointer (some ⟨bd,0,none⟩)):=by
 refine Ct.of Tryz.func26 rfl Tryz.ntmps26 rfl fun w0 hs0=>?_
 refine .seq (rq1 rfl rfl (aS rfl rfl (.nil (.code (.seq (rq6 rfl rfl ?_))))))
 refine mkM rfl ?_; intro b3
 refine mV rfl rfl (mAn 0 room rfl .no (.u rfl) (.u rfl) (fun _=>rfl) (fun _=>rfl) ?_)
 refine bC rfl .no Fx.bp118_0_1_3 (.cons (.u rfl) rfl (.cons (.u rfl) rfl (.cons (.u rfl) rfl .nil))) rfl ?_
 refine bx rfl (.u rfl) rfl ?_; intro b7
 refine aS rfl rfl (.nil (.code (.ret (We.fin Tryz.results26 (.tmp rfl .nil) (mS .here rfl (mS .here rfl mN)) ?_))))
 exact ⟨b7,b3,by rw [show max 0 room=room by omega]; rfl,rfl⟩
theorem dead_ok (bd bm room done clk:Nat) (F:List Fi) (G:PM) (hbd:PB G bd (cl (dkC bm room done) 118)):Ct Tryz.prog 85 ([.pointer (some ⟨bd,0,none⟩)]:List Value).toArray G [] (fun _ μ' u=>μ'=[]∧u=.bool false):=by
 refine Ct.of Tryz.func85 rfl Tryz.ntmps85 rfl fun w0 hs0=>?_
 refine .seq (rq1 rfl rfl (aS rfl rfl (.nil (.code (.seq (rq9 rfl rfl (mV rfl rfl (pn rfl .no Fx.pt48 (.u rfl) (.u rfl) ?_))))))))
 refine mV rfl rfl (mv rfl (.t rfl rfl) (.u rfl) (nc rfl (.t rfl rfl) (.s rfl) (fa rfl (.t rfl rfl) Fx.fo118_2 (.s rfl) (ld rfl (.t rfl rfl) FxGrQ.ag4 (.s rfl) (fun hc=>(hbd.rd (rfl)).rd) ?_))))
 refine pkA rfl .no (.u rfl) (.s rfl) (aS rfl rfl (.nil (.code (.ret (We.fin0 Tryz.results85 (.tmp rfl .nil) ?_)))))
 exact ⟨rfl,rfl⟩
theorem dRead_ok (bd bm room done clk:Nat) (F:List Fi) (G:PM) (hbd:PB G bd (cl (dkC bm room done) 118)) (hbm:PB G bm (mO (F.map Fi.fe) clk)) (nm:ByteArray) (hn:goodN nm) (hab:fget nm F=none):Ct Tryz.prog 159 ([.pointer (some ⟨bd,0,none⟩),.string nm]:List Value).toArray G [] (fun _ μ' u=>μ'=[]∧u=.tuple #[.slice none 0 0,.int .i64 2]):=by
 refine Ct.of Tryz.func159 rfl Tryz.ntmps159 rfl fun w0 hs0=>?_
 refine .seq (rq2 rfl rfl (aS rfl rfl (aS rfl rfl (.nil (.code (.seq (.block (.seq (rq3 rfl rfl (mV rfl rfl (pe rfl .no Fx.pt48 (.u rfl) (.u rfl) ?_)))))))))))
 refine aS rfl rfl (.nil (.code (.cond rfl (fun c1=>?_) (fun c1=>?_))))
 ·have c1k:=c1
  cases c1
 have c1k:=c1
 try simp only [qcA,qcB] at c1
 refine .seq (rq5 rfl rfl (mV rfl rfl ?_))
 refine Go.Tan.b1 rfl FxGrQ.se97 FxGrQ.zv9 (.u rfl) rfl rfl (by decide) ?_; intro b13
 refine kp rfl .no Fx.go53 (Evc rfl Evn) (Gp.add .here Gp.nil) (fun _ hle hq=>goodL_ok ⟨some ⟨b13,0,none⟩,1⟩ [nm] _ (SlR.ofBlk (xs:=[nm]) (PM.add_same _ _ _) (fun _ _=>rfl) (Nat.le_refl 1)) (by show 1≤_; omega) (fun s hs=>by rw [List.mem_singleton.1 hs]; exact hn)) ?_
 refine nt rfl .no (.u rfl) (aS rfl rfl (.nil (.code (.cond rfl (fun c2=>?_) (fun c2=>?_)))))
 ·have c2k:=c2
  exact absurd c2 (by decide)
 have c2k:=c2
 try simp only [qcA,qcB] at c2
 refine .seq (rq5 rfl rfl (mV rfl rfl (nc rfl .no (.u rfl) (fa rfl .no Fx.fo118_2 (.u rfl) (ld rfl .no FxGrQ.ag4 (.u rfl) (fun _=>(hbd.rd (rfl)).rd) ?_)))))
 refine aS rfl rfl (.nil (.code (.cond rfl (fun c3=>?_) (fun c3=>?_))))
 ·have c3k:=c3
  cases c3
 have c3k:=c3
 try simp only [qcA,qcB] at c3
 refine .skip (.blk (.code (.seq (Wk.rg [0,1,2,3,4,5,6,7,8,9,10,11] rfl rfl (mV rfl rfl (nc rfl .no (.u rfl) (fa rfl .no Fx.fo118_0 (.u rfl) (ld rfl .no Fx.ag116 (.u rfl) (fun _=>(hbd.rd (rfl)).rd) ?_))))))))
 refine mV rfl rfl (lkS2 rfl .no Fx.ms116 Fx.zv124 (.u rfl) (.u rfl) (mapStay hbm.h) (lk_z hab) (lk_f hab) ?_)
 refine mV rfl rfl (ex rfl .no (.u rfl) rfl (ex rfl .no (.u rfl) rfl ?_))
 refine al rfl Fx.zr124 ?_; intro b6
 refine sw rfl (.u rfl) (.u rfl) rfl Fx.sz124 .here rfl (by simp [Value.oneCell']) ?_
 refine aS rfl rfl (.nil (.code (.seq (.seq (rq2 rfl rfl (mV rfl rfl (nt rfl .no (.u rfl) (.nil (.code (.cond rfl (fun c4=>?_) (fun c4=>?_)))))))))))
 ·have c4k:=c4
  try simp only [qcA,qcB] at c4
  refine .seq (rq2 rfl rfl (aS rfl rfl (aS rfl rfl (.nil (.code (.ret (We.fin0 Tryz.results159 (.tmp rfl (.tmp rfl .nil)) ?_)))))))
  exact ⟨rfl,rfl⟩
 have c4k:=c4
 cases c4
end Go.Proofs.YtoifkgkandfeiaaGreatDoor

