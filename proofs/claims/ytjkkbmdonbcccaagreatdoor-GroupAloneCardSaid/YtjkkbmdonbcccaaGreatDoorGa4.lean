/- Lemmas and contracts of functions, joined. -/
import Derived.Test.YtjkkbmdonbcccaaGreatDoorGa3
import Derived.Test.YtjkkbmdonbcccaaGreatDoorRows
import Derived.Test.YtjkkbmdonbcccaaGreatDoorCards
import Derived.Test.YtjkkbmdonbcccaaGreatDoorTie
import Derived.OpenShut
import Derived.Deep.DeepHandedRow
import Derived.Deep.CondSized
import Derived.JoinedCond
import Derived.Shelf.SlIter.Nil
import Derived.Shelf.SlIter.Sorted
import Derived.Shelf.SortM.Plain
import Derived.Shelf.SortM.SortNone
set_option linter.unusedSimpArgs false
set_option linter.unusedVariables false
set_option linter.defProp false
set_option linter.unusedSectionVars false
open Array renaming getElem?_eq_some_iff->xg
open BitVec renaming ofNat->qb,ofInt->qk,ofNat_add->vv,toNat_add->qaH
open Function renaming comp_def->vm
open Int renaming natCast_nonneg->xv
open List renaming length_append->qa,mem_singleton->qd,mem_cons->qe,not_mem_nil->qf,mem_cons_self->qh,mem_cons_of_mem->qj,mem_map->ql,mem_of_getElem?->qm,length_take->qq,append_assoc->qr,getElem?_eq_getElem->qv,length_map->qw,nil_append->qy,take_length->qz,take_of_length_le->wd,take_add_one->we,append_nil->wh,length->wm,take_append_drop->wn,cons_append->ww,mem_of_mem_take->xe,replicate->xl,mem_iff_getElem?->xm,flatMap_cons->xp,nodup_nil->xx,mem_map_of_mem->ya,drop_drop->yk,takeWhile_append_dropWhile->yq,length_replicate->zu,flatMap_nil->vh,dropWhile_sublist->qaG
open Nat renaming le_refl->qc,zero_le->qo,le_add_right->xu,not_lt_zero->yg,eq_zero_or_pos->zm
open Option renaming bind_some->qu
namespace Go.Tan
open Go.RowKit
variable {args:Array Value} {n q:BitVec 64} {c:Int} {hist:List Ent} {F:List Fi} {l:List Opn} {ws:List Wtg} {μ:aB} {k:Nat} {G:PM} {P:Program} {α:Type}
theorem aLi {α:Type}:∀ {ls:List (List α)} {p:List α},p∈ls->p.Sublist ls.flatten
 | x :: r,p,h=>by
  rw [List.flatten_cons];rcases List.mem_cons.1 h with rfl | h
  ·simp
  ·exact (aLi h).trans (List.sublist_append_right _ _)
def OneU.sub {l:List Ent} (h:OneU l) (a:∀ e∈l,e∈hist):l.length<=hist.length∧bO l<=bO hist:=aM4 h.nodup a
theorem aXB {most:Nat} {l:List Ent} (n:cA l=true) (h1:OneU l) (m:∀ e∈l,e∈hist) (j:HistI hist) (hm:0<most) (i:l.length<=2000∨most<=200):NewT hist (kT most l)∧(∀ p∈kT most l,p≠[]∧∀ e∈p,cC e=true):=by
 obtain ⟨q,k,_⟩:=aGq most l hm;have a:∀ p∈kT most l,p.Sublist l:=fun p c=>by grind[aLi]
 have f:∀ p∈kT most l,∀ e∈p,e∈hist:=fun p c e g=>m e ((a p c).subset g);refine ⟨⟨fun p c=>⟨?_,?_⟩,fun p c=>SrE.rises (List.Pairwise.sublist (a p c) (SrE.of n)),f⟩,fun p c=>⟨(k p c).1,fun e g=>j.ok e (f p c e g)⟩⟩
 ·rcases i with i | i
  ·grind
  rcases (k p c).2 with h | h
  ·grind[dW]
  have:=h1.run p h; omega
 have:=(OneU.sub (List.Pairwise.sublist (a p c) h1) (f p c)).2;have:=j.wt;omega
theorem aWP {d:Db} {a:Nat} {p:List Ent} (g:a<5) (k:d.o.block=50) (j:d.o.every=4) (i:cA p=true) (l:p≠[]) (f:∀ e∈p,cC e=true):¬ mJ (eV d a n) p d.o.block d.o.every:=by
 have c:(eV d a n).right=true:=by
  rw [aHh (show (((eV d a n).kind.toNat:Nat):Int)=2 from rfl),decide_eq_true_eq];grind[eV]
 rintro (h | h | h | h | h | h | h | h | h)
 ·trivial
 ·simp_all
 ·grind
 ·omega
 ·omega
 ·omega
 ·omega
 ·grind
 simp_all
theorem aNA:∀ {ls:List (List Ent)},kF zA ls=2*bO ls.flatten+150*ls.flatten.length+170*ls.length
 | []=>rfl
 | l :: r=>by
  rw [kF,aNA (ls:=r),zA,List.flatten_cons,pU,List.length_append,List.length_cons]; omega
def aIi {l:List Ent}:dW l=8*l.length+bO l:=by rw [dW,aNF]
def tA (n:Nat):Nat:=164*n+75000
def qY (n:Nat):Nat:=10*n+95000
theorem aXC {most:Nat} {l:List Ent} (h1:OneU l) (g:∀ e∈l,e∈hist) (f:HistI hist) (hm:200<=most):kF zA (kT most l)<=tA hist.length∧(kT most l).length<=1850∧25*(kT most l).length<=2*hist.length+5025∧bO (kT most l).flatten<=20000:=by
 obtain ⟨k,_,h⟩:=aGq most l om;obtain ⟨a,b⟩:=h1.sub g;have c:=f.few;have d:=f.wt;rw [aIi] at h;obtain ⟨q,rfl⟩ : ∃ q,most=200+q:=⟨most-200,om⟩;have i:200*(kT (200+q) l).length<=2*(8*l.length+bO l)+200:=by
  rcases zm (kT (200+q) l).length with z | z
  ·omega
  ·have j:q<=q*(kT (200+q) l).length:=Nat.le_mul_of_pos_right _ z;grind
 grind[aNA,tA]
theorem aP2 {root:Nat->Y} {m:Meta} {b:List Y} {l:List Ent} (h:pX root m b=some l):l=[]∨m.min.size<=bO l∧m.max.size<=bO l:=by
 unfold pX at h;cases i:rU root m b with
 | none=>simp_all
 | some p =>
  rw [i] at h;simp only [qu] at h;cases g:lJ root (dV m) (p.1.getD (p.1.length-1) pP) 1 with
  | none=>simp_all
  | some q =>
   rw [g] at h;simp only [qu] at h;cases f:nB root (dV m) p.1 (p.1.length-1) 0 [] with
   | none=>simp_all
   | some l2 =>
    rw [f] at h;simp only [qu] at h;split at h
    ·rename_i c;cases h;rcases c.2.2 with a | ⟨a,e⟩
     ·simp_all
     cases l with
     | nil=>simp
     | cons x r =>
      refine .inr ⟨?_,?_⟩
      ·rw [← a]; have:=yO (l:=x :: r) (k:=0) (by simp); grind[kK]
      rw [← e]; have:=yO (l:=x :: r) (k:=(x :: r).length-1) (by simp); grind[gR]
    grind
theorem aVq {d:Db} {ls:List (List Ent)} {ms:List Meta} {C:List Fi} {clk sz:Nat} (h:TabsR G d k n ls ms F C clk sz) (v:NewT hist ls) (A:∀ l∈ls,l≠[]):(ms.flatMap fU).length<=112*ls.length+2*bO ls.flatten:=by
 have e:∀ (ls:List (List Ent)) (ms:List Meta),ms.length=ls.length->(∀ (i:Nat) (l:List Ent) (m:Meta),ls[i]? = some l->ms[i]? = some m->m.wf∧m.min.size<=bO l∧m.max.size<=bO l)->(ms.flatMap fU).length<=112*ls.length+2*bO ls.flatten:=by
  intro ls;induction ls with
  | nil=>simp
  | cons l r ih =>
   intro ms c g;cases ms with
   | nil=>cases c
   | cons m q =>
    have D:=ih q (by simp_all) fun i p j a b=>g (i+1) p j (by simp_all) (by simp_all);obtain ⟨w,a,b⟩:=g 0 l m rfl rfl;grind[aFD,pU]
 refine e ls ms h.len fun i l m a b=>?_;obtain ⟨L,f,x,_⟩:=h.tab i l m a b;have c:=qm a;obtain ⟨t,_,y,_,_⟩:=aG5 x (v.light _ c) rfl;exact ⟨t,(aP2 y).resolve_left (A l c)⟩
theorem aSq {root:Nat->Y} {h:Hd} {a:BitVec 64} {s:State} {e:Edit} {L:List Y} {X:State} {N:Nat} (g:LayR root h n a s e L X 0) (l:e.wf) (c:fT s=true) (hm:(e.add.flatMap fU).length<=112*k+40000) (m:25*k<=2*N+5025):L.length<=qY N:=by
 rcases g.code c with ⟨_,i,f⟩ | j | j
 ·obtain ⟨_,p,_⟩:=aFv f;obtain ⟨_,_,r,q,_⟩:=i.is;grind[aBH,aL3,qY]
 ·omega
 ·omega
structure SmD (d d':Db):Prop where
 dk:d'.dk=d.dk
 tr:d'.tr=d.tr
 root:d'.root=d.root
 o:d'.o=d.o
 ep:d'.ep=d.ep
 seq:d'.seq=d.seq
 held:d'.held=d.held
 now:d'.now=d.now
 ol:d'.ol=d.ol
 flt:d'.flt=d.flt
 cls:d'.cls=d.cls
 lgh:d'.lg.h=d.lg.h
 lgn:d'.lg.n=d.lg.n
 nx:d.next.toNat≤d'.next.toNat∧d'.next.toNat≤d.next.toNat+2000
def WkI.wt {G:PM} {d:Db} {F:List Fi} {clk:Nat} {hist:List Ent} (h:WkI G d F clk hist) (w:Option Nat):WkI G { d with wt:=w } F clk hist :=
 ⟨h.dk,h.fil,h.st,h.right,h.tabs,h.nx,h.free,h.gens,h.lk,h.mk3,h.lgp,h.mnp,h.blk,h.evy,h.tbl,h.nums,h.lgl⟩
def WkI.turn {G:PM} {d:Db} {F:List Fi} {clk:Nat} {hist:List Ent} (h:WkI G d F clk hist) (w:BitVec 64):WkI G { d with turn:=w } F clk hist :=
 ⟨h.dk,h.fil,h.st,h.right,h.tabs,h.nx,h.free,h.gens,h.lk,h.mk3,h.lgp,h.mnp,h.blk,h.evy,h.tbl,h.nums,h.lgl⟩
def WkI.delog {d:Db} {clk:Nat} (h:WkI G d F clk hist) (j:k≠d.lg.h.num.toNat):WkI G d (dQ (nG 1 k) F) clk hist:=by
 have p:∀ n,aJ (nG 2 n) (dQ (nG 1 k) F)=aJ (nG 2 n) F:=fun n=>xI fun e=>nO _ e.symm;refine ⟨h.dk.delY,h.fil.del,h.st,h.right,fun i c m a=>?_,h.nx,fun n g=>by rw [p]; exact h.free n g,h.gens,h.lk,h.mk3,fun q=>?_,?_,h.blk,h.evy,h.tbl,h.nums,h.lgl⟩
 ·obtain ⟨l,L,f,x,w,v,t,y,r⟩:=(h.tabs i c m a).ex;exact ⟨⟨l,L,f,x,w,v,t,by simp_all,r⟩,(h.tabs i c m a).wf⟩
 ·rw [xI fun e=>j (aV7 e).symm]; exact h.lgp q
 rw [xI aV8]; exact h.mnp
def aG9 (x:BitVec 64):u64 (x.toNat:Int):=⟨xv _,om⟩
theorem bA4 {a b:Int} (h:u64 a) (c:u64 b):u64 (if b > a then b else a):=by grind
def aWD {d:Db} {g:Nat} {c:List Pe} {p:Pe} (m:d.o.block=50) (k:d.o.every=4) (f:g<5) (i:NewT hist (aO c)) (a:∀ l∈aO c,l≠[]∧∀ e∈l,cC e=true) (j:p∈c):lightE p.2∧∀ n:BitVec 64,n.toNat<9223372036854775808->¬ mJ (eV d g n) p.2 d.o.block d.o.every:=by
 have h:p.2∈aO c:=ya j;exact ⟨i.light _ h,fun n _=>aWP f m k (i.rises _ h) (a _ h).1 (a _ h).2⟩
theorem aMl (h:n.toNat+2000<9223372036854775807) (a:k<=1850):n.toNat<=(n+BitVec.ofNat 64 k).toNat∧(n+BitVec.ofNat 64 k).toNat<=n.toNat+2000:=by
 grind
theorem aG7 {q:Nat}:∀ {ls:List (List Ent)},(∀ l∈ls,l.length<=q)->dI ls<=q*ls.length
 | [],_=>Nat.zero_le _
 | l :: r,h=>by
  have h1:=aG7 (ls:=r) fun x a=>h x (qj _ a);grind[dI,Nat.mul_succ]
theorem SrE.nodup {l:List Ent} (h:SrE l):l.Nodup:=h.imp fun {a b} h e=>by grind[aH6]
section
variable {dr:Bool} {mc:Md} {P:Program} {n:Fm} {l:List Oper} {K:aF→PM→aB→Prop} {i:Nat} {σ:List Nat} {ρ:aF} {G:PM} {μ:aB}
variable {d t:Nat} {p:String} {af:Array Edge}
end
def mpT (P:Program) (T:Nat):Bool:=match P.underlying T with | some (.map _ _)=>true | _=>false
theorem aVz {T:Nat} (h:mpT P T=true):∃ k e,P.underlying T=some (.map k e):=by
 grind[mpT]
section
variable {dr:Bool} {mc:Md} {P:Program} {n:Fm} {l:List Oper} {K:aF→PM→aB→Prop} {i:Nat} {σ:List Nat} {ρ:aF} {G:PM} {μ:aB}
variable {d t:Nat} {p:String} {af:Array Edge} {g:Option (Nat×Bool)} {c:Bool}
def rg0 {T b clk:Nat} {x:Operand} {es:List FE} (y:nth l i=some ⟨some d,.range T x,t,p,af,none⟩) (C:mpT P T=true) (q:Ev ρ true x (.map (some b))) (f:∀ w,Sat G μ w->w.heap[b]? = some (mO es clk))
  (h:∀ bi,Wo dr mc P n l K σ ((d,true,.pointer (some ⟨bi,0,none⟩)) :: ρ) G (.blk bi (iY b clk clk []) :: μ)):Wo dr mc P n l K (i :: σ) ρ G μ:=by
 refine .act (μ₁:=[]) (μ₂:=μ) (post:=fun m g v=>∃ bi,m=G∧g=[.blk bi (iY b clk clk [])]∧v=.pointer (some ⟨bi,0,none⟩)) y (.inl rfl) .no (.refl _) (fun a w A r=>.inl ?_) ?_
 ·have c:Sat G μ w:=by simp_all
  have H:w.heap[b]? = some (mO es clk):=f w c;obtain ⟨F,e,D⟩:=aVz C;have j:(getObj b).run P w=.ok (.map (es.map mE).toArray clk) w:=by simp_all[getObj,Sem.run,mO]
  have E:Tr G (keys []) w G (.blk w.heap.size (.mapIter (some b) clk #[] clk) :: []) (w.alloc (.mapIter (some b) clk #[] clk)):=(gX (Sat.left (μ:=[]) r)).alloc _;exact ⟨.pointer (some ⟨w.heap.size,0,none⟩),w.alloc (.mapIter (some b) clk #[] clk),G,[_],.inl (by simp [execOp,q.eval A rfl,Instr.range,Sem.run_bind,run_underlying D,j]),E,w.heap.size,rfl,rfl,rfl⟩
 rintro v m k _ ⟨b,rfl,rfl,rfl⟩;exact h b
end
def aWf {o:Option FE} (h:yS [] [] o):o=none:=by
 cases o<;>simp_all[yS]
theorem MSub.left {ν a:aB} (h:MSub ν μ):MSub ν (μ++a):=by
 obtain ⟨r,h⟩:=h;exact ⟨r++a,by grind[List.Perm.append_right]⟩
def wZ (q n:BitVec 64):Bool:=((((n.toNat:Int) == 0)||decide ((n.toNat:Int) > 1000))||((q.toNat:Int) == 0))||decide ((q.toNat:Int) > ((72057594037927935#64-n+1#64).toNat:Int))
def iD (q:BitVec 64) (l:List Opn):Bool := !wZ q (qk 64 ((l.length:Nat):Int))&&l.all fun o=>cC (oD q o)
theorem aQY {m:Nat} (hm:m<18446744073709551616) (h:wZ q (BitVec.ofInt 64 ((m:Nat):Int))=false):0<m∧m<=1000∧0<q.toNat∧q.toNat+m<=72057594037927936:=by
 have e:(qk 64 ((m:Nat):Int)).toNat=m:=by simp_all
 unfold wZ at h;grind
theorem aQZ {m:Nat} (c:0<m) (h1:m<=1000) (a:0<q.toNat) (h2:q.toNat+m<=72057594037927936):wZ q (BitVec.ofInt 64 ((m:Nat):Int))=false:=by
 have e:(qk 64 ((m:Nat):Int)).toNat=m:=by grind
 have f:(72057594037927935#64-qk 64 ((m:Nat):Int)+1#64).toNat=72057594037927936-m:=by
  grind
 unfold wZ;grind
structure Opn.may (o:Opn):Prop where
 kind:o.kind=1#8∨(o.kind=0#8∧o.value.toList=[])
 user:o.user.size≤1024
 value:o.value.size≤65536
theorem aL8 {o:Opn}:cC (oD q o)=true↔o.may∧q.toNat<=72057594037927935:=by
 unfold cC oD;simp only [dT];constructor
 ·rintro ⟨⟨⟨f,e⟩,a⟩,c⟩;refine ⟨⟨?_,om,om⟩,a⟩;grind
 rintro ⟨⟨f,e,a⟩,c⟩;grind
theorem yE (a:l.length<18446744073709551616):iD q l=true↔0<l.length∧l.length<=1000∧0<q.toNat∧q.toNat+l.length<=72057594037927936∧∀ o∈l,o.may:=by
 unfold iD;rw [Bool.and_eq_true,Bool.not_eq_true',List.all_eq_true];grind[aQY,aL8,aQZ]
def qS (o:Opn):List Y:=[o.kind]++gF (yb o.user)++(if o.kind=1#8 then gF (yb o.value) else [])
def aFC (q:BitVec 64) (l:List Opn):List Y:=cM q 8++bK l.length++l.flatMap qS
theorem aD4 {s:ByteArray} (h:s.size<=1000000):(gF (yb s)).length<=s.size+3:=by
 have:=aBp 3 (yb s).length (by grind[bM]) dc;grind[gF,bM]
theorem aWw {o:Opn} (h:o.may):(qS o).length<=o.user.size+o.value.size+7:=by
 have c:=aD4 (s:=o.user) (by have:=h.user; omega);have a:=aD4 (s:=o.value) (by have:=h.value; omega);grind[qS]
def aGO:∀ {l:List Opn},(∀ o∈l,o.may)->(l.flatMap qS).length<=cH l+7*l.length
 | [],_=>by simp
 | o :: r,h=>by
  have:=aGO fun x a=>h x (qj _ a);have c:=aWw (h o (qh ..));rw [xp,qa,cH,List.length_cons]; omega
theorem aSv (h:∀ o∈l,o.may) (a:l.length<=1000000):(aFC q l).length<=11+cH l+7*l.length:=by
 have e:=aGO h;have c:=aBp 3 l.length om dc;grind[aFC,jJ]
def aLc {o:Opn} (h:l[k]? = some o):(l.take k).flatMap qS++qS o=(l.take (k+1)).flatMap qS:=by
 simp_all[we]
theorem aGz (h:∀ o∈l,o.may):cH l<=66560*l.length:=by
 induction l with
 | nil=>trivial
 | cons a r ih =>
  have:=ih fun o e=>h o (qj _ e);have c:=h a (qh ..);have g:=c.user; have f:=c.value;grind[cH]
theorem aSx (a:∀ o∈l,o.may) (e:l.length<=1000):(cM q 8++bK l.length++(l.take k).flatMap qS).length<=11+66567*l.length:=by
 have i:=aGO (l:=l.take k) (fun o c=>a o (xe c));have h:=aGz (l:=l.take k) (fun o c=>a o (xe c));have g:(l.take k).length<=l.length:=by grind
 have f:=aBp 3 l.length om dc;grind[jJ]
def aJ2 {j:Nat} {b:Bool} (h:(decide (((q >>> j).toNat:Int) > 0)&&b)=true):j<64∧(q >>> (j+1)).toNat<(q >>> j).toNat:=by
 simp only [dT,BitVec.toNat_ushiftRight,Nat.shiftRight_eq_div_pow] at h ⊢;have c:0<q.toNat / 2^j:=by omega
 have e:=q.isLt;refine ⟨?_,by rw [Nat.pow_succ,←Nat.div_div_eq_div_mul]; omega⟩;rcases Nat.lt_or_ge j 64 with a | a
 ·exact a
 have:2^64<=2^j:=Nat.pow_le_pow_right dc a;rw [Nat.div_eq_of_lt om] at c; omega
theorem aUW (h1:∀ w∈ws,w.ops.length<=1000):(jn ws).length<=1000*ws.length:=by
 induction ws with
 | nil=>trivial
 | cons a r ih =>
  grind[jn]
def aWm {m:Nat} (h:m<18446744073709551616):(BitVec.ofInt 64 ((m:Nat):Int)).toNat=m:=by
 simp_all
theorem aHw {a:Y} (h:(a.toNat:Int)=1):a=1#8:=BitVec.eq_of_toNat_eq (by grind)
def aHx {a:Y} (h:¬ (a.toNat:Int)=1):¬ a=1#8:=fun e=>h (by simp_all)
theorem aLq {xs:List Nd} {o:List Nat} {a:Nat->Nat} (h:Skp xs o a) {e:Ent} (c:∀ i∈o,¬ ((cI xs i).user=e.user∧(cI xs i).seq=e.seq)) :
  bF xs (iL xs e.user e.seq o a 0) 0=0∨¬ ((cI xs (bF xs (iL xs e.user e.seq o a 0) 0)).user=e.user∧(cI xs (bF xs (iL xs e.user e.seq o a 0) 0)).seq=e.seq):=by
 have k:(gO xs e.user e.seq o).filter (fun i=>decide (0<a i))=gO xs e.user e.seq o:=List.filter_eq_self.2 fun i f=>decide_eq_true (h.h1 i (yV f).1).1;have j:iL xs e.user e.seq o a 0=gQ 0 (gO xs e.user e.seq o):=by grind[iL]
 have h1:=h.chn0;rw [← yq (p:=fun i=>eG (cI xs i) e.user e.seq) (l:=o)] at h1;have g:=Chn.hd (Chn.drop (s:=gO xs e.user e.seq o) h1);rw [j,g];cases hd:o.dropWhile (fun i=>eG (cI xs i) e.user e.seq) with
 | nil=>simp
 | cons i r =>
  grind[qaG]
structure NowI (hist:List Ent) (xs:List Nd) (o:List Nat) (hgt:Nat→Nat) (sz:Nat):Prop where
 skp:Skp xs o hgt
 cnt:8*o.length≤sz
 szl:sz≤1000000000
 len:o.length≤1900
 sub:∀ e∈bX xs o,e∈hist
theorem NowI.nil {hist:List Ent}:NowI hist [Nd.z] [] (fun _=>0) 0:=⟨Skp.nil,qc _,dc,dc,fun e a=>absurd a qf⟩
theorem aT6 {e:Ent} {l:List Ent}:(sK e l).length=l.length+1:=by
 unfold sK;have:=congrArg wm (yq (p:=fun x=>cR x e) (l:=l));grind
theorem aT7 {e x:Ent} {l:List Ent} (h:x∈sK e l):x=e∨x∈l:=by
 grind[sK,qaG]
theorem NowI.put_len {xs:List Nd} {o:List Nat} {c:Nat->Nat} {sz:Nat} (h:NowI hist xs o c sz) {e:Ent} (j:∀ x∈hist,x.seq≠e.seq):(nK xs e o).length=o.length+1:=by
 have a:∀ i∈o,¬ ((cI xs i).user=e.user∧(cI xs i).seq=e.seq):=fun i f g=>j _ (h.sub _ (ya f)) g.2;obtain ⟨_,b⟩:=h.skp.put (e:=e) (ht:=1) om om a;have:=congrArg wm b;grind[tU,aT6]
theorem NowI.put {hist:List Ent} {xs:List Nd} {o:List Nat} {c:Nat->Nat} {sz:Nat} (h:NowI hist xs o c sz) {e:Ent} {ht:Nat} (h1:1<=ht) (k:∀ x∈hist,x.seq≠e.seq) (q:o.length<1900) (p:sz<=900000000) (m:e.user.size+e.value.size<=100000) :
  NowI (hist++[e]) (gZ (iL xs e.user e.seq o c) xs.length (xs++[(e,fun _=>0)]) (min ht 12)) (nK xs e o) (fun i=>if i=xs.length then min ht 12 else c i) (sz+(e.user.size+e.value.size+8)):=by
 have j:∀ i∈o,¬ ((cI xs i).user=e.user∧(cI xs i).seq=e.seq):=fun i l n=>k _ (h.sub _ (ya l)) n.2;obtain ⟨a,b⟩:=h.skp.put (e:=e) (ht:=min ht 12) om om j;have g:=h.put_len k;refine ⟨a,by rw [g]; have:=h.cnt; omega,om,om,fun x f=>?_⟩;rw [b] at f;rcases aT7 f with rfl | f
 ·simp
 exact List.mem_append_left _ (h.sub x f)
def aPd (G:PM) (T:Nat) (hist:List Ent) (d:Db):Prop:=∀ bw,d.wt=some bw->∃ (h:Sh) (nw:List Nd) (sz:Value) (o:List Nat) (hgt:Nat->Nat),PB G bw (cl [h.val nw.length,sz] T)∧SlR G 16 Nd.cells h nw∧Skp nw o hgt∧nw.length<=2000∧(∀ e∈bX nw o,e∈hist)∧d.ol.h.kind=1#8∧d.ol.h.num.toNat≠d.lg.h.num.toNat
def WkI.more {G:PM} {d:Db} {F:List Fi} {clk:Nat} {hist new:List Ent} (h:WkI G d F clk hist):WkI G d F clk (hist++new) :=
 ⟨h.dk,h.fil,h.st,h.right,h.tabs.more,h.nx,h.free,h.gens,h.lk,h.mk3,h.lgp,h.mnp,h.blk,h.evy,h.tbl,h.nums,h.lgl⟩
def WkI.stp {G g:PM} {d:Db} {F e:List Fi} {clk j t nw:Nat} {hist:List Ent} (h:WkI G d F clk hist) (a:PM.le G g) (c:Stp F e [] t nw) (r:DkR e j) (hF:FilesR g e):WkI g d e j hist:=by
 refine ⟨r,hF,h.st.mono a,h.right,fun i p m l=>((h.tabs i p m l).mono a).stp c (fun x f=>absurd f qf) (fun x f=>absurd f qf),h.nx,fun n k=>c.gone n (h.free n k),h.gens,h.lk,h.mk3,fun q=>c.oth _ nO (h.lgp q),c.oth _ uB h.mnp,h.blk,h.evy,h.tbl,h.nums,h.lgl⟩
theorem WkI.over {d:Db} {clk:Nat} (h:WkI G d F clk hist) {sf:Bool} {c:Nat} (a:d.next.toNat+1<9223372036854775808) :
  WkI G { d with ol:={ d.lg with safe:=sf },wt:=some d.now,now:=c,lg:=⟨⟨1#8,0#8,0#64,d.ep,d.next⟩,0#64,false⟩,next:=d.next+1#64 } F clk hist:=by
 have e:(d.next+1#64).toNat=d.next.toNat+1:=yA (k:=1) om;refine ⟨h.dk,h.fil,h.st,h.right,h.tabs,?_,fun n a=>h.free n ?_,h.gens,rfl,h.mk3,fun q=>?_,h.mnp,h.blk,h.evy,h.tbl,h.nums,?_⟩
 ·have:=h.nx; grind
 ·grind
 ·simp_all
 grind
def WkI.log {d:Db} {clk:Nat} (h:WkI G d F clk hist) {sf:Bool} (a:(aJ (nG 1 d.lg.h.num.toNat) F).isSome=true):WkI G { d with lg:={ d.lg with n:=n,safe:=sf } } F clk hist :=
 ⟨h.dk,h.fil,h.st,h.right,h.tabs,h.nx,h.free,h.gens,h.lk,h.mk3,fun _=>a,h.mnp,h.blk,h.evy,h.tbl,h.nums,h.lgl⟩
def WkI.seq {G:PM} {d:Db} {F:List Fi} {clk:Nat} {hist:List Ent} (h:WkI G d F clk hist) {q:BitVec 64}:WkI G { d with seq:=q } F clk hist :=
 ⟨h.dk,h.fil,h.st,h.right,h.tabs,h.nx,h.free,h.gens,h.lk,h.mk3,h.lgp,h.mnp,h.blk,h.evy,h.tbl,h.nums,h.lgl⟩
def aOe (b:Db) (f:Fl):put b.cells 67 f.cells=Db.cells { b with ol:=f }:=rfl
def aOg (b:Db) (w:Nat):b.cells.set 82 (pt w)=Db.cells { b with wt:=some w }:=rfl
def aOd (b:Db) (w:Nat):b.cells.set 81 (pt w)=Db.cells { b with now:=w }:=rfl
theorem aVC {root:Nat->Y} {h:Hd} {p L:List Y} {e:Int} (g:p.length<=40000) (c:(L,e)=lW root h n p):e=0∧0<L.length∧L.length<=42400:=by
 have f:e=0:=by unfold lW at c; grind
 subst f;obtain ⟨a,b,_⟩:=aFv c;omega
def aQ2:q+1#64=BitVec.ofNat 64 (q.toNat+1):=by
 rfl
theorem aYq (h:0<(q+1#64).toNat):(q+1#64).toNat=q.toNat+1:=by
 rw [qaH] at h ⊢;have:=q.isLt;grind
structure TurnR (d d':Db):Prop where
 root:d'.root=d.root
 o:d'.o=d.o
 seq:d'.seq=d.seq
 held:d'.held=d.held
 flt:d'.flt=d.flt
 cls:d'.cls=d.cls
 nx:d.next.toNat≤d'.next.toNat∧d'.next.toNat≤d.next.toNat+2000
def TurnR.refl {d:Db}:TurnR d d:=⟨rfl,rfl,rfl,rfl,rfl,rfl,qc _,xu _ _⟩
structure SmW (d d':Db) (n:Nat):Prop where
 root:d'.root=d.root
 o:d'.o=d.o
 seq:d'.seq.toNat=d.seq.toNat+n
 held:d'.held=d.held
 flt:d'.flt=d.flt
 cls:d'.cls=d.cls
 nx:d.next.toNat≤d'.next.toNat∧d'.next.toNat≤d.next.toNat+2000
def bAu (d:Db) (sz:Nat):(sz:Int)<d.o.mem∨(∃ bw,d.wt=some bw∧d.o.mem<=(sz:Int))∨(d.wt=none∧d.o.mem<=(sz:Int)):=by
 rcases Classical.em ((sz:Int)<d.o.mem) with h | h
 ·omega
 ·cases e:d.wt<;>simp_all
theorem aFJ {j:Nat} {e:Ent} (n:∀ x∈hist,x.seq.toNat<=j) (p:j+l.length<=72057594037927936) (m:(bZ j l)[k]? = some e):(∀ x∈hist++(bZ j l).take k,x.seq≠e.seq):=by
 have g:k<(bZ j l).length:=(List.getElem?_eq_some_iff.1 m).1;rw [nI] at g;have a:∀ (i:Nat) (x:Ent),i<l.length->(bZ j l)[i]? = some x->x.seq.toNat=j+i+1:=fun i x h f=>by
  obtain ⟨y,c⟩ : ∃ y,l[i]? = some y:=⟨_,qv h⟩;rw [aBL c] at f;grind[oD]
 grind[xm]
def aT0 {p:α->Bool}:cZ p []<0:=by simp_all[cZ]
def aT1 {p:α->Bool} {w:α} (h:p w=false):cZ p [w]<0:=by
 simp_all[cZ]
theorem aT3 {p:α->Bool} {l:List α} (h:l.any p=true):0<=cZ p l:=by
 grind[cZ]
def xW {i h g f e c a:aB} {q p n m l k j:Res} (h1:MTake μ q i) (h2:MTake i p h) (h3:MTake h n g) (w:MTake g m f) (v:MTake f l e) (t:MTake e k c) (r:MTake c j a):μ.Perm ([q,p,n,m,l,k,j]++a):=h1.perm.trans ((aV5 h2 h3 w v t r).cons _)
def Ct.frame {f:FuncId} {Q:PM->aB->Value->Prop} (h:Ct P f args G μ Q) (ν:aB) :
  Ct P f args G (μ++ν) (fun c μ' u=>∃ a,Q c a u∧μ'=a++ν):=by
 intro w g;refine (h w g.left).mono ?_;rintro e k ⟨u,c,a,rfl,i,j⟩;exact ⟨u,c,a++ν,rfl,(gX g).step i,a,j,rfl⟩
def Ct.outG {f:FuncId} {Q j:PM->aB->Value->Prop} (h:Ct P f args G μ Q) (l:∀ c μ' u,PM.le G c->Q c μ' u->∃ a,μ'.Perm a∧j c a u):Ct P f args G μ j:=by
 intro w i;refine (h w i).mono ?_;rintro e q ⟨u,c,k,rfl,g,n⟩;obtain ⟨a,m,p⟩:=l _ _ _ (g.mono i.apart) n;exact ⟨u,c,a,rfl,g.perm m,p⟩
def aHR {enc:α->List Value} {sz E:Nat} {ν:aB} {f:FuncId} {xs:List α} (c:∀ x∈xs,(enc x).length=sz) (h:Ct P f args G μ (fun _ a u=>∃ n:aB,(∃ v:Value,n=[rS sz enc v E xs]∧u=v)∧a=ν++n)) :
  Ct P f args G μ (fun g a u=>∃ s:Sh,SlR g sz enc s xs∧a=ν∧u=s.val xs.length):=by
 intro w j;refine (h w j).mono ?_;rintro e q ⟨u,g,a,rfl,i,n,⟨v,rfl,rfl⟩,rfl⟩;obtain ⟨p,s,r,m,l,k⟩:=(i.perm List.perm_append_comm).frzS c;exact ⟨_,p,ν,rfl,k,s,l,rfl,m⟩
def aVW {f:FuncId} {enc:α->List Value} {sz T E:Nat} {v z:Value} {xs:List α} {Q:aB->Value->Prop} (i:∀ x∈xs,(enc x).length=sz) (h:∀ (s:Sh) (c:PM),PM.le G c->SlR c sz enc s xs->PB c k (cl [z,s.val xs.length] T)->Ct P f args c [] (fun _ a u=>Q a u)) :
  Ct P f args G [.blk k (cl [z,v] T),rS sz enc v E xs] (fun _ a u=>∃ n,Q n u∧a=[.blk k (cl [z,v] T),rS sz enc v E xs]++n) :=
 (jX (Q:=fun l u=>∃ n,Q n u∧l=rS sz enc v E xs :: n) fun y e r=>(pV (Q:=Q) i fun s c g p q=>h s c (e.trans g) q (by rw [← p]; exact r.mono g)).mono
  fun t a u ⟨n,m,j⟩=>⟨n,j,m⟩).mono fun t a u ⟨l,m,n,j,w⟩=>⟨n,j,by simp_all⟩
def aK3 {j i h g f e c a:aB} {t r q p n m l k:Res} (h1:MTake μ t j) (h2:MTake j r i) (h3:MTake i q h) (A:MTake h p g) (y:MTake g n f) (x:MTake f m e) (w:MTake e l c) (v:MTake c k a):μ.Perm ([t,r,q,p,n,m,l,k]++a):=h1.perm.trans ((xW h2 h3 A y x w v).cons _)
def aDc {k j i h g f e c a:aB} {w v t r q p n m l:Res} (h1:MTake μ w k) (h2:MTake k v j) (h3:MTake j t i) (E:MTake i r h) (D:MTake h q g) (C:MTake g p f) (A:MTake f n e) (y:MTake e m c) (x:MTake c l a):μ.Perm ([w,v,t,r,q,p,n,m,l]++a):=h1.perm.trans ((aK3 h2 h3 E D C A y x).cons _)
def bBn (l:List Wtg):∀ u∈l.flatMap Wtg.cells,u.oneCell'=true:=fun u a=>by
 obtain ⟨x,_,h⟩:=List.mem_flatMap.1 a; exact x.one u h
def lI (c:Int) (w:Wtg):Bool:=decide ((w.c:Int)=c)
def kX (c:Int) (ws:List Wtg) (l:List Opn):Int:=if c<0∨8<=c∨iD 1#64 l=false then 1 else if 0<=cZ (lI c) ws then 3 else 0
def aZp (h:c<0∨8<=c∨iD 1#64 l=false):kX c ws l=1:=if_pos h
def aM7 (h:¬ (c<0∨8<=c∨iD 1#64 l=false)) (h2:0<=cZ (lI c) ws):kX c ws l=3:=by simp_all[kX]
def aGw (h:¬ (c<0∨8<=c∨iD 1#64 l=false)) (h2:¬ 0<=cZ (lI c) ws):kX c ws l=0:=by simp_all[kX,if_neg]
def aM5 (h:(decide (c<0)||decide (c>=8) || !iD 1#64 l)=false):¬ (c<0∨8<=c∨iD 1#64 l=false):=by
 simp_all
theorem aZs (h:(decide (c<0)||decide (c>=8) || !iD 1#64 l)=true):c<0∨8<=c∨iD 1#64 l=false:=by
 grind
theorem aZq (h:¬ (c<0∨8<=c∨iD 1#64 l=false)):∃ m:Nat,c=m∧m<8∧iD 1#64 l=true:=by
 obtain ⟨m,rfl⟩:=Int.eq_ofNat_of_zero_le (a:=c) om;grind
theorem aT2 {p:α->Bool} {l:List α} (h:∀ x∈l,p x=false):cZ p l<0:=by
 have:=aFh (p:=p) (l:=l);grind
structure DbS where
 d:Db
 F:List Fi
 clk:Nat
 done:Nat
 mrk:BitVec 64
 hist:List Ent
 vn:Value
 xs:List Nd
 o:List Nat
 hgt:Nat→Nat
 sz:Nat
structure DbS.Ok (G:PM) (T:Nat) (s:DbS):Prop where
 wk:WkI G s.d s.F s.clk s.hist
 wt:aPd G T s.hist s.d
 now:NowI s.hist s.xs s.o s.hgt s.sz
 vn:s.vn.oneCell'=true
 hi:HistI s.hist
 sq:∀ e∈s.hist,e.seq.toNat≤s.d.seq.toNat
 mem:s.d.o.mem≤256
 fc:s.d.flt=0∧s.d.cls=false
structure DbS.Up (s s':DbS) (q z f:Nat):Prop where
 seq:s'.d.seq.toNat≤s.d.seq.toNat+q
 size:aV s'.F≤aV s.F+z
 cnt:s'.F.length≤s.F.length+f
 done:s'.done≤s.done+10000
 mrk:s'.mrk.toNat≤s.mrk.toNat+1
 nx:s'.d.next.toNat≤s.d.next.toNat+2000
def DbS.Up.refl {s:DbS} {q z f:Nat}:s.Up s q z f:=⟨xu _ _,xu _ _,xu _ _,xu _ _,xu _ _,xu _ _⟩
structure DbS.Room (s:DbS) (room z:Nat):Prop where
 done:s.done≤30000000
 cnt:s.F.length+2000<100000
 nx:s.d.next.toNat+2000<9223372036854775807
 mrk:s.mrk.toNat≤900
 size:z+aV s.F≤room
theorem aKw {a b:BitVec 64} (h:b=a∨b=a+1#64) (c:a.toNat<=900):b.toNat<=a.toNat+1:=by
 grind
def rmG (n:Int):Int:=if (if (1048576:Int)<n then 1048576 else n) > 0 then (if (1048576:Int)<n then 1048576 else n) else 0
structure ComR (s s':DbS) (ws:List Wtg) (n:Int) (k:Nat) (e:Int):Prop where
 er:(e=0∧(0<k∨ws=[]))∨(e=230∧k=0∧ws≠[]∧s.d.wt≠none)
 stop:e=0→k<ws.length→∃ w,ws[k]? = some w∧(rmG n-((8*(jn (ws.take k)).length+cH (jn (ws.take k)):Nat):Int)<((8*w.ops.length+cH w.ops:Nat):Int)∨1000<(jn (ws.take k)).length+w.ops.length)
 same:k=0→s'=s
 kw:k≤ws.length
 hist:s'.hist=s.hist++bZ s.d.seq.toNat (jn (ws.take k))
 up:s.Up s' (jn (ws.take k)).length 100000 1
def xP (a b:List Wtg):jn (a++b)=jn a++jn b:=List.flatMap_append ..
theorem aCA:∀ a b:List Opn,cH (a++b)=cH a+cH b
 | [],b=>(Nat.zero_add _).symm
 | o :: r,b=>by rw [List.cons_append,cH,cH,aCA]; omega
def aKF (ws:List Wtg) (k:Nat):(jn (ws.take k)).length+(jn (ws.drop k)).length=(jn ws).length∧cH (jn (ws.take k))+cH (jn (ws.drop k))=cH (jn ws):=by
 rw [← qa,←aCA,←xP,wn]; omega
theorem aZz {w:Wtg} (h:w∈ws):cH w.ops<=cH (jn ws):=by
 obtain ⟨a,b,rfl⟩:=List.append_of_mem h;grind[aCA,jn]
theorem aKE (h:0<k) (c:k<=ws.length) (a:∀ w∈ws,0<w.ops.length):0<(jn (ws.take k)).length:=by
 cases ws with
 | nil=>simp_all
 | cons w r =>
  obtain ⟨j,rfl⟩ : ∃ j,k=j+1:=⟨k-1,om⟩;grind[jn]
theorem aUZ (h:k=0):(jn (ws.take k)).length=0:=by grind[jn]
def aFo {w:Wtg} (h:ws[k]? = some w):(jn (ws.take (k+1))).length=(jn (ws.take k)).length+w.ops.length:=by
 rw [← aFn h,qa]
def aUY {w:Wtg} (h:ws[k]? = some w):cH (jn (ws.take (k+1)))=cH (jn (ws.take k))+cH w.ops:=by
 rw [← aFn h,aCA]
def aEG:∀ {l:List Opn} {j:Nat},bO (bZ j l)=cH l
 | [],_=>rfl
 | o :: r,j=>by rw [bZ,bO,cH,aEG]; rfl
theorem aS7 {j:Nat} {e:Ent} (f:e∈bZ j l) (g:j+l.length<=72057594037927936):e.seq.toNat<=j+l.length:=by
 obtain ⟨i,c⟩:=xm.1 f;have a:i<l.length:=by grind[nI]
 rw [aBL (qv a)] at c;grind[oD]
theorem aS6 {j:Nat} (h:∀ o∈l,o.may) (g:j+l.length<=72057594037927935):∀ e∈bZ j l,cC e=true:=fun e f=>by
 obtain ⟨i,c⟩:=xm.1 f;have a:i<l.length:=by grind[nI]
 rw [aBL (qv a)] at c;grind[aL8]
theorem HistI.more (h:HistI hist) {j:Nat} (hm:∀ o∈l,o.may) (g:j+l.length<=72057594037927935) (f:hist.length+l.length<=20000) (c:bO hist+cH l<=20000):HistI (hist++bZ j l):=by
 refine ⟨fun e a=>?_,?_,?_⟩
 ·rcases List.mem_append.1 a with a | a
  ·exact h.ok e a
  grind[aS6]
 ·simp_all[nI]
 simp_all[pU,aEG]
theorem aX6 (c:0<l.length) (a:l.length<=1000) (hm:∀ o∈l,o.may) (e:q.toNat<=1000000):iD (q+1#64) l=true :=
 (yE om).2 ⟨c,a,by grind,by grind,hm⟩
def qU (m:Y):Opts:=⟨((m.toNat+1:Nat):Int),200,2,2000,50,4,10⟩
theorem aBs (m:Y):aDz (qU m)=true:=by
 have:=m.isLt;unfold aDz uQ qU;grind
theorem aSN (n:Nat):6<=(fN n).length:=by
 have a:∀ m:Nat,∀ {n:Nat} {acc:List Y},n+(6-acc.length)<=m->6<=(lG n acc).length:=by
  intro m;induction m with
  | zero=>grind[xB]
  | succ m ih =>
   grind[xD]
 exact a _ (qc _)
def aWR:rM (cK 4 0):=fun n h=>by
 have a:=congrArg ByteArray.size h;rw [sz4] at a;have:10<=(nG 2 n).size:=by
  show 10<=(aQ (yb (aQ (fN n))++yb ⟨#[46,116,97,98]⟩)).size;have c:(⟨#[46,116,97,98]⟩ : ByteArray).size=4:=rfl;simp_all[fJ,bM,aSN]
 omega
theorem aTM {bd t e f:Nat} {root:Nat->Y} {m:Y} (j:DkR F 3) (hF:FilesR G F) (g:F.map Fi.nm=[cK 3 0,cK 4 0]):WkI G (yP bd t root (qU m) 1#64 e f) F 3 []:=by
 obtain ⟨a,c,rfl,l,k⟩ : ∃ a c,F=[a,c]∧a.nm=cK 3 0∧c.nm=cK 4 0:=by
  cases F with
  | nil=>cases g
  | cons a r =>
   cases r with
   | nil=>grind
   | cons c r =>
    cases r with
    | nil=>grind
    | cons _ _=>grind
 refine ⟨j,hF,aGs,aL7 dc dc,fun i v m h=>absurd h qf,(by show (2:Int)<=((2#64:BitVec 64).toNat:Int); decide),fun n _=>?_,fun _ _=>rfl,rfl,rfl,fun q=>absurd (show 0<(0#64:BitVec 64).toNat from q) dc,?_,rfl,rfl,rfl,aMv aNn aNo,(by show (1#64:BitVec 64).toNat<(2#64:BitVec 64).toNat; decide)⟩
 ·have p:a.nm≠nG 2 n:=by rw [l,aK5 dc]; exact uB n
  have w:c.nm≠nG 2 n:=by rw [k]; exact aWR n
  simp_all[aJ]
 have p:a.nm=nG 3 0:=by simp_all[aK5]
 show (aJ (nG 3 0) [a,c]).isSome=true;simp_all[aJ]
structure DbS.First (s:DbS):Prop where
 hist:s.hist=[]
 seq:s.d.seq=0#64
 wt:s.d.wt=none
 size:aV s.F≤2000
 cnt:s.F.length=2
 done:s.done=5
 mrk:s.mrk=1#64
 nx:s.d.next=2#64
structure Deed where
 kind:Y
 cl:Int
 sh:Sh
 ops:List Opn
 sy:Bool
 most:Int
def Deed.cells (a:Deed):List Value:=[V a.kind,.int .i64 a.cl,a.sh.val a.ops.length,.bool a.sy,.int .i64 a.most]
def Deed.len (a:Deed):a.cells.length=5:=rfl
def Deed.one (a:Deed):∀ u∈a.cells,u.oneCell'=true:=by
 intro u c;simp only [Deed.cells,qe,qf,or_false] at c;rcases c with rfl|rfl|rfl|rfl|rfl<;>rfl
def AllAc (G:PM) (l:List Deed):Prop:=∀ a∈l,SlR G 3 Opn.cells a.sh a.ops∧a.ops.length<=100000000000000
def AllAc.mono {G f:PM} {l:List Deed} (h:AllAc G l) (c:PM.le G f):AllAc f l:=fun a e=>⟨(h a e).1.mono c,(h a e).2⟩
def rF (l:List Deed):Nat:=(l.map fun a=>cH a.ops).sum
def aNl {l:List Deed} {a:Deed} (h:l[k]? = some a):rF (l.take (k+1))=rF (l.take k)+cH a.ops:=by
 simp_all[we,rF]
structure FewI (l:List Deed):Prop where
 cnt:l.length≤50
 ops:∀ a∈l,a.ops.length≤400
 txt:rF l≤10000
theorem bAw {l:List Deed}:rF (l.take k)<=rF l:=by
 have:=congrArg rF (wn k l);grind[rF]
structure SubR (G:PM) (c:Int) (ws ws':List Wtg) (l:List Opn) (e:Int):Prop where
 er:(e≠0∧ws'=ws)∨(e=0∧∃ (m:Nat) (s:Sh) (y:Bool),c=m∧m<8∧iD 1#64 l=true∧cZ (lI c) ws<0∧SlR G 3 Opn.cells s l∧ws'=ws++[⟨m,s,l,y⟩])
section
variable {G G':PM} {T:Nat} {acts:List Deed} {q w:Nat} {s s':DbS} {ws ws':List Wtg} {a:Deed}
theorem aD7 {a b c m w:Nat} (h:a<=b+k) (h2:b<=c+m*w) (h3:k<=m):a<=c+m*(w+1):=by
 grind
end
theorem rt1 {o:Opn} (h:o.may):iD 1#64 [o]=true :=
 (yE (by simp)).2 ⟨Nat.zero_lt_one,(by decide:1<=1000),dc,(by simp),fun x a=>by simp_all⟩
def aRe {s s':DbS} {n:Int} {e:Int} (h:ComR s s' [] n k e):k=0∧e=0∧s'=s:=by
 have a:k=0:=Nat.le_zero.1 h.kw;rcases h.er with ⟨c,_⟩ | ⟨_,_,f,_⟩
 ·exact ⟨a,c,h.same a⟩
 simp_all
theorem aRh {s s':DbS} {a b:Wtg} {e:Int} (h:ComR s s' [a,b] 100 k e) (l:s.d.wt=none) (q:a.ops.length=1) (p:b.ops.length=1) (za:cH a.ops<=2) (zb:cH b.ops<=2):k=2∧e=0:=by
 rcases h.er with ⟨f,j⟩ | ⟨_,_,_,r⟩
 ·refine ⟨?_,f⟩;have i:=h.kw;have g:k<=2:=i;have t:0<k:=j.resolve_right (by simp);refine Classical.byContradiction fun n=>?_;obtain rfl:k=1:=by omega
  obtain ⟨w,c,m⟩:=h.stop f (by simp);cases c;have x:jn ([a,b].take 1)=a.ops:=by simp_all[jn]
  have v:rmG 100=100:=rfl;grind
 simp_all
theorem SubR.lt {e:Int} {a:List Wtg} (h:SubR G c ws a l e) (f:e=0):(ws.map Wtg.c).length<(a.map Wtg.c).length:=by
 rcases h.er with ⟨g,_⟩ | ⟨_,m,s,y,_,_,_,_,_,rfl⟩
 ·omega
 simp
end Go.Tan
namespace Go.Proofs.YtjkkbmdonbcccaaGreatDoor
open Go.Tan Go.Proofs.Tryz
instance:TTab prog:=⟨[(3,.i .i64),(57,.i .u64),(9,.s),(148,.sl 5 1 1),(5,.i .u8),(72,.sl 57 1 8),(301,.i .u32),(161,.st 4 [0,1,2,3]),(136,.st 40 [0,1,2,3,4,5,6,7,8]),(132,.sl 161 4 48),(146,.sl 9 1 16),(4,.b),(111,.sl 136 40 112),(41,.i .i64),(123,.st 85 [0,1,2,34,41,42,56,57,58,59,60,67,74,81,82,83,84]),(34,.p),(115,.st 14 [0,5,6,7,8,9]),(28,.sl 95 3 40),(81,.ar 32 32 5 1),(118,.st 5 [0,1,2,3,4]),(189,.st 11 [0,1,2,3,4,9,10]),(39,.st 6 [0,1,2,3,4,5]),(331,.p),(35,.p),(95,.st 3 [0,1,2]),(32,.p),(134,.sl 132 1 24),(405,.ar 16 16 301 1),(30,.st 5 [0,1,2,3,4]),(167,.sl 148 1 24),(96,.sl 100 3 40),(120,.st 7 [0,5,6]),(31,.sl 3 1 8),(68,.sl 64 3 40),(121,.p),(235,.i .u64),(71,.sl 76 2 32),(316,.sl 81 32 32),(204,.sl 252 16 144),(425,.st 10 [0,8,9]),(54,.sl 142 2 32),(145,.st 5 [0,1,2,3,4]),(85,.st 7 [0,1,2,3,4]),(64,.st 3 [0,1,2]),(150,.st 2 [0,1]),(100,.st 3 [0,1,2]),(112,.ar 5 5 111 1),(430,.i .u64),(252,.st 16 [0,4]),(433,.p),(44,.sl 48 2 16),(33,.p),(187,.sl 201 2 16),(382,.st 2 [0,1]),(348,.st 8 [0,5,6,7]),(22,.sl 30 5 56),(221,.st 3 [0,1,2]),(290,.st 23 [0,5,19,20,21,22]),(48,.st 2 [0,1]),(206,.st 2 [0,1]),(366,.ar 64 64 5 1),(399,.st 74 [0,64,65,73]),(74,.st 2 [0,1]),(143,.o),(201,.st 2 [0,1]),(376,.st 4 [0,1,2,3]),(36,.p),(37,.p),(70,.st 1 [0]),(142,.st 2 [0,1]),(438,.st 2 [0,1]),(125,.st 5 [0,1,2,3,4]),(239,.st 64 [0,32]),(249,.ar 12 12 3 1),(242,.ar 12 12 5 1),(156,.st 2 [0,1]),(423,.ar 8 8 301 1),(98,.st 2 [0,1]),(83,.st 3 [0,1,2]),(113,.ar 5 5 57 1),(80,.ar 32 32 5 1),(53,.sl 28 1 24),(318,.st 67 [0,64,65,66]),(335,.st 34 [0,1,2]),(76,.st 2 [0,1]),(458,.ar 64 64 301 1),(158,.st 2 [0]),(231,.st 1 [0]),(278,.sl 335 34 72),(280,.st 67 [0,64,65,66]),(302,.ar 16 16 5 1),(412,.p),(436,.p),(390,.i .i64),(182,.sl 41 1 8),(194,.p),(276,.p),(241,.ar 12 12 5 1),(407,.sl 301 1 4),(24,.p),(180,.st 1 [0]),(116,.o),(21,.i .i32),(315,.p),(440,.sl 439 1 8),(439,.p),(229,.p),(236,.ar 3 3 57 1),(294,.p),(352,.p)],355,[0,1,2,333,334,335,336,337,338,339,340,341,342,343,344,345,346,347,348,349,350,351,352,353],by kernel_rfl,by kernel_rfl⟩
variable {xs ys e:List Y} {T:Nat} {G:PM} {h1:Sh}
set_option maxRecDepth 100000
def bCU:prog.cellsOf 301=1:=by kernel_rfl
def bCV:prog.cellsOf 458=64:=by kernel_rfl
def aOs:prog.cellsOf 95=3:=by kernel_rfl
def bCW:prog.cellsOf 5=1:=by kernel_rfl
def aOr:prog.cellsOf 9=1:=by kernel_rfl
def bCT:prog.bytesOf 95=40:=by kernel_rfl
def gC:prog.globalNamed "tantalus/sha.constants" = some 0:=by kernel_rfl
def gCT:(prog.globals[0]?).map (·.type)=some 458:=by kernel_rfl
def aKH:List Int:=[1116352408,1899447441,3049323471,3921009573,961987163,1508970993,2453635748,2870763221,3624381080,310598401,607225278,1426881987,1925078388,2162078206,2614888103,3248222580,3835390401,4022224774,264347078,604807628,770255983,1249150122,1555081692,1996064986,2554220882,2821834349,2952996808,3210313671,3336571891,3584528711,113926993,338241895,666307205,773529912,1294757372,1396182291,1695183700,1986661051,2177026350,2456956037,2730485921,2820302411,3259730800,3345764771,3516065817,3600352804,4094571909,275423344,430227734,506948616,659060556,883997877,958139571,1322822218,1537002063,1747873779,1955562222,2024104815,2227730452,2361852424,2428436474,2756734187,3204031479,3329325298]
def aUd:∀ j,j<64->aKH.getD j 0=((kW j).toNat:Int):=by decide
def aZ3 {W:World} {rest:List (String×DataW Unit)} (h:laidMet prog (("tantalus/sha.constants",Rows.laid_tantalus_sha_constants) :: rest) W):RdNP (fun b=>W.heap[b]?) 0 0 (wa 64 kW) :=
 aZ4 (Lib.tabIs_of_head (zs:=aKH) (rest:=rest) gC gCT Tryz.underlying458 Tryz.underlying301 bCU bCV h) gC rfl aUd
def aUc:Array Value:=#[.int .u32 1116352408,.int .u32 1899447441,.int .u32 3049323471,.int .u32 3921009573,.int .u32 961987163,.int .u32 1508970993,.int .u32 2453635748,.int .u32 2870763221,.int .u32 3624381080,.int .u32 310598401,.int .u32 607225278,.int .u32 1426881987,.int .u32 1925078388,.int .u32 2162078206,.int .u32 2614888103,.int .u32 3248222580,.int .u32 3835390401,.int .u32 4022224774,.int .u32 264347078,.int .u32 604807628,.int .u32 770255983,.int .u32 1249150122,.int .u32 1555081692,.int .u32 1996064986,.int .u32 2554220882,.int .u32 2821834349,.int .u32 2952996808,.int .u32 3210313671,.int .u32 3336571891,.int .u32 3584528711,.int .u32 113926993,.int .u32 338241895,.int .u32 666307205,.int .u32 773529912,.int .u32 1294757372,.int .u32 1396182291,.int .u32 1695183700,.int .u32 1986661051,.int .u32 2177026350,.int .u32 2456956037,.int .u32 2730485921,.int .u32 2820302411,.int .u32 3259730800,.int .u32 3345764771,.int .u32 3516065817,.int .u32 3600352804,.int .u32 4094571909,.int .u32 275423344,.int .u32 430227734,.int .u32 506948616,.int .u32 659060556,.int .u32 883997877,.int .u32 958139571,.int .u32 1322822218,.int .u32 1537002063,.int .u32 1747873779,.int .u32 1955562222,.int .u32 2024104815,.int .u32 2227730452,.int .u32 2361852424,.int .u32 2428436474,.int .u32 2756734187,.int .u32 3204031479,.int .u32 3329325298]
def setO:Obj->Obj
 | .cells _ t frozen=>.cells aUc t frozen
 | o=>o
noncomputable def aFs (os:Os):World :=
 { World.holding prog os ⟨#[], #[],[]⟩ with heap:=(World.holding prog os ⟨#[], #[],[]⟩).heap.modify 0 setO }
section
variable {H:Type} {R:Nat} {enc:TypeId×Value→H} {W:World} {cs:List Value}
def aZG (e:cs.length=3) {a b c:Value} (f:(cs.drop 0).take 1=[a]) (h1:(cs.drop 1).take 1=[b]) (h2:(cs.drop 2).take 1=[c]):cs=[a,b,c]:=by
 match cs,e with
 | [p,q,r],_=>simp_all
def aWx (h:Rg R enc prog W 95 cs):∃ o:Opn,cs=o.cells∧True:=by
 have e:=h.len Tryz.underlying95;rw [aOs] at e;obtain ⟨a,i⟩:=(h.fld Tryz.underlying95 0 5 0 rfl bCW).uw rfl Tryz.underlying5;obtain ⟨b,g,_⟩:=(h.fld Tryz.underlying95 1 9 1 rfl aOr).str Tryz.underlying9;obtain ⟨c,f,_⟩:=(h.fld Tryz.underlying95 2 9 2 rfl aOr).str Tryz.underlying9;exact ⟨⟨a,b,c⟩,aZG e i g f,trivial⟩
def aW2 (g:R<=140737488351232) (h:Rg R enc prog W 28 cs):∃ (hd:Sh) (l:List Opn),cs=[hd.val l.length]∧SlR (fun b=>W.heap[b]?) 3 Opn.cells hd l∧l.length<=100000000000000:=by
 obtain ⟨hd,l,c,a,i,_⟩:=h.sl Opn.cells (fun _=>True) Tryz.underlying28 aOs dc bCT (fun f e=>aWx e);exact ⟨hd,l,c,a,by have:=a.le; omega⟩
def aWv {v u:Value} (h:v.cells.toList=[u]) (a:u.oneCell'=true) (e:∀ c,v≠.agg c):v=u:=by
 simp_all[Value.cells]
def aY4 {t e:TypeId} {a:Nat} {v u:Value} (ht:prog.underlying t=some (.slice e)) (h:Value.okWide prog W .any a t v) (g:v.cells.toList=[u]) (f:u.oneCell'=true):v=u:=by
 refine aWv g f fun c i=>?_;simp_all[Value.okWide,Cell.okWide,Cell.ok]
end
def bAS:ownKnob prog.godebug=none:=by kernel_rfl
def aNU:laidOutB prog=true:=by kernel_rfl
def bAT:mapsRowed prog=true:=by kernel_rfl
def bAQ:prog.stopsHeard=true:=by kernel_rfl
def bAP:prog.mayEnter=true:=by kernel_rfl
def tab {a b:Bool} (h:a=true) (k:b=true):(a&&b)=true:=by simp_all
def yH (x:W) (k:Int) (G:PM):Ct prog 247 ([U x,.int .i64 k]:List Value).toArray G [] (fun _ μ' u=>μ'=[]∧u=U (aMF x k)):=by
 refine aD func247 ntmps247 fun e c=>?_;refine zg 17 ?_;refine lw (k:=.u32) rfl .no rfl .v .v (fun _=>xv _) (zg 2 ?_);refine bw (k:=.u64) (a:=32#64) rfl .no rfl .v .v rfl (oK (k:=.u32) rfl .no .v .v (fun _=>xv _) ?_);refine zg 5 ?_;refine aI ?_;exact ⟨rfl,rfl⟩
def aBi (a b c d:W) (G:PM):Ct prog 281 ([U a,U b,U c,U d]:List Value).toArray G [] (fun _ μ' u=>μ'=[]∧u=aVr (aAI a b c d)):=by
 refine aD func281 ntmps281 fun f e=>?_;refine zg 21 ?_;refine aK rfl (yH _ _ _) (zg 16 ?_);refine aK rfl (yH _ _ _) (zg 16 ?_);refine aK rfl (yH _ _ _) (zg 16 ?_);refine aK rfl (yH _ _ _) (zg 16 ?_);refine aI ?_;exact ⟨rfl,rfl⟩
def dM:prog.follows .mixedOrders=true:=by kernel_rfl
def yQ:dK prog 366=some (ba 64 (fun _=>0#8)):=by kernel_rfl
def bCP:cU prog 405 [0,1,2,3]=some ([.int .u32 0,.int .u32 0,.int .u32 0,.int .u32 0,.int .u32 0,.int .u32 0,.int .u32 0,.int .u32 0,.int .u32 0,.int .u32 0,.int .u32 0,.int .u32 0,.int .u32 0,.int .u32 0,.int .u32 0,.int .u32 0],[(0,1),(1,1),(2,1),(3,1)]):=by kernel_rfl
def aO3:dK prog 405=some ([.int .u32 0,.int .u32 0,.int .u32 0,.int .u32 0,.int .u32 0,.int .u32 0,.int .u32 0,.int .u32 0,.int .u32 0,.int .u32 0,.int .u32 0,.int .u32 0,.int .u32 0,.int .u32 0,.int .u32 0,.int .u32 0]):=by kernel_rfl
def aOH (y:Nat->W) (f:Nat->Y) (m l p off n cap e:Nat) (T w:TypeId) (G:PM) (hm:off+n<=m) (A:4*n<=e) (H:n<=1000):Ct prog 280 ([(Sh.mk (some ⟨l,off,none⟩) cap).val n,(Sh.mk (some ⟨p,0,none⟩) e).val e]:List Value).toArray G ([.blk l (cl (wa m y) T),.blk p (cl (ba e f) w)]:aB) (fun G' μ' u=>μ'=[.blk l (cl (wa m (mX y f off n)) T),.blk p (cl (ba e f) w)]∧u=.tuple #[]):=by
 refine aD func280 ntmps280 fun F x=>?_;refine zg 8 ?_;refine Wk.lop (α:=Nat) (fun i=>[(8,true,.int .i64 (i:Int))]) (fun i=>[.blk l (cl (wa m (mX y f off i)) T)])
  (fun i E=>i<=n) (fun i=>n-i) 0 [(0,true,_),(1,true,_),(7,true,_)] [.blk p _]
  es
  dG ?_ ?_
 ·show 0<=n; omega
 intro i L D r g j;try dsimp only at j r ⊢
 have I:i<=n:=j;refine zg 6 ?_;refine .cond rfl (fun v=>?_) (fun v=>?_)
 ·try simp only [dR] at v
  refine zg 16 ?_;refine Wk.lop (α:=Nat) (fun c=>[(5,true,.int .i64 (3-(c:Int)))]) (fun c=>[.blk l (cl (wa m (bA (mX y f off i) (off+i) (rC (mX y f off i (off+i)) f i c))) T)])
   (fun c E=>c<=4) (fun c=>4-c) 0 [(0,true,_),(1,true,_),(4,true,_),(7,true,_),(8,true,_)] [.blk p _]
   es
   (mS .here bBl bH) ?_ ?_
  ·show 0<=4; omega
  intro c K C q a h;try dsimp only at h q ⊢
  have J:c<=4:=h;refine zg 7 ?_;refine .cond rfl (fun t=>?_) (fun t=>?_)
  ·try simp only [dR] at t
   refine zg 4 ?_;refine Wk.d0 18 (zg 4 ?_);refine qG rfl om om rfl ?_;refine aM rfl (Rd.own .here (dJ (off+i) (by show off+_*1=off+i; omega) om)) ?_;refine lw (k:=.u32) rfl .no rfl .v .v (fun _=>dc) (zg 5 ?_);refine qG rfl om om rfl ?_;refine aM rfl (Rd.own aE (iM (4*i+(3-c)) (by show 0+_*1=_; omega) om)) (zg 2 ?_);refine qG rfl om om rfl ?_;refine cL rfl .here (by rw [cO]; show off+_*1<m; omega) (eK _ (by show off+_*1=off+i; omega)) (zg 8 ?_);refine We.lpo (c+1) ?_ ?_ ?_ ?_ ?_
   ·exact (cB rfl (congrArg _ om) es)
   ·exact (mS .here (bBm (by rw [aAh]; rfl)) bH)
   ·first|omega|(dsimp only; omega)
   ·exact a
   show c+1<=4; omega
  try simp only [dR] at t
  refine zg 10 ?_;refine We.lpo (i+1) ?_ ?_ ?_ ?_ ?_
  ·exact es
  ·exact (mS .here (bBk om) bH)
  ·first|omega|(dsimp only; omega)
  ·exact g.trans a
  show i+1<=n; omega
 try simp only [dR] at v
 refine zg 5 ?_;refine aR dG ?_;obtain rfl:i=n:=by omega
 exact ⟨rfl,rfl⟩
def aOX (f a:Nat->Y) (e:W) (G:PM):Ct prog 243 ([.agg (ba 32 f).toArray,.agg (ba 12 a).toArray,U e]:List Value).toArray G [] (fun _ μ' u=>μ'=[]∧u=.agg (ba 64 (tN f a e)).toArray):=by
 refine aD func243 ntmps243 fun Z O=>?_;refine zg 2 ?_;refine bD rfl ?_; intro b3;refine bD rfl ?_; intro b4;refine al rfl yQ fun y=>zg 4 ?_;refine bC rfl .no bCP (.cons .v rfl (.cons .v rfl (.cons .v rfl (.cons .v rfl .nil)))) rfl ?_;refine al rfl aO3 fun j=>zg 4 ?_;refine Wk.d1 3 ?_;refine sab rfl .no (zr rfl) .v .v .v (fun _=>dc) (fun _=>dc) (fun _=>dc) (fun _=>dc) ?_;refine qZ rfl .no (zr rfl) .v (aP rfl (aNQ .here aL) (aOH (x0) f 16 j b3 4 8 12 32 405 80 _ dc dc dc) ?_);rintro u X A H ⟨rfl,rfl⟩;simp only [bV,ww,qy,aGh,aGi];refine zg 6 ?_;refine cL rfl .here (by rw [cO]; decide) (eK 12 rfl) (zg 3 ?_);refine Wk.d1 3 ?_;refine sal rfl .no (zr rfl) .v .v (fun _=>dc) (fun _=>dc) ?_;refine qZ rfl .no (zr rfl) .v (aP rfl (aNQ .here aL) (aOH (bA (x1 f 8) 12 e) a 16 j b4 13 3 3 12 405 241 _ dc dc dc) ?_);rintro u X A H ⟨rfl,rfl⟩;simp only [bV,ww,qy,aGh,aGi];refine zg 5 ?_;refine al rfl aO3 ?_; intro w;refine dS rfl .here rfl (yM _ _) (zg 9 ?_);refine Wk.lop (α:=Nat) (fun r=>[(24,true,.int .i64 (r:Int))]) (fun r=>[.blk w (cl (wa 16 (yI (x2 f a e 3) r)) 405)])
  (fun r M=>r<=10) (fun r=>10-r) 0 [(6,true,_),(7,true,_),(8,true,_)] [.blk j _,.blk b4 _,.blk b3 _,.blk y _]
  es
  ms5 ?_ ?_
 ·show 0<=10; omega
 intro r N0 T F m v;try dsimp only at v F ⊢
 have hr:r<=10:=v;refine zg 6 ?_;refine .cond rfl (fun L=>?_) (fun L=>?_)
 ·try simp only [dR] at L
  refine zg 11 ?_;refine Wk.lop (α:=Nat) (fun q=>[(26,true,.int .i64 (q:Int))]) (fun q=>[.blk w (cl (wa 16 (aCq (yI (x2 f a e 3) r) q)) 405)])
   (fun q M=>q<=4) (fun q=>4-q) 0 [(6,true,_),(7,true,_),(8,true,_),(24,true,_)] [.blk j _,.blk b4 _,.blk b3 _,.blk y _]
   es
   ms5 ?_ ?_
  ·show 0<=4; omega
  intro q N1 S E h t;try dsimp only at t E ⊢
  have hq:q<=4:=t;refine zg 6 ?_;refine .cond rfl (fun K=>?_) (fun K=>?_)
  ·try simp only [dR] at K
   refine zg 10 ?_;refine Wk.d0 36 (zg 9 ?_);refine aM rfl (Rd.own .here (dJ q om om)) (zg 3 ?_);refine aM rfl (Rd.own .here (dJ (4+q) om om)) (zg 3 ?_);refine aM rfl (Rd.own .here (dJ (8+q) om om)) (zg 3 ?_);refine aM rfl (Rd.own .here (dJ (12+q) om om)) ?_;refine aK rfl (aBi _ _ _ _ _) (zg 6 ?_);refine cL rfl .here (by rw [cO]; omega) (eK q om) (zg 1 ?_);refine cL rfl .here (by rw [cO]; omega) (eK (4+q) om) (zg 1 ?_);refine cL rfl .here (by rw [cO]; omega) (eK (8+q) om) (zg 1 ?_);refine cL rfl .here (by rw [cO]; omega) (eK (12+q) om) (zg 7 ?_);refine We.lpo (q+1) ?_ ?_ ?_ ?_ ?_
   ·exact es
   ·exact ms5
   ·first|omega|(dsimp only; omega)
   ·exact h
   show q+1<=4; omega
  try simp only [dR] at K
  refine zg 7 ?_;obtain rfl:q=4:=by omega
  simp only [aIj (yI (x2 f a e 3) r) 4 (qc 4)];refine zg 1 ?_;refine aM rfl (Rd.own .here (dJ 0 rfl dc)) (zg 1 ?_);refine aM rfl (Rd.own .here (dJ 5 rfl dc)) (zg 1 ?_);refine aM rfl (Rd.own .here (dJ 10 rfl dc)) (zg 1 ?_);refine aM rfl (Rd.own .here (dJ 15 rfl dc)) ?_;refine aK rfl (aBi _ _ _ _ _) (zg 6 ?_);refine cL rfl .here (by rw [cO]; decide) (eK 0 rfl) (zg 1 ?_);refine cL rfl .here (by rw [cO]; decide) (eK 5 rfl) (zg 1 ?_);refine cL rfl .here (by rw [cO]; decide) (eK 10 rfl) (zg 1 ?_);refine cL rfl .here (by rw [cO]; decide) (eK 15 rfl) (zg 5 ?_);refine aM rfl (Rd.own .here (dJ 1 rfl dc)) (zg 1 ?_);refine aM rfl (Rd.own .here (dJ 6 rfl dc)) (zg 1 ?_);refine aM rfl (Rd.own .here (dJ 11 rfl dc)) (zg 1 ?_);refine aM rfl (Rd.own .here (dJ 12 rfl dc)) ?_;refine aK rfl (aBi _ _ _ _ _) (zg 6 ?_);refine cL rfl .here (by rw [cO]; decide) (eK 1 rfl) (zg 1 ?_);refine cL rfl .here (by rw [cO]; decide) (eK 6 rfl) (zg 1 ?_);refine cL rfl .here (by rw [cO]; decide) (eK 11 rfl) (zg 1 ?_);refine cL rfl .here (by rw [cO]; decide) (eK 12 rfl) (zg 5 ?_);refine aM rfl (Rd.own .here (dJ 2 rfl dc)) (zg 1 ?_);refine aM rfl (Rd.own .here (dJ 7 rfl dc)) (zg 1 ?_);refine aM rfl (Rd.own .here (dJ 8 rfl dc)) (zg 1 ?_);refine aM rfl (Rd.own .here (dJ 13 rfl dc)) ?_;refine aK rfl (aBi _ _ _ _ _) (zg 6 ?_);refine cL rfl .here (by rw [cO]; decide) (eK 2 rfl) (zg 1 ?_);refine cL rfl .here (by rw [cO]; decide) (eK 7 rfl) (zg 1 ?_);refine cL rfl .here (by rw [cO]; decide) (eK 8 rfl) (zg 1 ?_);refine cL rfl .here (by rw [cO]; decide) (eK 13 rfl) (zg 4 ?_);refine aM rfl (Rd.own .here (dJ 3 rfl dc)) (zg 1 ?_);refine aM rfl (Rd.own .here (dJ 4 rfl dc)) (zg 1 ?_);refine aM rfl (Rd.own .here (dJ 9 rfl dc)) (zg 1 ?_);refine aM rfl (Rd.own .here (dJ 14 rfl dc)) ?_;refine aK rfl (aBi _ _ _ _ _) (zg 6 ?_);refine cL rfl .here (by rw [cO]; decide) (eK 3 rfl) (zg 1 ?_);refine cL rfl .here (by rw [cO]; decide) (eK 4 rfl) (zg 1 ?_);refine cL rfl .here (by rw [cO]; decide) (eK 9 rfl) (zg 1 ?_);refine cL rfl .here (by rw [cO]; decide) (eK 14 rfl) (zg 7 ?_);refine We.lpo (r+1) ?_ ?_ ?_ ?_ ?_
  ·exact es
  ·exact (mS .here (congrArg (fun z=>Res.blk w (cl (wa 16 z) 405)) (aSJ (aBA (yI (x2 f a e 3) r) 4))) wD)
  ·first|omega|(dsimp only; omega)
  ·exact m.trans h
  show r+1<=10; omega
 try simp only [dR] at L
 refine zg 7 ?_;obtain rfl:r=10:=by omega
 refine al rfl yQ fun x=>zg 9 ?_;refine Wk.lop (α:=Nat) (fun i=>[(135,true,.int .i64 (i:Int))]) (fun i=>[.blk x (cl (ba 64 (iZ (tN f a e) (4*i))) 366)])
  (fun i M=>i<=16) (fun i=>16-i) 0 [(6,true,_),(7,true,_),(8,true,_),(10,true,_)] [.blk w _,.blk j _,.blk b4 _,.blk b3 _,.blk y _]
  es
  ms6 ?_ ?_
 ·show 0<=16; omega
 intro i N2 Q D l p;try dsimp only at p D ⊢
 have N:i<=16:=p;refine zg 6 ?_;refine .cond rfl (fun J=>?_) (fun J=>?_)
 ·try simp only [dR] at J
  refine zg 11 ?_;refine Wk.d0 8 (zg 2 ?_);refine aM rfl (Rd.own aE (dJ i om om)) (zg 2 ?_);refine aM rfl (Rd.own aL (dJ i om om)) (zg 10 ?_);refine Wk.lop (α:=Nat) (fun c=>[(12,true,U (aCl f a e i >>> (8*c))),(145,true,.int .i64 (c:Int))]) (fun c=>[.blk x (cl (ba 64 (iZ (tN f a e) (4*i+c))) 366)])
   (fun c M=>c<=4) (fun c=>4-c) 0 [(6,true,_),(7,true,_),(8,true,_),(10,true,_),(11,true,_),(135,true,_)] [.blk w _,.blk j _,.blk b4 _,.blk b3 _,.blk y _]
   (cB rfl aY0 es)
   ms6 ?_ ?_
  ·show 0<=4; omega
  intro c N3 P C g n;try dsimp only at n C ⊢
  have hc:c<=4:=n;refine zg 6 ?_;refine .cond rfl (fun I=>?_) (fun I=>?_)
  ·try simp only [dR] at I
   refine zg 19 ?_;refine cL rfl .here (by rw [bT]; omega) (mH (4*i+c) om) (zg 4 ?_);refine oK (k:=.u32) rfl .no .v .v (fun _=>dc) (zg 8 ?_);refine We.lpo (c+1) ?_ ?_ ?_ ?_ ?_
   ·exact (cB rfl aYz es)
   ·exact (mS .here (aW7 om) ms5)
   ·first|omega|(dsimp only; omega)
   ·exact g
   show c+1<=4; omega
  try simp only [dR] at I
  refine zg 10 ?_;obtain rfl:c=4:=by omega
  refine We.lpo (i+1) ?_ ?_ ?_ ?_ ?_
  ·exact es
  ·exact ms6
  ·first|omega|(dsimp only; omega)
  ·exact l.trans g
  show i+1<=16; omega
 try simp only [dR] at J
 refine zg 12 ?_;refine jK ?_;obtain rfl:i=16:=by omega
 exact ⟨rfl,by rw [mG (fun i N=>(mR (tN f a e) N).symm)]; rfl⟩
def bCo:dK prog 458=some (wa 64 (fun _=>0#32)):=by kernel_rfl
def aOq:cU prog 423 [0,1,2,3,4,5,6,7]=some ([.int .u32 0,.int .u32 0,.int .u32 0,.int .u32 0,.int .u32 0,.int .u32 0,.int .u32 0,.int .u32 0],[(0,1),(1,1),(2,1),(3,1),(4,1),(5,1),(6,1),(7,1)]):=by kernel_rfl
def sZ (x:W) (k:Nat) (G:PM) (a:k∈[2,6,7,11,13,17,18,19,22,25]):Ct prog 330 ([U x,.int .i64 (k:Int)]:List Value).toArray G [] (fun _ μ' u=>μ'=[]∧u=U (pO x k)):=by
 refine aD func330 ntmps330 fun f c=>?_;have e:k<=31:=by simp only [qe,qf,or_false] at a; omega
 refine zg 9 ?_;refine ng rfl .no .v (fun _=>cP om om) ?_;refine aK rfl (yH _ _ _) (zg 4 ?_);refine aI ?_;exact ⟨rfl,by rw [← aYE a]; rfl⟩
set_option maxHeartbeats 1000000 in
def aEh (s:Nat->W) (xs:List Y) (h:Sh) (O nn:Value) (L:Nat) (G:PM) (P:SlR G 1 aH h xs) (l:RdNP G 0 0 (wa 64 kW)) (hl:64<=xs.length):Ct prog 323 ([.pointer (some ⟨L,0,none⟩),h.val xs.length]:List Value).toArray G [.blk L (cl (wa 8 s++[O,nn]) 425)] (fun _ μ' u=>μ'=[.blk L (cl (wa 8 (uK s (fun i=>xs.getD i 0))++[O,nn]) 425)]∧u=.tuple #[]):=by
 refine aD func323 ntmps323 fun w0 a2=>?_;refine zg 2 ?_;refine al rfl bCo fun b4=>zg 9 ?_;refine lop (α:=Nat×(Nat->W)) (fun a=>[(24,true,.int .i64 (a.1:Int))]) (fun a=>[.blk b4 (cl (wa 64 a.2) 458)]) (fun a M=>(a.1<=16)∧(a.2=rG (fun i=>xs.getD i 0) a.1)) (fun a=>16-a.1) (0,fun _=>0#32) [(0,true,_),(1,true,_),(4,true,_)] [_] ?_;rintro ⟨k,y⟩ N0 c7 Z A H; dsimp only at H Z ⊢;obtain ⟨hk,J⟩:=H;refine bE A P l fun P l=>?_;refine zg 6 ?_;refine cz rfl (fun c1=>?_) fun c1=>?_
 ·refine zg 18 ?_;refine kS ((4*k)) (((4*k)+4)) rfl .no (zl rfl) P .v .v .v om om om om ?_;intro a7 a0 K p g;have p:=p rfl;refine zg 5 ?_;refine lop (α:=Nat×(Nat->W)) (fun a=>[(35,true,.int .i64 (a.1:Int))]) (fun a=>[.blk b4 (cl (wa 64 a.2) 458)]) (fun a M=>(a.1<=4)∧(a.2=bA y k (shB (fun i=>xs.getD i 0) k a.1))) (fun a=>4-a.1) (0,y) [(0,true,_),(1,true,_),(4,true,_),(5,true,_),(24,true,_),(33,true,_),(34,true,_)] [_] ?_ (hF:=⟨fd,by (try dsimp only)<;>(rw [J]; exact (bBA _ (qc k)).symm)⟩);rintro ⟨c,N⟩ N1 c6 X w F; dsimp only at F X ⊢;obtain ⟨hc,I⟩:=F;refine bE w l g fun l g=>?_;refine zg 6 ?_;refine cz rfl (fun c2=>?_) fun c2=>?_
  ·refine zg 6 ?_;refine cN rfl g c ?_;refine aM rfl ((g.yat (c) om om).rd) (zg 7 ?_);refine aM rfl (Rd.own .here (by first|exact dJ (k) om om|exact iM (k) om om|exact jE (k) om om|rfl)) ?_;refine lw (k:=.u32) rfl .no rfl .v .v (fun _=>dc) (zg 4 ?_);refine cL rfl .here (by first|decide|(simp only [cO,bT,bP]; omega)) (by first|exact eK (k) om|exact mH (k) om|exact uP (k) om om|rfl) (zg 7 ?_);exact lpo (c+1,bA N k (N k <<< Int.toNat 8 ||| BitVec.setWidth 32 (a0.getD c 0))) (hF:=⟨fd,by (try dsimp only)<;>(rw [I,aAh,aHD,shB,K,aTi om]; rfl)⟩)
  refine zg 10 ?_;exact lpo (k+1,N) (hF:=⟨fd,by (try dsimp only)<;>(obtain rfl:c=4:=om; rw [I,J,aYv]; rfl)⟩)
 refine zg 7 ?_;obtain rfl:k=16:=by omega
 refine zg 5 ?_;refine lop (α:=Nat×(Nat->W)) (fun a=>[(8,true,.int .i64 ((16+a.1:Nat):Int))]) (fun a=>[.blk b4 (cl (wa 64 a.2) 458)]) (fun a M=>(a.1<=48)∧(a.2=pQ (fun i=>xs.getD i 0) a.1)) (fun a=>48-a.1) (0,_) [(0,true,_),(4,true,_)] [_] ?_;rintro ⟨e,y⟩ N2 c0 T t E; dsimp only at E T ⊢;obtain ⟨a5,J⟩:=E;have l:=l.mono t;refine zg 7 ?_;refine cz rfl (fun c3=>?_) fun c3=>?_
 ·refine zg 5 ?_;refine Wk.d0 10 (zg 1 ?_);refine eN (((1+e):Nat):Int) rfl om (cP om om) (zg 1 ?_);refine aM rfl (Rd.own .here (by first|exact dJ ((1+e)) om om|exact iM ((1+e)) om om|exact jE ((1+e)) om om|rfl)) (zg 1 ?_);refine eN (((14+e):Nat):Int) rfl om (cP om om) (zg 1 ?_);refine aM rfl (Rd.own .here (by first|exact dJ ((14+e)) om om|exact iM ((14+e)) om om|exact jE ((14+e)) om om|rfl)) (zg 4 ?_);refine Wk.draw (mc:=⟨false,false⟩) [0,1,2,3,4,5,6,7,8,9,10,12,15,16,19,21,24,25,11,13,14,17,18,20,22,23,26,27,28,29] dM kr (zg 2 ?_);refine eN ((e:Nat):Int) rfl om (cP om om) (zg 1 ?_);refine aM rfl (Rd.own .here (by first|exact dJ (e) om om|exact iM (e) om om|exact jE (e) om om|rfl)) (zg 1 ?_);refine eN (((9+e):Nat):Int) rfl om (cP om om) (zg 1 ?_);refine aM rfl (Rd.own .here (by first|exact dJ ((9+e)) om om|exact iM ((9+e)) om om|exact jE ((9+e)) om om|rfl)) (zg 4 ?_);refine oK (k:=.u32) rfl .no .v .v (fun _=>dc) (zg 3 ?_);refine oK (k:=.u32) rfl .no .v .v (fun _=>dc) ?_;refine aK rfl (sZ _ 7 _ dc) ?_;refine aK rfl (sZ _ 18 _ dc) (zg 3 ?_);refine aK rfl (sZ _ 17 _ dc) ?_;refine aK rfl (sZ _ 19 _ dc) (zg 4 ?_);refine cL rfl .here (by first|decide|(simp only [cO,bT,bP]; omega)) (by first|exact eK (((16+e:Nat))) om|exact mH (((16+e:Nat))) om|exact uP (((16+e:Nat))) om om|rfl) (zg 8 ?_);refine We.lpo (e+1,_) (cB rfl (by first|rfl|exact fE om) es) dG ?_ ?_ ?_
  ·first|omega|(dsimp only; omega)
  ·exact t
  refine ⟨?_,?_⟩
  ·(try dsimp only)<;>(first|omega|rfl|assumption|(simp; done))
  (try dsimp only)<;>(rw [J]; rfl)
 refine zg 6 ?_;obtain rfl:e=48:=by omega
 refine Wk.d0 48 (zg 4 ?_);refine aM rfl (Rd.own aE (by first|exact dJ (0) om om|exact iM (0) om om|exact jE (0) om om|rfl)) (zg 4 ?_);refine aM rfl (Rd.own aE (by first|exact dJ (1) om om|exact iM (1) om om|exact jE (1) om om|rfl)) (zg 4 ?_);refine aM rfl (Rd.own aE (by first|exact dJ (2) om om|exact iM (2) om om|exact jE (2) om om|rfl)) (zg 4 ?_);refine aM rfl (Rd.own aE (by first|exact dJ (3) om om|exact iM (3) om om|exact jE (3) om om|rfl)) (zg 4 ?_);refine aM rfl (Rd.own aE (by first|exact dJ (4) om om|exact iM (4) om om|exact jE (4) om om|rfl)) (zg 4 ?_);refine aM rfl (Rd.own aE (by first|exact dJ (5) om om|exact iM (5) om om|exact jE (5) om om|rfl)) (zg 4 ?_);refine aM rfl (Rd.own aE (by first|exact dJ (6) om om|exact iM (6) om om|exact jE (6) om om|rfl)) (zg 4 ?_);refine aM rfl (Rd.own aE (by first|exact dJ (7) om om|exact iM (7) om om|exact jE (7) om om|rfl)) (zg 17 ?_);refine lop (α:=Nat×(Nat->W)) (fun a=>[(11,true,U (a.2 0)),(12,true,U (a.2 1)),(13,true,U (a.2 2)),(14,true,U (a.2 3)),(15,true,U (a.2 4)),(16,true,U (a.2 5)),(17,true,U (a.2 6)),(18,true,U (a.2 7)),(131,true,.int .i64 (a.1:Int))]) (fun _=>[]) (fun a M=>(a.1<=64)∧(a.2=aD0 y s a.1)) (fun a=>64-a.1) (0,s) [(0,true,_),(4,true,_)] [_,_] ?_;rintro ⟨q,x⟩ N3 b9 S v D; dsimp only at D S ⊢;obtain ⟨a4,ex⟩:=D;have l:=l.mono v;refine zg 6 ?_;refine cz rfl (fun c4=>?_) fun c4=>?_
 ·refine zg 11 ?_;refine Wk.draw (mc:=⟨false,false⟩) [0,1,3,6,10,11,12,13,14,15,16,18,19,20,22,23,24,2,4,5,7,8,9,17,21,25,26] dM kr (zg 13 ?_);refine aM rfl ((l.wat (q) om om).rd) (zg 2 ?_);refine aM rfl (Rd.own .here (by first|exact dJ (q) om om|exact iM (q) om om|exact jE (q) om om|rfl)) ?_;refine aK rfl (sZ _ 6 _ dc) ?_;refine aK rfl (sZ _ 11 _ dc) (zg 1 ?_);refine aK rfl (sZ _ 25 _ dc) (zg 11 ?_);refine aK rfl (sZ _ 2 _ dc) (zg 1 ?_);refine aK rfl (sZ _ 13 _ dc) (zg 2 ?_);refine aK rfl (sZ _ 22 _ dc) (zg 42 ?_);exact lpo (q+1,aMB x (kW q) (y q)) (hF:=⟨fd,by (try dsimp only)<;>(rw [ex]; rfl)⟩)
 refine zg 6 ?_;obtain rfl:q=64:=by omega
 refine zg 9 ?_;refine eH (wa 8 x) rfl .no aOq (.cons (.u rfl) rfl (.cons (.u rfl) rfl (.cons (.u rfl) rfl (.cons (.u rfl) rfl (.cons (.u rfl) rfl (.cons (.u rfl) rfl (.cons (.u rfl) rfl (.cons (.u rfl) rfl .nil)))))))) rfl (by simp [rR,put,wa,List.range_succ]) (zg 4 ?_);refine lop (α:=Nat×(Nat->W)) (fun a=>[(200,true,.int .i64 (a.1:Int))]) (fun a=>[.blk L (cl (wa 8 a.2++[O,nn]) 425)]) (fun a M=>(a.1<=8)∧(a.2=fun i=>if i<a.1 then s i+x i else s i)) (fun a=>8-a.1) (0,s) [(0,true,_),(199,true,_)] [_] ?_ (hF:=⟨fd,by (try dsimp only)<;>(funext i; simp)⟩);rintro ⟨m,z⟩ N4 b8 Q r C; dsimp only at C Q ⊢;obtain ⟨a3,ez⟩:=C;have l:=l.mono r;refine zg 6 ?_;refine cz rfl (fun c5=>?_) fun c5=>?_
 ·refine zg 7 ?_;refine ix rfl .no (zr rfl) (za rfl) .v .v om om (fun _=>aEC (n:=8) (y:=x) (j:=m) om) (zg 4 ?_);refine Wk.d0 12 (zg 5 ?_);refine aM rfl (Rd.own .here (by first|exact dJ (m) om om|exact iM (m) om om|exact jE (m) om om|rfl)) (zg 5 ?_);refine cL rfl .here (by first|decide|(simp only [cO,bT,bP]; omega)) (by first|exact eK (m) om|exact mH (m) om|exact uP (m) om om|rfl) (zg 7 ?_);refine We.lpo (m+1,_) (cB rfl (by first|rfl|exact fE om) es) dG ?_ ?_ ?_
  ·first|omega|(dsimp only; omega)
  ·exact r
  refine ⟨?_,?_⟩
  ·(try dsimp only)<;>(first|omega|rfl|assumption|(simp; done))
  (try dsimp only)<;>(rw [ez]; exact bA9)
 refine zg 5 ?_;refine aR bH ?_;obtain rfl:m=8:=by omega
 refine ⟨?_,rfl⟩;rw [ez,ex,J,bBP (f:=fun i=>if i<8 then s i+aD0 (pQ (fun i=>xs.getD i 0) 48) s 64 i else s i) (f':=uK s (fun i=>xs.getD i 0)) (fun i hi=>by rw [if_pos hi]; rfl)]
def aW:(prog.info? 5).bind (·.zero)=some (.int .u8 0):=by kernel_rfl
def aQp (s:Nat->W) (xs:List Y) (v e nn:Value) (c:Nat) (G:PM) (k:RdNP G 0 0 (wa 64 kW)) (j:64<=xs.length):Ct prog 323 ([.pointer (some ⟨c,0,none⟩),v]:List Value).toArray G [rB v 5 xs,.blk c (cl (wa 8 s++[e,nn]) 425)] (fun _ μ' u=>∃ ν,μ'=rB v 5 xs :: ν∧ν=[.blk c (cl (wa 8 (uK s (fun i=>xs.getD i 0))++[e,nn]) 425)]∧u=.tuple #[]) :=
 aAp (fun h l a f g=>by subst f; exact aEh _ _ _ _ _ _ _ g (k.mono a) j)
def aB6 {y:Nat->W} {a b v:Value}:(wa 8 y++[a,b]).set 8 v=wa 8 y++[v,b]:=aN8 rfl
def aB7 {y:Nat->W} {a b v:Value}:(wa 8 y++[a,b]).set 9 v=wa 8 y++[a,v]:=aN8 rfl
def aGt {zs:List Y} {j m b:Nat} {a:Value} (c:zs.length / 64=j) (hm:m=zs.length):Res.blk b (cl (wa 8 (gU zs j)++[a,.int .i64 (m:Int)]) T)=.blk b (cl (jQ zs a) T):=by
 subst c; subst hm; rfl
theorem aLr {zs L:List Y} {j b:Nat} {a nn:Value} (c:L=zs.drop (64*j)) (h:64<=L.length):Res.blk b (cl (wa 8 (uK (gU zs j) (fun i=>L.getD i 0))++[a,nn]) T)=.blk b (cl (wa 8 (gU zs (j+1))++[a,nn]) T):=by
 grind[gU,aGk,aCh]
theorem aXX {L:List Y} {b k:Nat} {a nn:Value} (c:L=fS xs++ys.take k) (f:k=min (64-(fS xs).length) ys.length) (h:64<=L.length):Res.blk b (cl (wa 8 (uK (gU xs (xs.length / 64)) (fun i=>L.getD i 0))++[a,nn]) T)=.blk b (cl (wa 8 (gU (xs++ys) (xs.length / 64+1))++[a,nn]) T):=by
 have e:=aAR xs;rw [c,qa,qq] at h;rw [gU,aGm om,aGk (b':=aCh (xs++ys) (xs.length / 64))];intro i g;rw [c,aCh];simp only [List.getD_eq_getElem?_getD,List.getElem?_append,List.getElem?_take,e];by_cases j:i<xs.length%64
 ·grind[fS]
 grind
theorem aXZ {L:List Y} (a:L=fS xs++ys.take (min (64-(fS xs).length) ys.length)) (h:L.length<64):L=fS (xs++ys)∧(xs++ys).length / 64=xs.length / 64∧gU (xs++ys) (xs.length / 64)=gU xs (xs.length / 64):=by
 have c:=aAR xs;rw [a,qa,qq] at h;have e:(xs++ys).length / 64=xs.length / 64:=by grind
 grind[aGm,fS]
theorem aXV (h:64<=(fS xs).length+ys.length):ys.drop (min (64-(fS xs).length) ys.length)=(xs++ys).drop (64*(xs.length / 64+1)):=by
 have a:=aAR xs;rw [List.drop_append,List.drop_of_length_le (show xs.length<=64*(xs.length / 64+1) by omega),qy];grind
theorem aXW (h:(fS xs).length=0):ys=(xs++ys).drop (64*(xs.length / 64)):=by
 grind[aAR,List.drop_left]
theorem aXa {b:Nat} {a nn:Value} (h:(fS xs).length=0):Res.blk b (cl (wa 8 (gU xs (xs.length / 64))++[a,nn]) T)=.blk b (cl (wa 8 (gU (xs++ys) (xs.length / 64))++[a,nn]) T):=by
 grind[aGm]
def aGS (xs ys:List Y) (h:Sh) (vp:Value) (P:Nat) (G:PM) (p:SlR G 1 aH h ys) (f:RdNP G 0 0 (wa 64 kW)) (hl:xs.length+ys.length<=4611686018427387904):Ct prog 298 ([.pointer (some ⟨P,0,none⟩),h.val ys.length]:List Value).toArray G [.blk P (cl (jQ xs vp) 425),rB vp 5 (fS xs)] (fun _ μ' u=>∃ vp',μ'=[.blk P (cl (jQ (xs++ys) vp') 425),rB vp' 5 (fS (xs++ys))]∧u=.tuple #[]):=by
 refine aD func298 ntmps298 fun w0 b5=>?_;have hr:=aAR xs;refine zg 11 ?_;refine cL rfl .here (by first|decide|(simp only [jQ,cO,bT,bP]; omega)) (by first|exact aB6|exact aB7) (zg 9 ?_);refine lr rfl .no (zn rfl) .v aE (zg 3 ?_);refine cz rfl (fun c1=>?_) fun c1=>?_
 ·refine zg 6 ?_;refine lr rfl .no (zn rfl) .v aE ?_;refine eN (((64-(fS xs).length):Nat):Int) rfl om (cP om om) (zg 2 ?_);refine sN ((64-(fS xs).length)) (ys.length) rfl .no .v .v om om (zg 4 ?_);refine Wk.d0 12 (zg 7 ?_);refine kE ((min (64-(fS xs).length) ys.length)) rfl .no (zl rfl) p .v .v om om ?_;intro b8 a2 v t F;have t:=t rfl;refine dE rfl (zl rfl) aW .v .v aE F.sc (by (try simp only [bP,bL]); omega) ?_;intro T Q a7 n;have a8:Q.length=(fS xs).length+a2.length:=by rw [n,qa]
  refine zg 2 ?_;refine cW rfl .here aE (by first|decide|(simp only [jQ,cO,bT,bP]; omega)) (by first|exact aB6|exact aB7) (zg 6 ?_);refine kD ((min (64-(fS xs).length) ys.length)) rfl .no (zl rfl) p .v .v om om ?_;intro b7 d0 O r i;have r:=r rfl;refine zg 10 ?_;refine lr rfl .no (zn rfl) .v aE (zg 3 ?_);refine cz rfl (fun c2=>?_) fun c2=>?_
  ·refine zg 1 ?_;refine aR dG ?_;obtain ⟨e1,e2,e3⟩:=aXZ (n.trans (by rw [v])) om;exact ⟨T,by rw [← e1,←e3,aGt e2 (by simp)],rfl⟩
  refine zg 9 ?_;refine aP rfl (dY aE .here) (aQp _ Q _ _ _ _ _ f om) ?_;rintro _ d6 a5 J ⟨_,rfl,rfl,rfl⟩;refine aX J p f i fun p f i=>?_;refine zg 6 ?_;refine cL rfl aE (by first|decide|(simp only [jQ,cO,bT,bP]; omega)) (by first|exact aB6|exact aB7) (zg 1 ?_);refine nW 5 (zg 3 ?_);refine lop (α:=Nat×Sh×List Y×Value) (fun a=>[(1,true,a.2.1.val a.2.2.1.length)]) (fun a=>[.blk P (cl (wa 8 (gU (xs++ys) a.1)++[a.2.2.2,.int .i64 ((xs.length+ys.length:Nat):Int)]) 425)]) (fun a Gl=>(64*a.1<=xs.length+ys.length)∧(a.2.2.1=(xs++ys).drop (64*a.1))∧(SlR Gl 1 aH a.2.1 a.2.2.1)) (fun a=>a.2.2.1.length) (xs.length / 64+1,_,_,_) [(0,true,_)] [_] ?_ (hM:=(mS aE (aXX (n.trans (by rw [v])) rfl om) bH)) (hF:=⟨fd,by (try dsimp only)<;>(rw [O]; exact aXV om),i⟩);rintro ⟨j,h',L,S⟩ N0 d5 Z I M; dsimp only at M Z ⊢;obtain ⟨hj,q,k⟩:=M;refine bE I p f fun p f=>?_;have lL:L.length=xs.length+ys.length-64*j:=by rw [q]; simp
  refine zg 8 ?_;refine cz rfl (fun c3=>?_) fun c3=>?_
  ·refine zg 7 ?_;refine aP rfl (aZ .here) (aEh _ L h' _ _ _ _ k f om) ?_;rintro _ a4 C l ⟨rfl,rfl⟩;refine aX l p f k fun p f k=>?_;refine zg 5 ?_;refine kD (64) rfl .no (zl rfl) k .v .v om om ?_;intro x A m c g;have c:=c rfl;refine zg 2 ?_;exact lpo (j+1,x,A,S) (hM:=(mS .here (aLr q om) bH)) (hF:=⟨fd,by (try dsimp only)<;>(rw [m,q,yk]; congr 1),g⟩)
  refine zg 7 ?_;refine rQ rfl (zl rfl) fun a1=>zg 1 ?_;refine vG rfl (zl rfl) aW .v .v .here k.sc (by (try simp only [bP,bL]); omega) ?_;intro w y _ D e;have E:y.length=L.length:=by rw [e]
  refine zg 2 ?_;refine cW rfl .here aE (by first|decide|(simp only [jQ,cO,bT,bP]; omega)) (by first|exact aB6|exact aB7) (zg 2 ?_);refine aR dG ?_;have N:(xs++ys).length / 64=j:=by rw [qa]; omega
  exact ⟨w,by rw [aGt N (by simp),e,q,fS,N],rfl⟩
 refine zg 4 ?_;refine lop (α:=Nat×Sh×List Y×Value) (fun a=>[(1,true,a.2.1.val a.2.2.1.length)]) (fun a=>[.blk P (cl (wa 8 (gU (xs++ys) a.1)++[a.2.2.2,.int .i64 ((xs.length+ys.length:Nat):Int)]) 425)]) (fun a Gl=>(64*a.1<=xs.length+ys.length)∧(a.2.2.1=(xs++ys).drop (64*a.1))∧(SlR Gl 1 aH a.2.1 a.2.2.1)) (fun a=>a.2.2.1.length) (xs.length / 64,_,_,_) [(0,true,_)] [_] ?_ (hM:=(mS .here (aXa om) bH)) (hF:=⟨fd,aXW om,p⟩);rintro ⟨j,h',L,S⟩ N1 d4 X H K; dsimp only at K X ⊢;obtain ⟨hj,q,k⟩:=K;have f:=f.mono H;have lL:L.length=xs.length+ys.length-64*j:=by rw [q]; simp
 refine zg 8 ?_;refine cz rfl (fun c4=>?_) fun c4=>?_
 ·refine zg 7 ?_;refine aP rfl (aZ .here) (aEh _ L h' _ _ _ _ k f om) ?_;rintro _ a4 C l ⟨rfl,rfl⟩;refine bE l f k fun f k=>?_;refine zg 5 ?_;refine kD (64) rfl .no (zl rfl) k .v .v om om ?_;intro x A m c g;have c:=c rfl;refine zg 2 ?_;exact lpo (j+1,x,A,S) (hM:=(mS .here (aLr q om) bH)) (hF:=⟨fd,by (try dsimp only)<;>(rw [m,q,yk]; congr 1),g⟩)
 refine zg 7 ?_;refine rQ rfl (zl rfl) fun a1=>zg 1 ?_;refine vG rfl (zl rfl) aW .v .v .here k.sc (by (try simp only [bP,bL]); omega) ?_;intro w y _ D e;have E:y.length=L.length:=by rw [e]
 refine zg 2 ?_;refine cW rfl .here aE (by first|decide|(simp only [jQ,cO,bT,bP]; omega)) (by first|exact aB6|exact aB7) (zg 2 ?_);refine aR dG ?_;have N:(xs++ys).length / 64=j:=by rw [qa]; omega
 exact ⟨w,by rw [aGt N (by simp),e,q,fS,N],rfl⟩
def aEL:dK prog 425=some ([.int .u32 0,.int .u32 0,.int .u32 0,.int .u32 0,.int .u32 0,.int .u32 0,.int .u32 0,.int .u32 0,.slice none 0 0,.int .i64 0]):=by kernel_rfl
def bCQ:cU prog 425 [0]=some ([.int .u32 0,.int .u32 0,.int .u32 0,.int .u32 0,.int .u32 0,.int .u32 0,.int .u32 0,.int .u32 0,.slice none 0 0,.int .i64 0],[(0,8)]):=by kernel_rfl
def kG:dK prog 81=some (ba 32 (fun _=>0#8)):=by kernel_rfl
def bCR:cU prog 425 [0,1,2]=some ([.int .u32 0,.int .u32 0,.int .u32 0,.int .u32 0,.int .u32 0,.int .u32 0,.int .u32 0,.int .u32 0,.slice none 0 0,.int .i64 0],[(0,8),(8,1),(9,1)]):=by kernel_rfl
def aEf (G:PM):Ct prog 297 ([]:List Value).toArray G [] (fun _ μ' u=>μ'=[]∧u=.agg (jQ [] (.slice none 0 0)).toArray):=by
 refine aD func297 ntmps297 fun c a=>?_;refine zg 2 ?_;refine al rfl aEL fun b0=>zg 4 ?_;refine eH (wa 8 ivW) rfl .no aOq (.cons .v rfl (.cons .v rfl (.cons .v rfl (.cons .v rfl (.cons .v rfl (.cons .v rfl (.cons .v rfl (.cons .v rfl .nil)))))))) rfl (by rfl) ?_;refine eH (jQ [] (.slice none 0 0)) rfl .no bCQ (.cons .v rfl .nil) rfl (by rfl) ?_;refine dS rfl .here (by rfl) (uE (yM _ _) (oH rfl rfl)) (zg 3 ?_);refine jK ?_;exact ⟨rfl,rfl⟩
def aPP (G:PM):Ct prog 283 ([]:List Value).toArray G [] (fun _ μ' u=>∃ b,μ'=[.blk b (cl (jQ [] (.slice none 0 0)) 425),rB (.slice none 0 0) 5 (fS [])]∧u=.pointer (some ⟨b,0,none⟩)):=by
 refine aD func283 ntmps283 fun c a=>?_;refine zg 7 ?_;refine aK rfl (aEf _) ?_;refine al rfl aEL ?_; intro b1;refine dS rfl .here (by rfl) (uE (yM _ _) (oH rfl rfl)) (zg 6 ?_);refine nW 5 (zg 2 ?_);refine aR (mS aE rfl bH) ?_;exact ⟨_,rfl,rfl⟩
def aHz (xs ys:List Y) (h:Sh) (g:Value) (f:Nat) (G:PM) (a:SlR G 1 aH h ys) (c:RdNP G 0 0 (wa 64 kW)) (l:xs.length+ys.length<=4611686018427387904):Ct prog 284 ([.pointer (some ⟨f,0,none⟩),h.val ys.length]:List Value).toArray G [.blk f (cl (jQ xs g) 425),rB g 5 (fS xs)] (fun _ μ' u=>∃ vp',μ'=[.blk f (cl (jQ (xs++ys) vp') 425),rB vp' 5 (fS (xs++ys))]∧u=.tuple #[]):=by
 refine aD func284 ntmps284 fun m k=>?_;refine zg 10 ?_;refine aP rfl (dY .here .here) (aGS _ _ _ _ _ _ a c l) ?_;rintro _ n i e ⟨j,rfl,rfl⟩;refine bE e a c fun a c=>?_;refine zg 2 ?_;refine aR dG ?_;exact ⟨j,rfl,rfl⟩
def aZY {a:Value}:((jQ xs a).drop 0).take 8=wa 8 (gU xs (xs.length / 64)):=by
 rfl
def aZU {zs:List Value} {v:Value} (h:zs.length=10):rR zs [(0,8),(8,1),(9,1)] [wa 8 (gU xs (xs.length / 64)),[v],[.int .i64 (xs.length:Int)]]=jQ xs v:=by
 match zs,h with
 | [a,b,c,d,e,f,g,h,i,j],_=>rfl
def aVS {n q:Nat} (h:q<8):aFw n q=((BitVec.ofInt 64 (n:Int)*8#64) >>> (56-8*(q:Int)).toNat).setWidth 8:=by
 rw [show (56-8*(q:Int)).toNat=56-8*q by omega]; rfl
def aHp (xs:List Y) (N:Value) (bs:Nat) (G:PM) (c:RdNP G 0 0 (wa 64 kW)) (hl:xs.length<=1152921504606846976):Ct prog 285 ([.pointer (some ⟨bs,0,none⟩)]:List Value).toArray G [.blk bs (cl (jQ xs N) 425),rB N 5 (fS xs)] (fun _ μ' u=>μ'=[.blk bs (cl (jQ xs N) 425),rB N 5 (fS xs)]∧u=.agg (ba 32 (nT xs)).toArray):=by
 refine aD func285 ntmps285 fun w0 c9=>?_;have hr:=aAR xs;have hz:tG xs.length=(119-xs.length%64)%64:=rfl;refine zg 2 ?_;refine al rfl kG fun b2=>zg 4 ?_;refine aK rfl (aEf _) ?_;refine al rfl aEL ?_; intro b3;refine dS rfl .here (by rfl) (uE (yM _ _) (oH rfl rfl)) (zg 10 ?_);refine uR bU ?_; intro c7 c5 J a7 x; subst J;refine Wk.draw (mc:=⟨false,true⟩) [0,1,2,3,5,6,7,8,10,11,12,13,4,9,14,15] dM kr (zg 3 ?_);refine aY rfl (RdN.part (n:=8) (cs':=wa 8 (gU xs (xs.length / 64))) aL (aZY)) (by first|exact qE|exact qL|rfl) (zg 8 ?_);refine rQ rfl (zl rfl) ?_; intro e1;refine vG rfl (zl rfl) aW .v .v .here (vD gM x) (by (try simp only [bP,bL]); omega) ?_;intro S a2 _ h p;have b6:a2.length=(fS xs).length:=by rw [p]
 refine eH (jQ xs S) rfl .no bCR (.cons .v rfl (.cons .v (tM h) (.cons .v rfl .nil))) rfl (aZU rfl) ?_;refine dS rfl aE (by rfl) (uE (yM _ _) (oH h rfl)) (zg 3 ?_);subst p;refine zg 10 ?_;refine mkY (1) (72) rfl (zl rfl) aW .v .v (by first|rfl|omega) (by first|rfl|omega) om om ?_; intro e0;have a8:(xl (1) (0#8:Y)).length=1:=zu;refine zg 6 ?_;refine iO rfl om om ?_;refine s1r (z:=128#8) rfl .v .v (zs rfl) .here om fun a1 g O=>zg 4 ?_;refine lop (α:=Nat×Value×List Y) (fun a=>[(5,true,a.2.1)]) (fun a=>[rB a.2.1 5 a.2.2]) (fun a Gl=>(a.1<=tG xs.length)∧(a.2.2=128#8 :: xl a.1 0#8)) (fun a=>tG xs.length-a.1) (0,_,_) [(2,true,_),(3,true,_),(4,true,_)] [_,_,_,_,_] ?_ (hF:=⟨qo _,by (try dsimp only)<;>(rw [g]; rfl)⟩);rintro ⟨j,v,L⟩ N0 e4 Z D I; dsimp only at I Z ⊢;obtain ⟨hj,w⟩:=I;have c:=c.mono D;have lL:L.length=j+1:=by rw [w]; simp
 have hz:tG xs.length=(119-xs.length%64)%64:=rfl;refine zg 6 ?_;refine lr rfl .no (zn rfl) .v .here (zg 1 ?_);refine rmn ((xs.length+L.length)) (64) rfl .no .v .v om om (fun _=>by first|decide|omega) (zg 3 ?_);refine cz rfl (fun c1=>?_) fun c1=>?_
 ·refine zg 5 ?_;refine Go.Tan.b1 rfl (zl rfl) aW .v rfl rfl dc ?_; intro d9;refine dE rfl (zl rfl) aW .v .v aE (Sc.one (y:=0#8) .here) (by show _+1<=_; omega) ?_;intro Q M a6 m;have b5:M.length=L.length+1:=by rw [m,qa]; first|rfl | simp [bL]
  refine zg 3 ?_;exact lpo (j+1,Q,M) (hm:=by (try dsimp only); omega) (hF:=⟨fd,by (try dsimp only)<;>(rw [m,w,ww,←List.replicate_succ'])⟩)
 refine zg 12 ?_;refine lop (α:=Nat×Value×List Y) (fun a=>[(5,true,a.2.1),(6,true,.int .i64 (56-8*(a.1:Int)))]) (fun a=>[rB a.2.1 5 a.2.2]) (fun a Gl=>(a.1<=8)∧(a.2.2=(128#8 :: xl (tG xs.length) 0#8)++vV xs.length a.1)) (fun a=>8-a.1) (0,_,_) [(2,true,_),(3,true,_),(4,true,_)] [_,_,_,_,_] ?_ (hF:=⟨fd,by (try dsimp only)<;>(rw [w,show j=tG xs.length by omega]; simp [vV])⟩);rintro ⟨q,v,L⟩ N1 e3 X C H; dsimp only at H X ⊢;obtain ⟨hq,w⟩:=H;have c:=c.mono C;have lL:L.length=tG xs.length+1+q:=by rw [w]; simp [aKW]; omega
 refine zg 7 ?_;refine cz rfl (fun c2=>?_) fun c2=>?_
 ·refine zg 8 ?_;refine oK (k:=.u64) rfl .no .v .v om (zg 1 ?_);refine Go.Tan.b1 rfl (zl rfl) aW .v rfl rfl dc ?_; intro d8;refine dE rfl (zl rfl) aW .v .v aE (Sc.one .here) (by show _+1<=_; omega) ?_;intro P K a5 l;have a9:K.length=L.length+1:=by rw [l,qa]; first|rfl | simp [bL]
  refine zg 9 ?_;exact lpo (q+1,P,K) (hF:=⟨fd,by (try dsimp only)<;>(rw [l,w,aVR,←qr,aVS om]; rfl)⟩)
 refine zg 6 ?_;have e8:L=aCB xs.length:=by rw [w,show q=8 by omega]; rfl
 subst e8;have lt:=bAC xs.length;have hz:tG xs.length=(119-xs.length%64)%64:=rfl;refine lB .here ?_; intro a3 c0 e t r; subst t;have c:=c.mono e;refine zg 2 ?_;refine aP rfl (dY .here .here) (aGS xs (aCB xs.length) _ _ _ _ r c om) ?_;rintro _ e5 a4 E ⟨vq,rfl,rfl⟩;have c:=c.mono E;refine zg 4 ?_;refine al rfl kG fun b7=>zg 9 ?_;refine lop (α:=Nat×(Nat->Y)) (fun a=>[(57,true,.int .i64 (a.1:Int))]) (fun a=>[.blk b7 (cl (ba 32 a.2) 81)]) (fun a Gl=>(a.1<=32)∧(a.2=iZ (nT xs) a.1)) (fun a=>32-a.1) (0,fun _=>0#8) [(2,true,_),(3,true,_),(7,true,_)] [_,_,_,_,_] ?_;rintro ⟨i,f⟩ N2 e2 T A F; dsimp only at F T ⊢;obtain ⟨hi,ef⟩:=F;have c:=c.mono A;refine zg 6 ?_;refine cz rfl (fun c3=>?_) fun c3=>?_
 ·refine zg 13 ?_;refine qun (i) (4) rfl .no .v .v om om (fun _=>by first|decide|omega) om (zg 2 ?_);refine aM rfl (Rd.own aE (by first|exact dJ ((i / 4)) om om|exact iM ((i / 4)) om om|exact jE ((i / 4)) om om|rfl)) (zg 1 ?_);refine rmn (i) (4) rfl .no .v .v om om (fun _=>by first|decide|omega) (zg 1 ?_);refine eN (((24-8*(i%4)):Nat):Int) rfl om (cP om om) ?_;refine oK (k:=.u32) rfl .no .v .v om (zg 2 ?_);refine cL rfl .here (by first|decide|(simp only [cO,bT,bP]; omega)) (by first|exact eK (i) om|exact mH (i) om|exact uP (i) om om|rfl) (zg 7 ?_);exact lpo (i+1,bA f i (nT xs i)) (hF:=⟨fd,by (try dsimp only)<;>(rw [ef]; rfl)⟩)
 refine zg 12 ?_;refine fMc (mS gM rfl (mS gM rfl mN)) ?_;obtain rfl:i=32:=by omega
 exact ⟨rfl,by rw [ef,mG (fun i hi=>(mR (nT xs) hi).symm)]; rfl⟩
def aAs:bY prog 148=some (5,1,1):=by kernel_rfl
def bCm:jC prog 5=some 1:=by kernel_rfl
def mZ (xs:List Y) (h:Sh) (n:BitVec 64) (a:Nat) (G:PM) (E:SlR G 1 aH h xs) (M:xs.length<=140737488351232) (hm:a<=8):Ct prog 78 ([h.val xs.length,uv .u64 n,.int .i64 (a:Int)]:List Value).toArray G [] (PR 5 (fun L=>L=xs++cM n a)):=by
 refine aD func78 ntmps78 fun J D=>?_;refine zg 7 ?_;refine rQ rfl (zl rfl) fun O=>zg 1 ?_;refine vG rfl (zl rfl) aW .v .v .here E.sc (by (try simp only [bP,bL]); omega) ?_;intro C q _ t f;have x:q.length=xs.length:=by rw [f]
 refine zg 7 ?_;refine sN (a) (8) rfl .no .v .v om om ?_;refine xU (0) ((min a 8)) rfl .no .v .v om om (zg 4 ?_);refine lop (α:=Nat×Value×List Y×BitVec 64) (fun c=>[(1,true,uv .u64 c.2.2.2),(7,true,c.2.1),(14,true,.int .i64 (c.1:Int))]) (fun c=>[rB c.2.1 5 c.2.2.1]) (fun c Q=>(c.1<=a)∧(c.2.2.1=xs++cM n c.1)∧(c.2.2.2=n >>> (8*c.1))) (fun c=>a-c.1) (0,_,_,n) [(13,true,_)] [] ?_ (hF:=⟨fd,by (try dsimp only)<;>(rw [f]; simp [cM]),by (try dsimp only)<;>(simp)⟩);rintro ⟨k,v,L,m⟩ P I l y g; dsimp only at g l ⊢;obtain ⟨N,p,A⟩:=g;have K:L.length=xs.length+k:=by rw [p]; simp [jJ]
 refine zg 6 ?_;refine cz rfl (fun F=>?_) fun F=>?_
 ·refine zg 9 ?_;refine Go.Tan.b1 rfl (zl rfl) aW .v rfl rfl dc ?_; intro H;refine dE rfl (zl rfl) aW .v .v aE (Sc.one .here) (by show _+1<=_; omega) ?_;intro j i r e;have w:i.length=L.length+1:=by rw [e,qa]; first|rfl | simp [bL]
  refine zg 5 ?_;refine oK (k:=.u64) rfl .no .v .v (fun _=>dc) (zg 8 ?_);exact lpo (k+1,j,i,m >>> 8) (hF:=⟨fd,by (try dsimp only)<;>(rw [e,p,A,aTQ,qr]; rfl),by (try dsimp only)<;>(rw [A,←BitVec.shiftRight_add]; rfl)⟩)
 refine zg 12 ?_;refine aR bH ?_;obtain rfl:k=a:=by omega
 exact ⟨L,p,rfl⟩
def aHQ (l e:Nat->Y) (a:W) (h:Sh) (xs:List Y) (G:PM) (Z:SlR G 1 aH h xs) (hl:xs.length<=140737488351232):Ct prog 185 ([.agg (ba 32 l).toArray,.agg (ba 12 e).toArray,U a,h.val xs.length]:List Value).toArray G [] (PR 5 (fun L=>L=qA l e a xs)):=by
 refine aD func185 ntmps185 fun w0 X=>?_;refine zg 2 ?_;refine bD rfl ?_; intro b4;refine bD rfl fun b5=>zg 5 ?_;refine rQ rfl (zl rfl) fun a3=>zg 1 ?_;refine vG rfl (zl rfl) aW .v .v .here Z.sc (by (try simp only [bP,bL]); omega) ?_;intro Q F _ H n;have I:F.length=xs.length:=by rw [n]
 refine zg 5 ?_;refine uR .here ?_; intro g f q p k; subst q;obtain rfl:=n.symm;refine zg 6 ?_;refine lop (α:=Nat×Sh×List Y) (fun c=>[(2,true,U (a+qb 32 c.1)),(10,true,c.2.1.val (xs.length-64*c.1))]) (fun c=>[rB (g.val xs.length) 5 c.2.2]) (fun c Gl=>(c.2.2.length=xs.length)∧(c.2.2=nF l e a xs (64*c.1))∧(64*c.1<xs.length->c.2.1.oa=some ⟨f,64*c.1,none⟩)∧(xs.length-64*c.1<=c.2.1.cap)) (fun c=>xs.length-64*c.1) (0,g,xs) [(4,true,_),(5,true,_),(9,true,_)] [_,_] ?_ (hE:=(cB rfl (by simp) es)) (hF:=⟨by (try dsimp only)<;>rfl,(aRo _ _ _ _).symm,k,p⟩);rintro ⟨j,r,L⟩ N0 a7 D K y; dsimp only at y D ⊢;obtain ⟨lL,M,hr,w⟩:=y;refine zg 8 ?_;refine cz rfl (fun c1=>?_) fun c1=>?_
 ·refine zg 5 ?_;have A:64*j<xs.length:=by omega
  have O:=k om;have N:=hr A;obtain ⟨so,sc⟩:=g;obtain ⟨ro,t⟩:=r;simp only at O N;subst O; subst N;refine zg 4 ?_;refine aK rfl (aOX _ _ _ _) ?_;refine al rfl yQ fun a4=>zg 7 ?_;refine sN ((xs.length-64*j)) (64) rfl .no .v .v om om (zg 11 ?_);refine lop (α:=Nat×List Y) (fun c=>[(31,true,.int .i64 (c.1:Int))]) (fun c=>[rB (Sh.val ⟨some ⟨f,0,none⟩,sc⟩ xs.length) 5 c.2]) (fun c Gl=>(c.1<=min (xs.length-64*j) 64)∧(c.2=nF l e a xs (64*j+c.1))) (fun c=>64-c.1) (0,L) [(2,true,_),(4,true,_),(5,true,_),(9,true,_),(10,true,_),(11,true,_),(12,true,_),(30,true,_)] [_,_,_] ?_ (hF:=⟨qo _,by (try dsimp only)<;>(rw [M]; rfl)⟩);rintro ⟨i,P⟩ N1 a6 C J x; dsimp only at x C ⊢;obtain ⟨hi,m⟩:=x;have T:P.length=xs.length:=by rw [m,aIp]
  refine zg 6 ?_;refine cz rfl (fun c2=>?_) fun c2=>?_
  ·refine zg 10 ?_;refine Wk.d0 10 (zg 2 ?_);refine ih rfl .no aAs .v .v om om (fun _=>rfl) ?_;refine aM rfl (Rd.row .here (aKm (o:=64*j) (64*j+i) om om)) (zg 2 ?_);refine aM rfl (Rd.own aE (by first|exact dJ (i) om om|exact iM (i) om om|exact jE (i) om om|rfl)) (zg 1 ?_);refine ih rfl .no aAs .v .v om om (fun _=>rfl) ?_;refine s1r rfl .v .v bCm .here (by show 64*j+_*1<_; omega) fun L9 E S=>zg 7 ?_;exact lpo (i+1,L9) (hF:=⟨fd,by (try dsimp only)<;>(rw [E,m,show (Sh.o ⟨some ⟨f,64*j,none⟩,t⟩+(i:Int).toNat*1)=64*j+i from (by show 64*j+_*1=_; omega)]; exact aRn (xs:=xs) (j:=j) (i:=i) om om)⟩)
  refine zg 8 ?_;refine sd rfl .no aAs .v .v om om (zg 9 ?_);exact lpo (j+1,Sh.cut ⟨some ⟨f,64*j,none⟩,t⟩ (min (xs.length-64*j) 64) 1,P) (hE:=(cB rfl (by show U (a+qb 32 j+1#32)=U (a+qb 32 (j+1)); rw [BitVec.add_assoc,←vv]) (cB rfl (congrArg (Sh.val _) om) es))) (hM:=(mS .here (by rfl) (mS aE rfl (mS aE rfl mN)))) (hF:=⟨by (try dsimp only)<;>(rw [m,aIp]),by (try dsimp only)<;>(rw [m]; exact aRp om),by (try dsimp only)<;>(intro h3; have v:xs.length-64*j<=t:=w; exact aRv om om),by (try dsimp only)<;>(show _<=t-_; have v:xs.length-64*j<=t:=w; omega)⟩)
 refine zg 12 ?_;refine aR bH ?_;exact ⟨L,by rw [M,aRm om],rfl⟩
def aB2 (c:List (Sh×List Y)) (h:Sh) (G:PM) (g:SlP G h c) (f:RdNP G 0 0 (wa 64 kW)) (x:(cY c).length<=1152921504606846976) (H:c.length<=1000):Ct prog 255 ([h.val c.length]:List Value).toArray G [] (fun _ μ' u=>μ'=[]∧u=.agg (ba 32 (nT (cY c))).toArray):=by
 refine aD func255 ntmps255 fun E w=>?_;refine zg 2 ?_;refine al rfl kG fun b2=>zg 4 ?_;refine aK rfl (aEf _) ?_;refine al rfl aEL ?_; intro b3;refine dS rfl .here (by rfl) (uE (yM _ _) (oH rfl rfl)) (zg 1 ?_);refine nW 5 (zg 10 ?_);refine lop (α:=Nat×Value) (fun e=>[(9,true,.int .i64 (e.1:Int))]) (fun e=>[rB e.2 5 (fS (cY (c.take e.1))),.blk b3 (cl (jQ (cY (c.take e.1)) e.2) 425)]) (fun e K=>(e.1<=c.length)) (fun e=>c.length-e.1) (0,.slice none 0 0) [(2,true,_),(3,true,_),(7,true,_),(8,true,_)] [_] ?_ (hM:=(mS .here (by simp [fS,cY]) dG));rintro ⟨k,F⟩ J A q j n; dsimp only at n q ⊢;have I:=n;refine bE j g f fun g f=>?_;refine zg 6 ?_;refine cz rfl (fun y=>?_) fun y=>?_
 ·refine zg 6 ?_;refine qG rfl om om (g.sl.nn (k:=k) om) ?_;obtain ⟨v,a⟩:=cE (k:=k) (xs:=c) om;have i:=g.get a;refine aM rfl ((g.at (k) om a).rd) (zg 5 ?_);refine aP rfl (dY aE .here) (aGS _ _ _ _ _ _ i f (by have:=aEr a; omega)) ?_;rintro _ D t m ⟨p,rfl,rfl⟩;have f:=f.mono m;refine zg 7 ?_;exact lpo (k+1,p) (hM:=(mS aE (by rw [zE a]) (mS .here (by rw [zE a]) bH)))
 refine zg 6 ?_;obtain rfl:k=c.length:=by omega
 rw [qz];refine zg 1 ?_;refine aP rfl (dY aE .here) (aHp _ _ _ _ f x) ?_;rintro _ C r l ⟨rfl,rfl⟩;have f:=f.mono l;refine zg 4 ?_;refine jK ?_;exact ⟨rfl,rfl⟩
def tK:(prog.info? 148).bind (·.zero)=some (.slice none 0 0):=by kernel_rfl
def SlP.one {b:Nat} {a:List Y} (c:PM.le G (G.add b (cl [h1.val a.length] T))) (e:SlR G 1 aH h1 a):SlP (G.add b (cl [h1.val a.length] T)) ⟨some ⟨b,0,none⟩,1⟩ [(h1,a)] :=
 ⟨gN (T:=T) (bI _ _ _) (fun _ _=>rfl) (by simp),fun p f=>by rw [qd.1 f]; exact e.mono c⟩
def aPV {b:Nat} {h2:Sh} {c:List Y} (a:PM.le G (G.add b (cl [h1.val e.length,h2.val c.length] T))) (h:SlR G 1 aH h1 e) (f:SlR G 1 aH h2 c):SlP (G.add b (cl [h1.val e.length,h2.val c.length] T)) ⟨some ⟨b,0,none⟩,2⟩ [(h1,e),(h2,c)] :=
 ⟨gN (T:=T) (bI _ _ _) (fun _ _=>rfl) (by simp),fun p g=>by
  rcases qe.1 g with rfl | g
  ·exact h.mono a
  ·rw [qd.1 g]; exact f.mono a⟩
def SlP.four {b:Nat} {h2 h3 c:Sh} {h g f:List Y} (a:PM.le G (G.add b (cl [h1.val h.length,h2.val g.length,h3.val f.length,c.val e.length] T))) (m:SlR G 1 aH h1 h) (k:SlR G 1 aH h2 g) (j:SlR G 1 aH h3 f) (i:SlR G 1 aH c e) :
  SlP (G.add b (cl [h1.val h.length,h2.val g.length,h3.val f.length,c.val e.length] T)) ⟨some ⟨b,0,none⟩,4⟩ [(h1,h),(h2,g),(h3,f),(c,e)] :=
 ⟨gN (T:=T) (bI _ _ _) (fun _ _=>rfl) (by simp),fun p l=>by
  simp only [qe,qf,or_false] at l;rcases l with rfl|rfl|rfl|rfl
  ·exact m.mono a
  ·exact k.mono a
  ·exact j.mono a
  ·exact i.mono a⟩
def aZt {b:Nat} {a:List Y} (c:PM.le G (G.add b (cl [h1.val a.length] T))) (e:SlR G 1 aH h1 a) (f:RdNP G 0 0 (wa 64 kW)) (g:a.length<=1152921504606846976):Ct prog 255 ([.slice (some ⟨b,0,none⟩) 1 1]:List Value).toArray (G.add b (cl [h1.val a.length] T)) [] (fun _ μ' u=>μ'=[]∧u=.agg (ba 32 (nT a)).toArray):=by
 have h:=aB2 _ _ _ (SlP.one c e) (f.mono c) (by simp_all[cY]) (by simp);rw [show cY [(h1,a)]=a by simp [cY]] at h;exact h
def aZu {b:Nat} {h2:Sh} {c a:List Y} (e:PM.le G (G.add b (cl [h1.val c.length,h2.val a.length] T))) (g:SlR G 1 aH h1 c) (f:SlR G 1 aH h2 a) (i:RdNP G 0 0 (wa 64 kW)) (j:c.length+a.length<=1152921504606846976):Ct prog 255 ([.slice (some ⟨b,0,none⟩) 2 2]:List Value).toArray (G.add b (cl [h1.val c.length,h2.val a.length] T)) [] (fun _ μ' u=>μ'=[]∧u=.agg (ba 32 (nT (c++a))).toArray):=by
 have h:=aB2 _ _ _ (aPV e g f) (i.mono e) (by simp_all[cY]) (by simp);rw [show cY [(h1,c),(h2,a)]=c++a by simp [cY]] at h;exact h
def aDm {f g:Nat->Y} {k:Nat} {a b:Y} (c:f=iZ g k) (h:b=g k):bA (bA f k a) k b=iZ g (k+1):=by
 rw [aHD,c,h]; rfl
def aBt {f g:Nat->Y} {k:Nat} {a:Y} (c:f=iZ g k) (h:a=g k):bA f k a=iZ g (k+1):=by
 rw [c,h]; rfl
def aW9 (a:List Y) (h:Sh) (G:PM) (m:SlR G 1 aH h a) (t:RdNP G 0 0 (wa 64 kW)) (hl:a.length<=140737488351232):Ct prog 282 ([h.val a.length]:List Value).toArray G [] (fun _ μ' u=>μ'=[]∧u=.tuple #[.agg (ba 64 (gD a 54#8)).toArray,.agg (ba 64 (gD a 92#8)).toArray]):=by
 refine aD func282 ntmps282 fun w0 K=>?_;refine zg 2 ?_;refine al rfl yQ ?_; intro b2;refine al rfl yQ fun b3=>zg 10 ?_;refine cz rfl (fun S=>?_) fun S=>?_
 ·have l:xR a=aGl a:=by unfold xR; rw [if_pos om]
  refine zg 3 ?_;refine Go.Tan.b1 rfl (zl rfl) tK .v rfl rfl dc ?_; intro T;refine eX rfl (Gp.add .here Gp.nil) (fun E hq=>aZt E m t om) ?_;refine al rfl kG fun b4=>zg 3 ?_;refine dC .here ?_; intro J r n;refine bE r m t fun m t=>?_;refine zg 1 ?_;refine kA rfl .no (zr rfl) .v n (by first|exact pD|exact nC|exact app_r) fun M w D I j=>zg 2 ?_;have l:xR a=w:=by rw [l,D]; rfl
  refine zg 3 ?_;skip;refine zg 5 ?_;refine lop (α:=Nat×(Nat->Y)×(Nat->Y)) (fun c=>[(13,true,.int .i64 (c.1:Int))]) (fun c=>[.blk b3 (cl (ba 64 c.2.2) 366),.blk b2 (cl (ba 64 c.2.1) 366)]) (fun c Gl=>(c.1<=64)∧(c.2.1=iZ (gD a 54#8) c.1)∧(c.2.2=iZ (gD a 92#8) c.1)) (fun c=>64-c.1) (0,fun _=>0#8,fun _=>0#8) [(0,true,_),(2,true,_),(3,true,_)] [_] ?_;rintro ⟨k,f,v⟩ N0 Z H y C; dsimp only at C H ⊢;obtain ⟨L,p,g⟩:=C;refine bW y m t n j fun m t n j=>?_;refine zg 6 ?_;refine cz rfl (fun Q=>?_) fun Q=>?_
  ·refine zg 15 ?_;refine cL rfl aE (by first|decide|(simp only [cO,bT,bP]; omega)) (by first|exact mH (z:=54#8) (k) om|exact eK (z:=54#32) (k) om|rfl) (zg 1 ?_);refine cL rfl aE (by first|decide|(simp only [cO,bT,bP]; omega)) (by first|exact mH (z:=92#8) (k) om|exact eK (z:=92#32) (k) om|rfl) (zg 10 ?_);refine cz rfl (fun P=>?_) fun P=>?_
   ·refine zg 1 ?_;refine Wk.d0 10 (zg 2 ?_);refine aM rfl (Rd.own aE (by first|exact dJ (k) om om|exact iM (k) om om|exact jE (k) om om|rfl)) (zg 2 ?_);refine cN rfl j k ?_;refine aM rfl ((j.yat (k) om om).rd) (zg 2 ?_);refine cL rfl aE (by first|decide|(simp only [cO,bT,bP]; omega)) (by first|exact eK (k) om|exact mH (k) om|exact uP (k) om om|rfl) (zg 2 ?_);refine Wk.d0 10 (zg 2 ?_);refine aM rfl (Rd.own aE (by first|exact dJ (k) om om|exact iM (k) om om|exact jE (k) om om|rfl)) (zg 2 ?_);refine cN rfl j k ?_;refine aM rfl ((j.yat (k) om om).rd) (zg 2 ?_);refine cL rfl aE (by first|decide|(simp only [cO,bT,bP]; omega)) (by first|exact eK (k) om|exact mH (k) om|exact uP (k) om om|rfl) (zg 7 ?_);exact lpo (k+1,bA (bA f k 54#8) k (bA f k 54#8 k ^^^ w.getD k 0),bA (bA v k 92#8) k (bA v k 92#8 k ^^^ w.getD k 0)) (hF:=⟨fd,aDm p (by rw [aAh,gD,l,if_pos om]),aDm g (by rw [aAh,gD,l,if_pos om])⟩)
   refine zg 7 ?_;exact lpo (k+1,bA f k 54#8,bA v k 92#8) (hF:=⟨fd,aBt p (by rw [gD,l,if_neg om]),aBt g (by rw [gD,l,if_neg om])⟩)
  refine zg 6 ?_;refine aHy dM rfl ?_;refine WoT.n2 0 1 kr ?_ ?_
  ·refine zg 2 ?_;refine WoT.n2 1 2 kr ?_ ?_
   ·refine zg 2 ?_;refine WoT.n1 2 kr (zg 2 ?_);refine WoT.n1 3 kr (zg 2 ?_);refine WoT.last kr (zg 2 ?_);refine zS ?_;obtain rfl:k=64:=by omega
    exact ⟨rfl,by rw [p,g,mG (fun i e=>mR (gD a 54#8) e),mG (fun i e=>mR (gD a 92#8) e)]; rfl⟩
   refine zg 2 ?_;refine WoT.n1 1 kr (zg 2 ?_);refine WoT.n1 3 kr (zg 2 ?_);refine WoT.last kr (zg 2 ?_);refine zS ?_;obtain rfl:k=64:=by omega
   exact ⟨rfl,by rw [p,g,mG (fun i e=>mR (gD a 54#8) e),mG (fun i e=>mR (gD a 92#8) e)]; rfl⟩
  refine zg 2 ?_;refine WoT.n1 0 kr (zg 2 ?_);refine WoT.n1 2 kr (zg 2 ?_);refine WoT.n1 3 kr (zg 2 ?_);refine WoT.last kr (zg 2 ?_);refine zS ?_;obtain rfl:k=64:=by omega
  exact ⟨rfl,by rw [p,g,mG (fun i e=>mR (gD a 54#8) e),mG (fun i e=>mR (gD a 92#8) e)]; rfl⟩
 have q:xR a=a:=by unfold xR; rw [if_neg om]
 refine zg 4 ?_;skip;refine zg 5 ?_;refine lop (α:=Nat×(Nat->Y)×(Nat->Y)) (fun c=>[(13,true,.int .i64 (c.1:Int))]) (fun c=>[.blk b3 (cl (ba 64 c.2.2) 366),.blk b2 (cl (ba 64 c.2.1) 366)]) (fun c Gl=>(c.1<=64)∧(c.2.1=iZ (gD a 54#8) c.1)∧(c.2.2=iZ (gD a 92#8) c.1)) (fun c=>64-c.1) (0,fun _=>0#8,fun _=>0#8) [(0,true,_),(2,true,_),(3,true,_)] [] ?_;rintro ⟨k,f,v⟩ N1 X F x A; dsimp only at A F ⊢;obtain ⟨L,p,g⟩:=A;refine bE x m t fun m t=>?_;refine zg 6 ?_;refine cz rfl (fun O=>?_) fun O=>?_
 ·refine zg 15 ?_;refine cL rfl aE (by first|decide|(simp only [cO,bT,bP]; omega)) (by first|exact mH (z:=54#8) (k) om|exact eK (z:=54#32) (k) om|rfl) (zg 1 ?_);refine cL rfl aE (by first|decide|(simp only [cO,bT,bP]; omega)) (by first|exact mH (z:=92#8) (k) om|exact eK (z:=92#32) (k) om|rfl) (zg 10 ?_);refine cz rfl (fun N=>?_) fun N=>?_
  ·refine zg 1 ?_;refine Wk.d0 10 (zg 2 ?_);refine aM rfl (Rd.own aE (by first|exact dJ (k) om om|exact iM (k) om om|exact jE (k) om om|rfl)) (zg 2 ?_);refine cN rfl m k ?_;refine aM rfl ((m.yat (k) om om).rd) (zg 2 ?_);refine cL rfl aE (by first|decide|(simp only [cO,bT,bP]; omega)) (by first|exact eK (k) om|exact mH (k) om|exact uP (k) om om|rfl) (zg 2 ?_);refine Wk.d0 10 (zg 2 ?_);refine aM rfl (Rd.own aE (by first|exact dJ (k) om om|exact iM (k) om om|exact jE (k) om om|rfl)) (zg 2 ?_);refine cN rfl m k ?_;refine aM rfl ((m.yat (k) om om).rd) (zg 2 ?_);refine cL rfl aE (by first|decide|(simp only [cO,bT,bP]; omega)) (by first|exact eK (k) om|exact mH (k) om|exact uP (k) om om|rfl) (zg 7 ?_);exact lpo (k+1,bA (bA f k 54#8) k (bA f k 54#8 k ^^^ a.getD k 0),bA (bA v k 92#8) k (bA v k 92#8 k ^^^ a.getD k 0)) (hF:=⟨fd,aDm p (by rw [aAh,gD,q,if_pos om]),aDm g (by rw [aAh,gD,q,if_pos om])⟩)
  refine zg 7 ?_;exact lpo (k+1,bA f k 54#8,bA v k 92#8) (hF:=⟨fd,aBt p (by rw [gD,q,if_neg om]),aBt g (by rw [gD,q,if_neg om])⟩)
 refine zg 6 ?_;refine aHy dM rfl ?_;refine WoT.n2 0 1 kr ?_ ?_
 ·refine zg 2 ?_;refine WoT.n2 1 2 kr ?_ ?_
  ·refine zg 2 ?_;refine WoT.n1 2 kr (zg 2 ?_);refine WoT.n1 3 kr (zg 2 ?_);refine WoT.last kr (zg 2 ?_);refine zS ?_;obtain rfl:k=64:=by omega
   exact ⟨rfl,by rw [p,g,mG (fun i e=>mR (gD a 54#8) e),mG (fun i e=>mR (gD a 92#8) e)]; rfl⟩
  refine zg 2 ?_;refine WoT.n1 1 kr (zg 2 ?_);refine WoT.n1 3 kr (zg 2 ?_);refine WoT.last kr (zg 2 ?_);refine zS ?_;obtain rfl:k=64:=by omega
  exact ⟨rfl,by rw [p,g,mG (fun i e=>mR (gD a 54#8) e),mG (fun i e=>mR (gD a 92#8) e)]; rfl⟩
 refine zg 2 ?_;refine WoT.n1 0 kr (zg 2 ?_);refine WoT.n1 2 kr (zg 2 ?_);refine WoT.n1 3 kr (zg 2 ?_);refine WoT.last kr (zg 2 ?_);refine zS ?_;obtain rfl:k=64:=by omega
 exact ⟨rfl,by rw [p,g,mG (fun i e=>mR (gD a 54#8) e),mG (fun i e=>mR (gD a 92#8) e)]; rfl⟩
def aO0:dK prog 302=some (ba 16 (fun _=>0#8)):=by kernel_rfl
def bB3:wY prog 302 16=true:=by kernel_rfl
def aF2 (l:List Y) (P:Sh) (i:List (Sh×List Y)) (h:Sh) (G:PM) (M:SlR G 1 aH P l) (g:SlP G h i) (e:RdNP G 0 0 (wa 64 kW)) (N:l.length<=140737488351232) (hl:(cY i).length<=1000000000000000) (hn:i.length<=1000):Ct prog 244 ([P.val l.length,h.val i.length]:List Value).toArray G [] (fun _ μ' u=>μ'=[]∧u=.agg (ba 32 (vZ l (cY i))).toArray):=by
 refine aD func244 ntmps244 fun w0 a8=>?_;refine zg 2 ?_;refine al rfl kG fun b4=>zg 5 ?_;refine aK rfl (aW9 _ _ _ M e N) (zg 3 ?_);refine al rfl yQ ?_; intro b5;refine al rfl yQ fun b6=>zg 5 ?_;refine dC aE ?_; intro a6 p a;refine bE p g e fun g e=>?_;refine dC .here ?_; intro a5 n c;refine aX n g e a fun g e a=>?_;refine zg 1 ?_;refine aS rfl (aPP _) ?_;rintro _ c9 a1 D ⟨S,rfl,rfl⟩;refine bW D g e a c fun g e a c=>?_;refine zg 6 ?_;refine kA rfl .no (zr rfl) .v a (by first|exact pD|exact nC|exact app_r) ?_; intro b8 J I a4 v;refine aP rfl (dY .here .here) (aHz _ _ _ _ _ _ v e (by simp; omega)) ?_;rintro _ c8 a0 C ⟨K,rfl,rfl⟩;refine bW C g e a c fun g e a c=>?_;refine zg 11 ?_;refine lop (α:=Nat×Value) (fun j=>[(22,true,.int .i64 (j.1:Int))]) (fun j=>[.blk S (cl (jQ (J++cY (i.take j.1)) j.2) 425),rB j.2 5 (fS (J++cY (i.take j.1)))]) (fun j Gl=>(j.1<=i.length)) (fun j=>i.length-j.1) (0,K) [(4,true,_),(6,true,_),(7,true,_),(20,true,_),(21,true,_)] [_] ?_ (hM:=(mS .here (by simp [cY]) (mS .here (by simp [cY]) bH)));rintro ⟨k,vq⟩ N0 c5 Q x E; dsimp only at E Q ⊢;have P:=E;refine bW x g e a c fun g e a c=>?_;refine zg 6 ?_;refine cz rfl (fun c1=>?_) fun c1=>?_
 ·refine zg 6 ?_;refine qG rfl om om (g.sl.nn (k:=k) om) ?_;obtain ⟨a7,f⟩:=cE (k:=k) (xs:=i) om;have w:=g.get f;refine aM rfl ((g.at (k) om f).rd) (zg 6 ?_);refine aP rfl (dY .here .here) (aHz _ _ _ _ _ _ w e (by have:=aEr f; rw [qa]; omega)) ?_;rintro _ c7 Z A ⟨L,rfl,rfl⟩;refine aX A e a c fun e a c=>?_;refine zg 7 ?_;exact lpo (k+1,L) (hM:=(mS .here (by rw [zE f,qr]) (mS .here (by rw [zE f,qr]) bH)))
 refine zg 6 ?_;obtain rfl:k=i.length:=by omega
 rw [qz];refine zg 2 ?_;refine aP rfl (dY .here .here) (aHp _ _ _ _ e (by rw [qa]; omega)) ?_;rintro _ c6 X y ⟨rfl,rfl⟩;refine aX y e a c fun e a c=>?_;refine al rfl kG fun c2=>zg 4 ?_;refine dC .here ?_; intro T m q;refine aX m e a c fun e a c=>?_;refine Wk.d0 5 ?_;refine kA rfl .no (zr rfl) .v c (by first|exact pD|exact nC|exact app_r) ?_; intro b7 c4 H a3 t;refine kA rfl .no (zr rfl) .v q (by first|exact pD|exact nC|exact app_r) ?_; intro a9 c3 F a2 r;refine Go.Tan.bN rfl (zl rfl) tK (Evp.cons .v (Evp.cons .v Evp.nil)) rfl dc (by simp [Value.oneCell',Sh.val]) ?_; intro c0;refine eX rfl (Gp.add .here Gp.nil) (fun O hq=>aZu O t r e om) (zg 4 ?_);refine jK ?_;exact ⟨rfl,by rw [H,F,I]; rfl⟩
theorem aVi {b:Nat} {q h2 h3 j:Sh} {a i g f:List Y} (c:PM.le G (G.add b (cl [h1.val i.length,h2.val g.length,h3.val f.length,j.val e.length] T))) (k:SlR G 1 aH q a) (r:SlR G 1 aH h1 i) (n:SlR G 1 aH h2 g) (m:SlR G 1 aH h3 f) (l:SlR G 1 aH j e) (t:RdNP G 0 0 (wa 64 kW)) (p:a.length<=140737488351232) (v:i.length+g.length+f.length+e.length<=1000000000000000) :
  Ct prog 244 ([q.val a.length,.slice (some ⟨b,0,none⟩) 4 4]:List Value).toArray (G.add b (cl [h1.val i.length,h2.val g.length,h3.val f.length,j.val e.length] T)) [] (fun _ μ' u=>μ'=[]∧u=.agg (ba 32 (vZ a (i++g++f++e))).toArray):=by
 have h:=aF2 _ q _ _ _ (k.mono c) (SlP.four c r n m l) (t.mono c) p (by grind[cY]) (by simp);rw [show cY [(h1,i),(h2,g),(h3,f),(j,e)]=i++g++f++e by simp [cY]] at h;exact h
def aHq (enc q f:Nat->Y) (w:List Y) (H:Sh) (xs:List Y) (F:Sh) (G:PM) (e:SlR G 1 aH H w) (c:SlR G 1 aH F xs) (p:RdNP G 0 0 (wa 64 kW)) (L:w.length<=140737488351232) (hl:xs.length<=140737488355328):Ct prog 186 ([.agg (ba 32 enc++ba 32 q).toArray,.agg (ba 12 f).toArray,H.val w.length,F.val xs.length]:List Value).toArray G [] (fun _ μ' u=>μ'=[]∧u=.agg (ba 16 (aAd q f w xs)).toArray):=by
 refine aD func186 ntmps186 fun X K=>?_;refine zg 2 ?_;refine bD rfl ?_; intro b4;refine bD rfl ?_; intro b5;refine al rfl aO0 fun b8=>zg 3 ?_;refine dC aL ?_; intro J m a;refine aX m e c p fun e c p=>?_;refine dC aE ?_; intro I l i;refine bW l e c p a fun e c p a=>?_;refine Wk.draw (mc:=⟨false,false⟩) [0,1,2,3,4,6,7,8,5,9,10,11,12] dM kr (zg 1 ?_);refine kA rfl .no (zr rfl) .v a (by first|exact pD|exact nC|exact app_r) fun O S v E h=>zg 4 ?_;refine kA rfl .no (zr rfl) .v i (by first|exact pD|exact nC|exact app_r) fun M Q t C g=>zg 1 ?_;refine aS rfl (Ct.frzB (mZ [] ⟨none,0⟩ _ 8 _ dD (by simp) dc)) ?_;rintro _ T A j ⟨N,y,k,rfl,rfl,r⟩;refine bW j e c p a fun e c p a=>?_;refine aX j i h g fun i h g=>?_;refine Go.Tan.bN rfl (zl rfl) tK (Evp.cons .v (Evp.cons .v (Evp.cons .v (Evp.cons .v Evp.nil)))) rfl dc (by simp [Value.oneCell',Sh.val]) ?_; intro P;have D:y.length=8:=by rw [k,qy]; exact jJ _ 8
 refine eX rfl (Gp.add .here Gp.nil) (fun x Z=>aVi x h r e g c p om om) ?_;refine al rfl kG fun b9=>zg 5 ?_;refine sah rfl .no (zr rfl) .v .v (fun _=>by first|decide|omega) (fun _=>by first|decide|omega) ?_;refine sp rfl .no (zr rfl) .v (fun _=>by first|decide|omega) ?_;refine aY rfl (RdN.part (n:=16) (cs':=ba 16 _) .here (aIQ dc)) (by first|exact qE|exact qL|rfl) (zg 4 ?_);refine jK ?_;exact ⟨rfl,by rw [v,k,t]; rfl⟩
def bAA (enc c a:Nat->Y) (f:List Y) (i:Sh) (xs:List Y) (v:Value) (G:PM) (g:SlR G 1 aH i f) (n:RdNP G 0 0 (wa 64 kW)) (h:f.length<=140737488351232) (m:xs.length<=140737488355328):Ct prog 186 ([.agg (ba 32 enc++ba 32 c).toArray,.agg (ba 12 a).toArray,i.val f.length,v]:List Value).toArray G [rB v 5 xs] (fun _ μ' u=>∃ ν,μ'=rB v 5 xs :: ν∧ν=[]∧u=.agg (ba 16 (aAd c a f xs)).toArray) :=
 aAp (fun j p e k l=>by subst k; exact aHq enc c a f i xs j p (g.mono e) l (n.mono e) h m)
def aHn (enc f a:Nat->Y) (l:List Y) (t:Sh) (xs:List Y) (p:Sh) (G:PM) (g:SlR G 1 aH t l) (q:SlR G 1 aH p xs) (i:RdNP G 0 0 (wa 64 kW)) (r:l.length<=140737488351232) (H:xs.length<=140737488351232):Ct prog 132 ([.agg (ba 32 enc++ba 32 f).toArray,.agg (ba 12 a).toArray,t.val l.length,p.val xs.length]:List Value).toArray G [] (PR 5 (fun L=>L=kB enc f a l xs)):=by
 refine aD func132 ntmps132 fun M F=>?_;have N:=zG enc a 1#32 xs;refine zg 2 ?_;refine bD rfl ?_; intro b4;refine bD rfl fun O=>zg 6 ?_;refine aY rfl (RdN.part (n:=32) (cs':=ba 32 enc) aE (nC)) (by first|exact qE|exact qL|rfl) (zg 2 ?_);refine aS rfl (iF (aHQ enc a 1#32 p xs _ q H)) ?_;rintro E K w k ⟨h,y,c,rfl⟩;refine bE k g i fun g i=>?_;refine zg 5 ?_;have C:h.length=xs.length:=by rw [c,zG]
 refine zg 4 ?_;refine aP rfl (aZ .here) (bAA enc f a l t h _ _ g i r (by rw [c,zG]; omega)) ?_;rintro _ J v j ⟨_,rfl,rfl,rfl⟩;have i:=i.mono j;refine al rfl aO0 fun I=>zg 6 ?_;refine qZ rfl .no (zr rfl) .v (dE rfl (zl rfl) aW .v .v aE (Sc.arr .here) (by (try simp only [bP,bL]); omega) ?_);intro D m x e;have A:m.length=h.length+16:=by rw [e,qa]; first|rfl | simp [bL]
 refine zg 4 ?_;refine aR bH ?_;exact ⟨m,by rw [e,c]; rfl,rfl⟩
def aPQ (enc l a:Nat->Y) (w:List Y) (D:Sh) (xs:List Y) (K:Sh) (G:PM) (A:SlR G 1 aH D w) (p:SlR G 1 aH K xs) (E:RdNP G 0 0 (wa 64 kW)) (C:w.length<=140737488351232) (S:xs.length<=140737488351248):Ct prog 257 ([.agg (ba 32 enc++ba 32 l).toArray,.agg (ba 12 a).toArray,D.val w.length,K.val xs.length]:List Value).toArray G [] (fun _ μ' u=>∃ v L e,OpenR (qT enc l a w xs) L e∧μ'=[rB v 5 L]∧u=.tuple #[v,.int .i64 e]):=by
 refine aD func257 ntmps257 fun Q M=>?_;refine zg 2 ?_;refine bD rfl ?_; intro b4;refine bD rfl fun T=>zg 19 ?_;refine cz rfl (fun O=>?_) fun O=>?_
 ·refine zg 7 ?_;refine nW 5 ?_;refine aR bH ?_;rw [aW1 om]; exact ⟨_,[],60,.inr ⟨rfl,rfl,rfl⟩,rfl,rfl⟩
 refine zg 6 ?_;refine kE ((xs.length-16)) rfl .no (zl rfl) p .v .v om om ?_;intro r x c h j;have h:=h rfl;refine zg 5 ?_;refine Wk.draw (mc:=⟨false,false⟩) [0,1,2,3,5,6,7,8,9,4,10] dM kr (zg 6 ?_);refine kD ((xs.length-16)) rfl .no (zl rfl) p .v .v om om ?_;intro N f k g i;have g:=g rfl;refine spS rfl .no (zr rfl) i .v om dc ?_;refine aY rfl ((i.arr (m:=16) om).rd) (bT _ _) ?_;refine aK rfl (aHq enc l a w D x r _ A j E C om) ?_;refine nqB rfl .no bB3 .v .v (zg 2 ?_);refine cz rfl (fun F=>?_) fun F=>?_
 ·refine zg 7 ?_;refine nW 5 ?_;refine aR bH ?_;rw [aWz om (by rw [← c,←k,←aEJ f,show f.length=16 by omega]; exact F)]; exact ⟨_,[],60,.inr ⟨rfl,rfl,rfl⟩,rfl,rfl⟩
 refine zg 5 ?_;refine aY rfl (RdN.part (n:=32) (cs':=ba 32 enc) aE (nC)) (by first|exact qE|exact qL|rfl) (zg 2 ?_);refine aS rfl (iF (aHQ enc a 1#32 r x _ j om)) ?_;rintro y P I q ⟨H,J,t,rfl⟩;have E:=E.mono q;refine zg 5 ?_;refine aR bH ?_;rw [aLa om (by rw [← c,←k,←aEJ f,show f.length=16 by omega]; exact F),←c]; exact ⟨y,H,0,.inl ⟨by rw [t],rfl⟩,rfl,rfl⟩
def aOt:csT prog 148=true:=by kernel_rfl
def aLB (x:W) (G:PM):Ct prog 286 ([U x]:List Value).toArray G [] (fun _ μ' u=>μ'=[]∧u=U (sJ 4 x)):=by
 refine aD func286 ntmps286 fun m i=>?_;refine zg 12 ?_;refine lop (α:=Nat×W) (fun c=>[(0,true,U c.2),(3,true,.int .i64 (c.1:Int))]) (fun _=>[]) (fun c q=>(c.1<=4)∧(c.2=sJ c.1 x)) (fun c=>4-c.1) (0,x) [] [] ?_;rintro ⟨k,y⟩ p l f g e; dsimp only at e f ⊢;obtain ⟨n,h⟩:=e;refine zg 6 ?_;refine cz rfl (fun j=>?_) fun j=>?_
 ·refine zg 6 ?_;refine oK (k:=.u32) rfl .no .v .v (fun _=>dc) (zg 2 ?_);refine nw (k:=.u32) rfl .no rfl .v ?_;refine bw (k:=.u32) (a:=2197175160#32) rfl .no rfl .v .v rfl (zg 9 ?_);exact lpo (k+1,aJw y) (hF:=⟨fd,by (try dsimp only)<;>(rw [h]; rfl)⟩)
 refine zg 12 ?_;refine aI ?_;obtain rfl:k=4:=by omega
 exact ⟨rfl,by rw [h]; rfl⟩
def aRs (a:W) (xs:List Y) (h:Sh) (G:PM) (g:SlR G 1 aH h xs) (p:xs.length<=9000000000000000000):Ct prog 248 ([U a,h.val xs.length]:List Value).toArray G [] (fun _ μ' u=>μ'=[]∧u=U (mK a xs)):=by
 refine aD func248 ntmps248 fun n j=>?_;refine zg 8 ?_;refine xw (k:=.u32) rfl .no rfl .v (zg 12 ?_);refine lop (α:=Nat×W) (fun c=>[(5,true,U c.2),(12,true,.int .i64 (c.1:Int))]) (fun _=>[]) (fun c t=>(c.1<=xs.length)∧(c.2=(xs.take c.1).foldl aBB (~~~a))) (fun c=>xs.length-c.1) (0, ~~~a) [(10,true,_),(11,true,_)] [] ?_;rintro ⟨k,x⟩ r m i e f; dsimp only at f i ⊢;obtain ⟨q,ex⟩:=f;have g:=g.mono e;refine zg 6 ?_;refine cz rfl (fun l=>?_) fun l=>?_
 ·refine zg 6 ?_;refine cN rfl g k ?_;refine aM rfl ((g.yat (k) om om).rd) (zg 8 ?_);refine aK rfl (aLB _ _) ?_;refine aK rfl (aLB _ _) (zg 8 ?_);exact lpo (k+1,sJ 4 (sJ 4 (x ^^^ (xs.getD k 0).setWidth 32))) (hF:=⟨fd,by (try dsimp only)<;>(rw [aTV om,←ex,aTk]; rfl)⟩)
 refine zg 8 ?_;refine xw (k:=.u32) rfl .no rfl .v (zg 4 ?_);refine aI ?_;obtain rfl:k=xs.length:=by omega
 exact ⟨rfl,by rw [ex,qz]; rfl⟩
def aIq (c:List (Sh×List Y)) (h:Sh) (G:PM) (f:SlP G h c) (v:(cY c).length<=9000000000000000000) (t:c.length<=1000):Ct prog 189 ([h.val c.length]:List Value).toArray G [] (fun _ μ' u=>μ'=[]∧u=U (mK 0#32 (cY c))):=by
 refine aD func189 ntmps189 fun r n=>?_;refine zg 19 ?_;refine lop (α:=Nat×W) (fun e=>[(3,true,U e.2),(8,true,.int .i64 (e.1:Int))]) (fun _=>[]) (fun e A=>(e.1<=c.length)∧(e.2=mK 0#32 (cY (c.take e.1)))) (fun e=>c.length-e.1) (0,0#32) [(6,true,_),(7,true,_)] [] ?_ (hF:=⟨fd,by (try dsimp only)<;>(simp [cY,aRu])⟩);rintro ⟨k,x⟩ y q m i j; dsimp only at j m ⊢;obtain ⟨w,ex⟩:=j;have f:=f.mono i;refine zg 6 ?_;refine cz rfl (fun p=>?_) fun p=>?_
 ·refine zg 6 ?_;refine cN rfl f.sl k ?_;obtain ⟨l,a⟩:=cE (k:=k) (xs:=c) om;have g:=f.get a;refine aM rfl ((f.at (k) om a).rd) (zg 6 ?_);refine aK rfl (aRs _ _ _ _ g (by have:=aEr a; omega)) (zg 8 ?_);exact lpo (k+1,mK x l.2) (hF:=⟨fd,by (try dsimp only)<;>(rw [ex,aRt,zE a])⟩)
 refine zg 12 ?_;refine aI ?_;obtain rfl:k=c.length:=by omega
 exact ⟨rfl,by rw [ex,qz]; rfl⟩
def aPO (x:W) (G:PM):Ct prog 188 ([U x]:List Value).toArray G [] (fun _ μ' u=>μ'=[]∧u=U (aF6 x)):=by
 refine aD func188 ntmps188 fun c a=>?_;refine zg 8 ?_;refine aK rfl (yH _ _ _) (zg 5 ?_);refine aI ?_;exact ⟨rfl,rfl⟩
theorem aRr {a f e g:Nat} {kind:Y} {h:Sh} {p:List Y} (i:PM.le G ((G.add a (cl [V kind] e)).add f (cl [.slice (some ⟨a,0,none⟩) 1 1,h.val p.length] g))) (l:PM.le (G.add a (cl [V kind] e)) ((G.add a (cl [V kind] e)).add f (cl [.slice (some ⟨a,0,none⟩) 1 1,h.val p.length] g))) (k:SlR G 1 aH h p) (r:p.length<=1000000000000000) :
  Ct prog 189 ([.slice (some ⟨f,0,none⟩) 2 2]:List Value).toArray ((G.add a (cl [V kind] e)).add f (cl [.slice (some ⟨a,0,none⟩) 1 1,h.val p.length] g)) [] (fun _ μ' u=>μ'=[]∧u=U (mK 0#32 ([kind]++p))):=by
 have n:SlR (G.add a (cl [V kind] e)) 1 aH ⟨some ⟨a,0,none⟩,1⟩ [kind]:=gN (T:=e) (bI _ _ _) (fun _ _=>rfl) (by simp);have m:SlP ((G.add a (cl [V kind] e)).add f (cl [.slice (some ⟨a,0,none⟩) 1 1,h.val p.length] g)) ⟨some ⟨f,0,none⟩,2⟩ [(⟨some ⟨a,0,none⟩,1⟩,[kind]),(h,p)] :=
  ⟨gN (T:=g) (bI _ _ _) (fun _ _=>rfl) (by simp),fun q c=>by
   rcases qe.1 c with rfl | c
   ·exact n.mono l
   ·rw [qd.1 c]; exact k.mono i⟩
 have j:=aIq _ _ _ m (by grind[cY]) (by simp);rw [show cY [((⟨some ⟨a,0,none⟩,1⟩ : Sh),[kind]),(h,p)]=[kind]++p by simp [cY]] at j;exact j
def aED (kind:Y) (p:List Y) (h:Sh) (G:PM) (D:SlR G 1 aH h p) (F:p.length<=1000000000000000):Ct prog 135 ([V kind,h.val p.length]:List Value).toArray G [] (PR 5 (fun L=>L=cM ((aF6 (mK 0#32 ([kind]++p))).setWidth 64) 4++cM (BitVec.ofInt 64 (p.length:Int)) 2++[kind])):=by
 refine aD func135 ntmps135 fun K C=>?_;refine zg 8 ?_;refine Go.Tan.b1 rfl (zl rfl) aW .v rfl rfl dc fun N=>zg 1 ?_;refine Go.Tan.bN rfl (zl rfl) tK (Evp.cons .v (Evp.cons .v Evp.nil)) rfl dc (by simp [Value.oneCell',Sh.val]) ?_; intro M;refine eX rfl (Gp.add .here (Gp.add .here Gp.nil)) (fun j E=>aRr j E.1 D F) ?_;refine aK rfl (aPO _ _) (zg 7 ?_);refine aS rfl (Ct.frzB (mZ [] ⟨none,0⟩ _ 4 _ dD (by simp) dc)) ?_;rintro _ J n x ⟨k,l,a,rfl,rfl,f⟩;refine zg 3 ?_;refine aS rfl (iF (mZ l k _ 2 _ f (by have:=fx0 a; omega) dc)) ?_;rintro A I m w ⟨i,r,e,rfl⟩;refine zg 1 ?_;refine Go.Tan.b1 rfl (zl rfl) aW .v rfl rfl dc ?_; intro H;have v:i.length=6:=by have:=fx0 a; have:=fx2 e; omega
 refine dE rfl (zl rfl) aW .v .v aE (Sc.one .here) (by show _+1<=_; omega) ?_;intro y g q c;have t:g.length=i.length+1:=by rw [c,qa]; first|rfl | simp [bL]
 refine zg 4 ?_;refine aR bH ?_;exact ⟨g,by rw [c,e,a]; rfl,rfl⟩
def aOz:dK prog 242=some (ba 12 (fun _=>0#8)):=by kernel_rfl
def bCH:cU prog 236 [0,1,2]=some ([.int .u64 0,.int .u64 0,.int .u64 0],[(0,1),(1,1),(2,1)]):=by kernel_rfl
def aK6 (h:Hd) (G:PM):Ct prog 199 ([.agg ([V h.kind,V h.level,uv .u64 h.gen,uv .u64 h.epoch,uv .u64 h.num]:List Value).toArray]:List Value).toArray G [] (fun _ μ' u=>μ'=[]∧u=.bool h.right):=by
 refine aD func199 ntmps199 fun i g=>?_;refine zg 2 ?_;refine bD rfl fun b1=>zg 17 ?_;refine cz rfl (fun f=>?_) fun f=>?_
 ·refine zg 9 ?_;refine aI ?_;exact ⟨rfl,congrArg Value.bool (aHh f).symm⟩
 refine zg 7 ?_;refine .cond rfl (iB fun c e=>?_) (kQ fun e=>?_)
 ·refine zg 2 ?_;refine vF rfl c (zg 14 ?_);refine aI ?_;exact ⟨rfl,congrArg Value.bool (aPK e).symm⟩
 refine zg 5 ?_;refine cz rfl (fun a=>?_) fun a=>?_
 ·refine zg 14 ?_;refine aI ?_;exact ⟨rfl,congrArg Value.bool (aPL a).symm⟩
 refine zg 9 ?_;refine aI ?_;exact ⟨rfl,congrArg Value.bool (aPJ e f a).symm⟩
def aET (n:BitVec 64) (G:PM):Ct prog 134 ([uv .u64 n]:List Value).toArray G [] (fun _ μ' u=>μ'=[]∧u=.agg (ba 12 (iQ n)).toArray):=by
 refine aD func134 ntmps134 fun q j=>?_;refine zg 2 ?_;refine al rfl aOz fun b2=>zg 4 ?_;refine al rfl aOz fun b3=>zg 9 ?_;refine lop (α:=Nat×(Nat->Y)) (fun a=>[(5,true,.int .i64 (a.1:Int))]) (fun a=>[.blk b3 (cl (ba 12 a.2) 242)]) (fun a v=>(a.1<=8)∧(a.2=iZ (iQ n) a.1)) (fun a=>8-a.1) (0,fun _=>0#8) [(0,true,_),(2,true,_),(3,true,_)] [_] ?_;rintro ⟨k,f⟩ t p e g c; dsimp only at c e ⊢;obtain ⟨r,h⟩:=c;refine zg 6 ?_;refine cz rfl (fun m=>?_) fun m=>?_
 ·refine zg 15 ?_;refine oK (k:=.u64) rfl .no .v .v om (zg 2 ?_);refine cL rfl .here (by first|decide|(simp only [cO,bT,bP]; omega)) (by first|exact eK (k) om|exact mH (k) om|exact uP (k) om om|rfl) (zg 7 ?_);exact lpo (k+1,bA f k ((n >>> (8*k)).setWidth 8)) (hF:=⟨fd,aBt h (by unfold iQ; rw [if_pos om])⟩)
 refine zg 12 ?_;refine jK ?_;obtain rfl:k=8:=by omega
 exact ⟨rfl,by rw [h,mG (fun i l=>aWQ n l)]; rfl⟩
def wE (h:Hd) (G:PM):Ct prog 80 ([.agg ([V h.kind,V h.level,uv .u64 h.gen,uv .u64 h.epoch,uv .u64 h.num]:List Value).toArray]:List Value).toArray G [] (PR 5 (fun L=>L=aU h)):=by
 refine aD func80 ntmps80 fun O H=>?_;refine zg 2 ?_;refine bD rfl fun b1=>zg 5 ?_;refine Go.Tan.bN rfl (zl rfl) aW (Evp.cons .v (Evp.cons .v (Evp.cons .v (Evp.cons .v Evp.nil)))) rfl dc (by simp [Value.oneCell',Sh.val]) ?_; intro S;refine mkS [116#8,97#8,110#8,116#8] rfl rfl aOt .v .here rfl rfl dc fun Z I m=>zg 4 ?_;refine Go.Tan.bN rfl (zl rfl) aW (Evp.cons .v (Evp.cons .v Evp.nil)) rfl dc (oH rfl rfl) ?_; intro K;refine apF (.inr rfl) rfl (zl rfl) aW .v .v m rfl (Sc.blk (ys:=[h.kind,h.level]) .here rfl rfl) (by (try simp only [dX]); omega) (by (try simp only [dX]); omega) (by (try simp only [dX]); omega) ?_; intro F r y c;have A:r.length=[116#8,97#8,110#8,116#8].length+2:=by rw [c,qa]; first|rfl | simp [bL]
 refine zg 12 ?_;refine bC rfl .no bCH (.cons .v rfl (.cons .v rfl (.cons .v rfl .nil))) rfl (zg 4 ?_);refine lop (α:=Nat×Value×List Y) (fun a=>[(3,true,a.2.1),(21,true,.int .i64 (a.1:Int))]) (fun a=>[rB a.2.1 5 a.2.2]) (fun a X=>(a.1<=3)∧(a.2.2=h.some a.1)) (fun a=>3-a.1) (0,_,_) [(20,true,_)] [_,_] ?_ (hF:=⟨fd,by (try dsimp only)<;>(rw [c]; rfl)⟩);rintro ⟨k,v,L⟩ T M n D g; dsimp only at g n ⊢;obtain ⟨Q,p⟩:=g;have P:L.length=6+8*k:=by rw [p,Hd.some_len]
 refine zg 6 ?_;refine cz rfl (fun J=>?_) fun J=>?_
 ·refine zg 6 ?_;refine ix rfl .no (zr rfl) (za rfl) .v .v om om (fun _=>aPN om) (zg 3 ?_);refine lB .here ?_; intro t C j f e; subst f;refine zg 3 ?_;refine aS rfl (iF (mZ _ _ _ _ _ e om dc)) ?_;rintro l N w E ⟨q,x,i,rfl⟩;refine zg 8 ?_;exact lpo (k+1,l,q) (hF:=⟨fd,by (try dsimp only)<;>(rw [i,p,aHi]; rfl)⟩)
 refine zg 12 ?_;refine aR bH ?_;obtain rfl:k=3:=by omega
 exact ⟨L,by rw [p,aPM],rfl⟩
def aVg {b:Nat} {i:Sh} {a:List Y} (c:PM.le G (G.add b (cl [h1.val e.length] T))) (f:SlR G 1 aH i a) (j:SlR G 1 aH h1 e) (k:RdNP G 0 0 (wa 64 kW)) (g:a.length<=140737488351232) (l:e.length<=1000000000000000) :
  Ct prog 244 ([i.val a.length,.slice (some ⟨b,0,none⟩) 1 1]:List Value).toArray (G.add b (cl [h1.val e.length] T)) [] (fun _ μ' u=>μ'=[]∧u=.agg (ba 32 (vZ a e)).toArray):=by
 have h:=aF2 _ i _ _ _ (f.mono c) (SlP.one c j) (k.mono c) g (by simp_all[cY]) (by simp);rw [show cY [(h1,e)]=e by simp [cY]] at h;exact h
def aOm (a:List Y) (g:Sh) (xs:List Y) (h:Sh) (G:PM) (c:SlR G 1 aH g a) (j:SlR G 1 aH h xs) (l:RdNP G 0 0 (wa 64 kW)) (e:a.length<=140737488351232) (k:xs.length<=1000000000000000):Ct prog 245 ([g.val a.length,h.val xs.length]:List Value).toArray G [] (fun _ μ' u=>μ'=[]∧u=.agg (ba 32 (vZ a xs)).toArray):=by
 refine aD func245 ntmps245 fun m i=>?_;refine zg 2 ?_;refine al rfl kG fun b4=>zg 6 ?_;refine Go.Tan.b1 rfl (zl rfl) tK .v rfl rfl dc ?_; intro p;refine eX rfl (Gp.add .here Gp.nil) (fun f n=>aVg f c j l e k) (zg 4 ?_);refine jK ?_;exact ⟨rfl,rfl⟩
def SlP.three {b:Nat} {h2 h3:Sh} {f c:List Y} (a:PM.le G (G.add b (cl [h1.val f.length,h2.val e.length,h3.val c.length] T))) (j:SlR G 1 aH h1 f) (h:SlR G 1 aH h2 e) (g:SlR G 1 aH h3 c) :
  SlP (G.add b (cl [h1.val f.length,h2.val e.length,h3.val c.length] T)) ⟨some ⟨b,0,none⟩,3⟩ [(h1,f),(h2,e),(h3,c)] :=
 ⟨gN (T:=T) (bI _ _ _) (fun _ _=>rfl) (by simp),fun p i=>by
  simp only [qe,qf,or_false] at i;rcases i with rfl|rfl|rfl
  ·exact j.mono a
  ·exact h.mono a
  ·exact g.mono a⟩
theorem aVh {b c n E lo:Nat} {l g s:Sh} {a L:List Y} {y:Y} (j:SlR G 1 aH l e) (i:SlR G 1 aH g a) (w:RdNP G 0 0 (wa 64 kW)) (t:lo<=L.length) (k:e.length<=140737488351232) (F:L.length+a.length<=100000000000000) :
  Ct prog 244 ([l.val e.length,.slice (some ⟨c,0,none⟩) 3 3]:List Value).toArray G [rB (s.val L.length) E L,.blk b (cl [V y] T),.blk c (cl [(s.cut lo 1).val (L.length-lo),g.val a.length,.slice (some ⟨b,0,none⟩) 1 1] n)]
   (fun _ μ' u=>∃ ν,μ'=rB (s.val L.length) E L :: ν∧∃ ν2,ν=.blk b (cl [V y] T) :: ν2∧∃ ν3,ν2=.blk c (cl [(s.cut lo 1).val (L.length-lo),g.val a.length,.slice (some ⟨b,0,none⟩) 1 1] n) :: ν3∧ν3=[]∧u=.agg (ba 32 (vZ e (L.drop lo++a++[y]))).toArray) :=
 aAp (fun D p f q r=>aHT (fun h1=>aHT (fun h2=>by
  obtain rfl:=aPU q;have C:SlR p 1 aH (s.cut lo 1) (L.drop lo):=by
   have:=r.cutn (lo:=lo) (m:=L.length-lo) om;simp_all[wd]
  have A:SlR (p.add b (cl [V y] T)) 1 aH ⟨some ⟨b,0,none⟩,1⟩ [y]:=gN (T:=T) (bI _ _ _) (fun _ _=>rfl) (by simp);have x:L.length-lo=(L.drop lo).length:=by simp
  rw [x] at h2 ⊢;have v:=SlP.three (h1:=s.cut lo 1) (h2:=g) (h3:=⟨some ⟨b,0,none⟩,1⟩) h2 (C.mono h1) ((i.mono f).mono h1) A;have h:=aF2 _ l _ _ _ (((j.mono f).mono h1).mono h2) v (((w.mono f).mono h1).mono h2) k (by grind[cY]) (by simp);rw [show cY [((s.cut lo 1),L.drop lo),(g,a),((⟨some ⟨b,0,none⟩,1⟩ : Sh),[y])]=L.drop lo++a++[y] by simp [cY]] at h;exact h)))
def aOl (e:List Y) (S:Sh) (c:List Y) (Q:Sh) (G:PM) (k:SlR G 1 aH S e) (i:SlR G 1 aH Q c) (m:RdNP G 0 0 (wa 64 kW)) (Z:e.length<=1000) (hl:c.length<=1000000):Ct prog 246 ([S.val e.length,Q.val c.length,.int .i64 ((64:Nat):Int)]:List Value).toArray G [] (fun G' μ' u=>∃ s L,L=vQ e c 2∧μ'=[]∧u=.tuple #[s.val L.length,.int .i64 0]∧SlR G' 1 aH s L):=by
 refine aD func246 ntmps246 fun w0 X=>?_;refine zg 24 ?_;refine mkY (0) ((64+32)) rfl (zl rfl) aW .v .v (by first|rfl|omega) (by first|rfl|omega) om om ?_; intro a3;have N:(xl (0) (0#8:Y)).length=0:=zu;refine zg 10 ?_;refine lop (α:=Nat×Value×List Y) (fun f=>[(8,true,f.2.1),(9,true,V (qb 8 (f.1+1)))]) (fun f=>[rB f.2.1 5 f.2.2]) (fun f Gl=>(f.1<=2)∧(f.2.2=vQ e c f.1)) (fun f=>2-f.1) (0,_,_) [(0,true,_),(1,true,_),(2,true,_)] [] ?_ (hF:=⟨fd,by (try dsimp only)<;>rfl⟩);rintro ⟨j,v,L⟩ N0 a5 C p r; dsimp only at r C ⊢;obtain ⟨hj,E⟩:=r;refine aX p k i m fun k i m=>?_;have lL:L.length=32*j:=by rw [E,aDD]
 refine zg 4 ?_;refine lr rfl .no (zn rfl) .v .here (zg 4 ?_);refine cz rfl (fun c2=>?_) fun c2=>?_
 ·refine zg 5 ?_;refine uR .here ?_; intro K F a A y; subst a;refine zg 4 ?_;refine lr rfl .no (zn rfl) .v .here (zg 1 ?_);refine mAq ((32*j-32:Nat):Int) rfl .v .v (by split<;>omega) ?_;refine sd rfl .no aAs .v .v om om (zg 2 ?_);refine Go.Tan.b1 rfl (zl rfl) aW .v rfl rfl dc ?_; intro a2;refine Go.Tan.bN rfl (zl rfl) tK (Evp.cons .v (Evp.cons .v (Evp.cons .v Evp.nil))) rfl dc (by simp [Value.oneCell',Sh.val]) ?_; intro a1;refine aP rfl (fK aL aE .here) (aVh (lo:=32*j-32) k i m om om om) ?_;rintro _ a6 J q ⟨_,rfl,_,rfl,_,rfl,rfl,rfl⟩;have m:=m.mono q;refine al rfl kG fun a4=>zg 5 ?_;refine qZ rfl .no (zr rfl) .v (dE rfl (zl rfl) aW .v .v aE (Sc.arr .here) (by (try simp only [bP,bL]); omega) ?_);intro x w M h;have P:w.length=L.length+32:=by rw [h,qa]; first|rfl | simp [bL]
  refine zg 9 ?_;exact lpo (j+1,x,w) (hE:=(jG rfl (cB rfl (by show V (qb 8 (j+1)+1#8)=_; rw [← vv]) es))) (hF:=⟨fd,by (try dsimp only)<;>(rw [h,E,aTA]; rfl)⟩)
 refine zg 6 ?_;refine lB .here ?_; intro I T g a l; subst a;have m:=m.mono g;refine zg 4 ?_;refine kM 64 rfl aAs l .v .v .v om fun D H t O n=>zg 5 ?_;refine aI ?_;obtain rfl:j=2:=by omega
 exact ⟨D,H,by rw [t,E]; exact wd (by rw [aDD]; omega),rfl,rfl,n⟩
def aOy:dK prog 239=some (ba 32 (fun _=>0#8)++ba 32 (fun _=>0#8)):=by kernel_rfl
def bCI:cU prog 239 [0,1]=some (ba 32 (fun _=>0#8)++ba 32 (fun _=>0#8),[(0,32),(32,32)]):=by kernel_rfl
def aOi (root:Nat->Y) (f:List Y) (F:Sh) (G:PM) (c:SlR G 1 aH F f) (h:RdNP G 0 0 (wa 64 kW)) (X:f.length<=1000000):Ct prog 187 ([.agg (ba 32 root).toArray,F.val f.length]:List Value).toArray G [] (fun _ μ' u=>μ'=[]∧u=.agg (ba 32 (fF root f)++ba 32 (fG root f)).toArray):=by
 refine aD func187 ntmps187 fun w0 T=>?_;refine zg 2 ?_;refine bD rfl ?_; intro b2;refine al rfl aOy fun b4=>zg 3 ?_;refine dC aE ?_; intro S t a;refine bE t c h fun c h=>?_;refine zg 1 ?_;refine Go.Tan.bN rfl (zl rfl) aW (Evp.cons .v (Evp.cons .v (Evp.cons .v (Evp.cons .v (Evp.cons .v (Evp.cons .v (Evp.cons .v (Evp.cons .v Evp.nil)))))))) rfl dc (by simp [Value.oneCell',Sh.val]) ?_; intro b8;refine mkS aMa rfl rfl aOt .v .here rfl rfl dc ?_; intro G9 I H;refine aX I c h a fun c h a=>?_;refine kA rfl .no (zr rfl) .v a (by first|exact pD|exact nC|exact app_r) ?_; intro a2 a4 D P w;refine aK rfl (aOm _ _ _ _ _ H w h dc om) ?_;refine al rfl kG fun b5=>zg 4 ?_;refine dC .here ?_; intro Q r g;refine aX r c h a fun c h a=>?_;refine zg 1 ?_;refine kA rfl .no (zr rfl) .v g (by first|exact pD|exact nC|exact app_r) fun J a3 C O v=>zg 1 ?_;refine aS rfl (aOl _ J _ F _ v c h om X) ?_;rintro _ a5 M x ⟨a1,E,q,rfl,rfl,p⟩;refine aX x h a g fun h a g=>?_;refine zg 4 ?_;have N:E.length=64:=by rw [q,aDD]
 refine zg 4 ?_;refine Wk.d0 10 (zg 1 ?_);refine kE (32) rfl .no (zl rfl) p .v .v om om ?_;intro a0 L A k n;have k:=k rfl;refine spS rfl .no (zr rfl) n .v om dc ?_;refine aY rfl ((n.arr (m:=32) om).rd) (bT _ _) (zg 1 ?_);refine kD (32) rfl .no (zl rfl) p .v .v om om ?_;intro Z K y j l;have j:=j rfl;refine spS rfl .no (zr rfl) l .v om dc ?_;refine aY rfl ((l.arr (m:=32) om).rd) (bT _ _) ?_;refine eH (ba 32 (fun i=>L.getD i 0)++ba 32 (fun i=>K.getD i 0)) rfl .no bCI (.cons (.u rfl) rfl (.cons (.u rfl) rfl .nil)) rfl (aUs dc _ _) ?_;refine dS rfl .here (by first|exact qE|exact qL|rfl) (aKL _ _) (zg 3 ?_);refine jK ?_;have e:E=aC0 root f:=by rw [q,C,D]; rfl
 exact ⟨rfl,congrArg (fun z=>Value.agg (List.toArray z)) (aUq e A y)⟩
def aER (root:Nat->Y) (h:Hd) (G:PM) (e:RdNP G 0 0 (wa 64 kW)):Ct prog 133 ([.agg (ba 32 root).toArray,.agg ([V h.kind,V h.level,uv .u64 h.gen,uv .u64 h.epoch,uv .u64 h.num]:List Value).toArray]:List Value).toArray G [] (fun _ μ' u=>μ'=[]∧u=.agg (ba 32 (fF root (aU h))++ba 32 (fG root (aU h))).toArray):=by
 refine aD func133 ntmps133 fun k i=>?_;refine zg 2 ?_;refine bD rfl ?_; intro b2;refine bD rfl ?_; intro b3;refine al rfl aOy fun b4=>zg 3 ?_;refine Wk.d0 5 (zg 2 ?_);refine aS rfl (Ct.frzB (wE _ _)) ?_;rintro _ m g f ⟨j,l,a,rfl,rfl,c⟩;have e:=e.mono f;refine aK rfl (aOi _ _ j _ c e (by rw [a,iX]; decide)) ?_;refine dS rfl .here (by first|exact qE|exact qL|rfl) (aKL _ _) (zg 3 ?_);refine jK ?_;subst a;exact ⟨rfl,rfl⟩
def aN4 (root:Nat->Y) (h:Hd) (n:BitVec 64) (p:List Y) (hp:Sh) (G:PM) (hs:SlR G 1 aH hp p) (H:RdNP G 0 0 (wa 64 kW)):Ct prog 81 ([.agg (ba 32 root).toArray,.agg ([V h.kind,V h.level,uv .u64 h.gen,uv .u64 h.epoch,uv .u64 h.num]:List Value).toArray,uv .u64 n,hp.val p.length]:List Value).toArray G [] (fun _ μ' u=>∃ v L e,(L,e)=lW root h n p∧μ'=[rB v 5 L]∧u=.tuple #[v,.int .i64 e]):=by
 refine aD func81 ntmps81 fun w0 e7=>?_;refine zg 2 ?_;refine bD rfl ?_; intro b4;refine bD rfl fun b5=>zg 12 ?_;refine .cond rfl (aC fun c1=>?_) (aC fun c1=>?_)
 ·refine zg 7 ?_;refine nW 5 ?_;refine aR bH ?_;exact ⟨_,[],4,aVF om,rfl,rfl⟩
 refine zg 3 ?_;refine Wk.draw (mc:=⟨false,false⟩) [0,1,3,5,7,2,4,6,8,9] dM kr (zg 5 ?_);refine aK rfl (aER root h _ H) ?_;refine aK rfl (aET _ _) ?_;refine aS rfl (Ct.frzB (wE h _)) ?_;rintro _ f6 e2 c9 ⟨d8,d9,a7,rfl,rfl,c6⟩;refine bE c9 hs H fun hs H=>?_;refine aS rfl (iF (aHn (fF root (aU h)) (fG root (aU h)) (iQ n) d9 d8 p hp _ c6 hs H (by rw [a7,iX]; decide) om)) ?_;rintro e6 f5 e1 c8 ⟨T,e3,a6,rfl⟩;have H:=H.mono c8;refine zg 2 ?_;have e4:T.length=p.length+16:=by rw [a6,uJ]
 refine zg 2 ?_;refine lB .here ?_; intro e0 e5 a4 b8 a9; subst b8;have H:=H.mono a4;refine zg 6 ?_;refine aAk 5 (zg 5 ?_);refine lop (α:=Nat×Sh×List Y×Value×List Y) (fun I=>[(10,true,I.2.1.val I.2.2.1.length),(11,true,I.2.2.2.1),(12,true,.bool (decide (I.1=0)))]) (fun I=>[rB I.2.2.2.1 5 I.2.2.2.2]) (fun I Gl=>(SlR Gl 1 aH I.2.1 I.2.2.1)∧(I.2.2.1=T.drop (128*I.1))∧(I.2.2.2.2=qV T I.1)∧(128*I.1<=T.length+127)) (fun I=>I.2.2.1.length) (0,_,_,.slice none 0 0,[]) [] [_,_] ?_ (hF:=⟨a9,by (try dsimp only)<;>rfl,by (try dsimp only)<;>rfl,fd⟩);rintro ⟨j,r,M,v,O⟩ N0 f3 d7 c7 d0; dsimp only at d0 d7 ⊢;obtain ⟨F,eM,eO,hj⟩:=d0;have H:=H.mono c7;have lM:M.length=T.length-128*j:=by rw [eM]; simp
 have d4:=aGP T j;rw [← eO] at d4;refine zg 8 ?_;refine .cond rfl (aC fun c2=>?_) (aC fun c2=>?_)
 ·refine zg 8 ?_;refine sN (M.length) (128) rfl .no .v .v om om (zg 28 ?_);refine .cond rfl (aC fun c3=>?_) (aC fun c3=>?_)
  ·refine zg 6 ?_;refine Wk.draw (mc:=⟨false,false⟩) [0,1,2,3,4,7,8,9,5,6,10,11] dM kr (zg 4 ?_);refine kE ((min M.length 128)) rfl .no (zl rfl) F .v .v om om ?_;intro N S A i c;have i:=i rfl;refine zg 2 ?_;refine kE ((min M.length 128)) rfl .no (zl rfl) F .v .v om om ?_;intro b6 Q y g a;have g:=g rfl;refine aS rfl (Ct.frzB (aED 1#8 S N _ c om)) ?_;rintro _ b9 X w ⟨b7,E,m,rfl,rfl,t⟩;refine bW w H F c a fun H F c a=>?_;have a3:E.length=7:=by rw [m]; exact aBR _ _
   refine dE rfl (zl rfl) aW .v .v .here t.sc (by (try simp only [bP,bL]); omega) ?_;intro a8 D a0 l;have a2:D.length=O.length+E.length:=by rw [l,qa]
   refine dE rfl (zl rfl) aW .v .v .here a.sc (by (try simp only [bP,bL]); omega) ?_;intro J C Z k;have a1:C.length=D.length+Q.length:=by rw [k,qa]
   refine zg 6 ?_;refine kD ((min M.length 128)) rfl .no (zl rfl) F .v .v om om ?_;intro K P x f q;have f:=f rfl;refine zg 7 ?_;exact lpo (j+1,K,P,J,C) (hE:=(jG rfl (jG rfl (cB rfl (by simp) eZ)))) (hF:=⟨q,by (try dsimp only)<;>(rw [x,eM]; exact aC6),aDx eO eM A y m l k (aU0 om om),fd⟩)
  refine zg 6 ?_;refine .cond rfl (aC fun c4=>?_) (aC fun c4=>?_)
  ·refine zg 6 ?_;refine Wk.draw (mc:=⟨false,false⟩) [0,1,2,3,4,7,8,9,5,6,10,11] dM kr (zg 4 ?_);refine kE ((min M.length 128)) rfl .no (zl rfl) F .v .v om om ?_;intro N S A i c;have i:=i rfl;refine zg 2 ?_;refine kE ((min M.length 128)) rfl .no (zl rfl) F .v .v om om ?_;intro b6 Q y g a;have g:=g rfl;refine aS rfl (Ct.frzB (aED 2#8 S N _ c om)) ?_;rintro _ b9 X w ⟨b7,E,m,rfl,rfl,t⟩;refine bW w H F c a fun H F c a=>?_;have a3:E.length=7:=by rw [m]; exact aBR _ _
   refine dE rfl (zl rfl) aW .v .v .here t.sc (by (try simp only [bP,bL]); omega) ?_;intro a8 D a0 l;have a2:D.length=O.length+E.length:=by rw [l,qa]
   refine dE rfl (zl rfl) aW .v .v .here a.sc (by (try simp only [bP,bL]); omega) ?_;intro J C Z k;have a1:C.length=D.length+Q.length:=by rw [k,qa]
   refine zg 6 ?_;refine kD ((min M.length 128)) rfl .no (zl rfl) F .v .v om om ?_;intro K P x f q;have f:=f rfl;refine zg 7 ?_;exact lpo (j+1,K,P,J,C) (hE:=(jG rfl (jG rfl (cB rfl (by simp) eZ)))) (hF:=⟨q,by (try dsimp only)<;>(rw [x,eM]; exact aC6),aDx eO eM A y m l k (aUz om om),fd⟩)
  refine zg 6 ?_;refine .cond rfl (aC fun c5=>?_) (aC fun c5=>?_)
  ·refine zg 6 ?_;refine Wk.draw (mc:=⟨false,false⟩) [0,1,2,3,4,7,8,9,5,6,10,11] dM kr (zg 4 ?_);refine kE ((min M.length 128)) rfl .no (zl rfl) F .v .v om om ?_;intro N S A i c;have i:=i rfl;refine zg 2 ?_;refine kE ((min M.length 128)) rfl .no (zl rfl) F .v .v om om ?_;intro b6 Q y g a;have g:=g rfl;refine aS rfl (Ct.frzB (aED 4#8 S N _ c om)) ?_;rintro _ b9 X w ⟨b7,E,m,rfl,rfl,t⟩;refine bW w H F c a fun H F c a=>?_;have a3:E.length=7:=by rw [m]; exact aBR _ _
   refine dE rfl (zl rfl) aW .v .v .here t.sc (by (try simp only [bP,bL]); omega) ?_;intro a8 D a0 l;have a2:D.length=O.length+E.length:=by rw [l,qa]
   refine dE rfl (zl rfl) aW .v .v .here a.sc (by (try simp only [bP,bL]); omega) ?_;intro J C Z k;have a1:C.length=D.length+Q.length:=by rw [k,qa]
   refine zg 6 ?_;refine kD ((min M.length 128)) rfl .no (zl rfl) F .v .v om om ?_;intro K P x f q;have f:=f rfl;refine zg 7 ?_;exact lpo (j+1,K,P,J,C) (hE:=(jG rfl (jG rfl (cB rfl (by simp) eZ)))) (hF:=⟨q,by (try dsimp only)<;>(rw [x,eM]; exact aC6),aDx eO eM A y m l k (aU1 om om),fd⟩)
  refine zg 4 ?_;refine Wk.draw (mc:=⟨false,false⟩) [0,1,2,3,4,7,8,9,5,6,10,11] dM kr (zg 4 ?_);refine kE ((min M.length 128)) rfl .no (zl rfl) F .v .v om om ?_;intro N S A i c;have i:=i rfl;refine zg 2 ?_;refine kE ((min M.length 128)) rfl .no (zl rfl) F .v .v om om ?_;intro b6 Q y g a;have g:=g rfl;refine aS rfl (Ct.frzB (aED 3#8 S N _ c om)) ?_;rintro _ b9 X w ⟨b7,E,m,rfl,rfl,t⟩;refine aX w H F a fun H F a=>?_;have a3:E.length=7:=by rw [m]; exact aBR _ _
  refine dE rfl (zl rfl) aW .v .v .here t.sc (by (try simp only [bP,bL]); omega) ?_;intro a8 D a0 l;have a2:D.length=O.length+E.length:=by rw [l,qa]
  refine dE rfl (zl rfl) aW .v .v .here a.sc (by (try simp only [bP,bL]); omega) ?_;intro J C Z k;have a1:C.length=D.length+Q.length:=by rw [k,qa]
  refine zg 6 ?_;refine kD ((min M.length 128)) rfl .no (zl rfl) F .v .v om om ?_;intro K P x f q;have f:=f rfl;refine zg 7 ?_;exact lpo (j+1,K,P,J,C) (hE:=(jG rfl (jG rfl (cB rfl (by simp) eZ)))) (hF:=⟨q,by (try dsimp only)<;>(rw [x,eM]; exact aC6),aDx eO eM A y m l k (aU2 om om),fd⟩)
 refine zg 13 ?_;refine aR bH ?_;exact ⟨v,O,0,aVE om (by rw [a6,a7]) eO om,rfl,rfl⟩
def yR:bsT prog 148 9=true:=by kernel_rfl
def aE7 (n:BitVec 64) (G:PM) (w:n.toNat<10):Ct prog 169 ([uv .u64 n]:List Value).toArray G [] (fun _ μ' u=>μ'=[]∧u=.string (aQ (rD n.toNat))):=by
 refine aD func169 ntmps169 fun H y=>?_;refine zg 6 ?_;refine aAk 5 (zg 6 ?_);refine lop (α:=Nat×Value) (fun g=>[(0,true,uv .u64 (sA n g.1)),(3,true,g.2)]) (fun g=>[rB g.2 5 (zJ n.toNat g.1)]) (fun g L=>(g.1<=6)) (fun g=>6-g.1) (0,.slice none 0 0) [] [] ?_;rintro ⟨k,v⟩ K F r x j; dsimp only at j r ⊢;have A:=j;have J:=aSE (d:=n.toNat) A; have I:k=0∨@BitVec.toNat IntKind.u64.bits (sA n k)=0:=(zm k).imp id aSD;refine zg 7 ?_;refine lr rfl (.f rfl rfl) (zn rfl) (.s rfl) .here (zg 4 ?_);refine .cond rfl (aC fun C=>?_) (aC fun C=>?_)
 ·refine zg 4 ?_;refine uR .here ?_; intro p m e i c; subst e;refine zg 2 ?_;refine mw (k:=.u64) (b:=10#64) rfl .no .v .v (fun _=>show (10#64:BitVec 64)≠0#64 by decide) ?_;refine bw (k:=.u64) (a:=48#64) rfl .no rfl .v .v rfl (zg 1 ?_);refine Go.Tan.b1 rfl (zl rfl) aW .v rfl rfl dc fun D=>zg 1 ?_;refine apB [_] rfl (zl rfl) aW .v rfl rfl .v .here (vD aE c) (by show 1+(zJ n.toNat k).length<=_; omega) fun h E t l=>zg 6 ?_;refine dw (k:=.u64) (b:=10#64) rfl .no rfl .v .v (fun _=>show (10#64:BitVec 64)≠0#64 by decide) (zg 2 ?_);have q:k<6:=by omega
  exact lpo (k+1,h) (hE:=(cB rfl (congrArg (uv .u64) (aSC w)) es)) (hM:=(mS .here (congrArg (rB h 5) (l.trans (aSF w q))) mN))
 refine zg 6 ?_;refine uR .here ?_; intro p m e i c; subst e;refine zg 2 ?_;refine sB rfl .no yR .v (fun _=>(vD .here c)) (zg 4 ?_);refine aI ?_;obtain rfl:k=6:=by omega
 exact ⟨rfl,rfl⟩
def rL:(prog.info? 9).bind (·.zero)=some (.string ByteArray.empty):=by kernel_rfl
def mF:sQ prog 143=some 150:=by kernel_rfl
def wS:(prog.info? 150).bind (·.zero)=some (.agg #[.slice none 0 0,.int .i64 0]):=by kernel_rfl
def uV:dK prog 150=some ([.slice none 0 0,.int .i64 0]):=by kernel_rfl
def aDg (k:Y) (n:BitVec 64) (G:PM) (a:n.toNat<10):Ct prog 112 ([V k,uv .u64 n]:List Value).toArray G [] (fun _ μ' u=>μ'=[]∧u=.string (cK k.toNat n.toNat)):=by
 refine aD func112 ntmps112 fun l c=>?_;have e:@BitVec.toNat IntKind.u8.bits k = @BitVec.toNat 8 k:=rfl;refine zg 18 ?_;refine cz rfl (fun j=>?_) fun j=>?_
 ·refine zg 3 ?_;refine aK rfl (aE7 _ _ a) ?_;refine sP rfl .no .v .v (fun _=>by rw [fJ]; show 6+4<=9223372036854775807; omega) (zg 4 ?_);refine aI ?_;exact ⟨rfl,congrArg Value.string (aWH om)⟩
 refine zg 6 ?_;refine cz rfl (fun i=>?_) fun i=>?_
 ·refine zg 3 ?_;refine aK rfl (aE7 _ _ a) ?_;refine sP rfl .no .v .v (fun _=>by rw [fJ]; show 6+4<=9223372036854775807; omega) (zg 4 ?_);refine aI ?_;exact ⟨rfl,congrArg Value.string (aWI om)⟩
 refine zg 6 ?_;refine cz rfl (fun h=>?_) fun h=>?_
 ·refine zg 3 ?_;refine aK rfl (aE7 _ _ a) ?_;refine sP rfl .no .v .v (fun _=>by rw [fJ]; show 9+6<=9223372036854775807; omega) (zg 4 ?_);refine aI ?_;exact ⟨rfl,congrArg Value.string (aWJ om)⟩
 refine zg 6 ?_;refine cz rfl (fun g=>?_) fun g=>?_
 ·refine zg 6 ?_;refine aI ?_;exact ⟨rfl,congrArg Value.string (aWK om)⟩
 refine zg 6 ?_;refine cz rfl (fun f=>?_) fun f=>?_
 ·refine zg 6 ?_;refine aI ?_;exact ⟨rfl,congrArg Value.string (aWL om)⟩
 refine zg 9 ?_;refine aI ?_;exact ⟨rfl,congrArg Value.string (aWG om om om om om)⟩
def zU (h:Sh) (l:List ByteArray) (G:PM) (e:SlR G 1 iH h l) (t:l.length<=1000000) (n:∀ s∈l,eC s):Ct prog 190 ([h.val l.length]:List Value).toArray G [] (fun _ μ' u=>μ'=[]∧u=.bool true):=by
 refine aD func190 ntmps190 fun r m=>?_;refine zg 14 ?_;refine lop (α:=Nat) (fun k=>[(7,true,.int .i64 (k:Int))]) (fun _=>[]) (fun k y=>(k<=l.length)) (fun k=>l.length-k) 0 [(5,true,_),(6,true,_)] [] ?_;intro k w q f a c; try dsimp only at c f ⊢
 have v:=c;have e:=e.mono a;refine zg 6 ?_;refine .cond rfl (aC fun p=>?_) (aC fun p=>?_)
 ·refine zg 6 ?_;refine cN rfl e k ?_;obtain ⟨x,ex⟩:=cE (k:=k) (xs:=l) om;have i:=n x (qm ex);refine aM rfl ((e.at om ex 0 _ rfl).rd) (zg 6 ?_);refine cs rfl .no .v .v rfl (zg 7 ?_);refine .cond rfl (fun g=>by rw [aZj i.1] at g; have j:=i.2; simp at g; omega) (aC fun g=>?_);refine zg 7 ?_;exact lpo (k+1)
 refine zg 11 ?_;refine aI ?_;exact ⟨rfl,rfl⟩
def aDv (bd c room done clk:Nat) (F:List Fi) (G:PM) (x:DkR F clk) (r:done<=1000000000) (k:room<=1000000000) (nm:ByteArray) (a:Bool) (h:Sh) (l:List ByteArray) (e:SlR G 1 iH h l) (p:l.length<=1000000) (q:∀ s∈l,eC s) (m:eC nm) (ht:a=true->(aJ nm F).isSome=true):Ct prog 136 ([.pointer (some ⟨bd,0,none⟩),.string nm,.bool a,h.val l.length]:List Value).toArray G [.blk bd (cl (aT c room (done)) 145),.blk c (mO ((F).map Fi.fe) (clk))] (fun _ μ' u=>μ'=[.blk bd (cl (aT c room (done)) 145),.blk c (mO ((F).map Fi.fe) (clk))]∧u=.int .i64 0):=by
 refine aD func136 ntmps136 fun t j=>?_;refine zg 19 ?_;refine Go.Tan.b1 rfl (zl rfl) rL .v rfl rfl dc ?_; intro g;refine eX rfl (Gp.add .here Gp.nil) (fun n v=>zU ⟨some ⟨g,0,none⟩,1⟩ [nm] _ (gN (xs:=[nm]) (bI _ _ _) (fun _ _=>rfl) (qc 1)) (by show 1<=_; omega) (fun s e=>by rw [qd.1 e]; exact m)) (zg 3 ?_);refine kv rfl (.f rfl rfl) (zf rfl) (Eva.cons (.s rfl) dL) (fun w=>zU _ _ _ e p q) (zg 40 ?_);refine aDU rfl .no mF wS .v .v (aAG aL) (aFy) (aKY) (zg 3 ?_);refine al rfl uV fun y=>zg 13 ?_;refine .cond rfl (fun i=>absurd i (by cases a<;>simp_all)) (aC fun i=>?_);refine zg 8 ?_;refine aR (mS aL rfl (mS aL rfl mN)) ?_;exact ⟨rfl,rfl⟩
def zK (bd a room done:Nat) (G:PM) (e:done<=2000000000):Ct prog 138 ([.pointer (some ⟨bd,0,none⟩)]:List Value).toArray G [.blk bd (cl (aT a room done) 145)] (fun _ μ' u=>μ'=[.blk bd (cl (aT a room (done+1)) 145)]∧u=.int .i64 0):=by
 refine aD func138 ntmps138 fun f c=>?_;refine zg 36 ?_;refine aR bH ?_;exact ⟨rfl,rfl⟩
def aMk (bd w room done clk:Nat) (F:List Fi) (G:PM) (m:DkR F clk) (j:PB G bd (cl (aT w room done) 145)) (a:PB G w (mO (F.map Fi.fe) clk)):Ct prog 137 ([.pointer (some ⟨bd,0,none⟩)]:List Value).toArray G [] (fun _ μ' u=>μ'=[]∧u=.int .i64 ((aV F:Nat):Int)):=by
 refine aD func137 ntmps137 fun K D=>?_;refine zg 24 ?_;refine rgS rfl mF .v (xV a.h) fun x=>zg 3 ?_;refine lop (α:=List Nat×Nat) (fun f=>[(3,true,.int .i64 ((mC f.1 F:Nat):Int))]) (fun f=>[.blk x (iY w clk f.2 f.1)]) (fun f O=>(f.2=clk)) (fun f=>pK f.1 F) ([],clk) [(12,true,_)] [] ?_ (hE:=(cB rfl (by rw [aNI]; rfl) es));rintro ⟨seen,last⟩ I J v k l; dsimp only at l v ⊢;have E:=l;refine bE k j a fun j a=>?_;have C:=aG1 (seen:=seen) (F:=F); have H:=m.few; have i:∀ e∈F.map Fi.fe,e.2.2<last:=by rw [E]; exact m.oldE
 refine zg 2 ?_;refine nxS rfl .v .here (xV a.h) m.oldE i ?_; intro g c;refine ex rfl .no .v (aLT _) (zg 3 ?_);refine .cond rfl (fun A=>?_) (fun A=>?_)
 ·obtain ⟨M,rfl⟩:=Option.isSome_iff_exists.1 A;obtain ⟨p,t,rfl,q,r⟩:=aNH m.nd c;have y:=aG1 (seen:=seen++[p.born]) (F:=F);refine zg 5 ?_;refine etS rfl .v .here (xV a.h) (aJV m.nd t) (zg 1 ?_);refine al rfl uV fun N=>zg 8 ?_;refine eN (((mC seen F+p.n):Nat):Int) rfl om (cP om om) (zg 3 ?_);exact lpo (seen++[p.born],clk) (hE:=(cB rfl (by rw [q]) es)) (hm:=by have L:pK (seen++[p.born]) F+1=pK seen F:=r; show pK (seen++[p.born]) F<I; omega)
 have:g=none:=by cases g<;>simp_all
 subst this;have hE:=aNG c;refine zg 12 ?_;refine aI ?_;exact ⟨rfl,by rw [hE]; rfl⟩
def aRy (bd e room done clk:Nat) (F:List Fi) (G:PM) (v:DkR F clk) (r:done<=1000000000) (p:room<=1000000000) (nm:ByteArray) (h:Sh) (xs:List Y) (i:SlR G 1 aH h xs) (K:eC nm) (j:aJ nm F=none) (Q:xs.length<=1000000000) (C:xs.length+aV F<=room):Ct prog 83 ([.pointer (some ⟨bd,0,none⟩),.string nm,h.val xs.length]:List Value).toArray G [.blk bd (cl (aT e room (done)) 145),.blk e (mO ((F).map Fi.fe) (clk))] (fun G' μ' u=>∃ f:Fi,f.nm=nm∧f.n=xs.length∧f.safe=0∧f.born=clk∧SlR G' 1 aH f.h xs∧μ'=[.blk bd (cl (aT e room (done+1)) 145),.blk e (mO ((F++[f]).map Fi.fe) (clk+1))]∧u=.int .i64 0):=by
 refine aD func83 ntmps83 fun P I=>?_;have M:=v.few;refine zg 10 ?_;refine aP rfl (dY .here .here) (aDv bd e room done clk F _ v r p nm false ⟨none,0⟩ [] dD (qo _) (fun s i=>absurd i qf) K (fun h=>absurd h dc)) ?_;rintro _ O x l ⟨rfl,rfl⟩;have i:=i.mono l;refine zg 14 ?_;refine Wk.d0 10 (zg 7 ?_);refine eX rfl (Gp.add aE (Gp.add .here Gp.nil)) (fun L J=>aMk bd e room done clk F _ v ⟨J.1 _ _ (bI _ _ _)⟩ ⟨bI _ _ _⟩) (zg 4 ?_);refine .cond rfl (fun D=>by simp only [decide_eq_true_eq] at D; omega) (aC fun D=>?_);refine zg 9 ?_;refine lkS rfl .no mF wS .v .v (aAG aE) (aKZ j) ?_;refine al rfl uV fun S=>zg 4 ?_;refine aAk 5 (zg 9 ?_);refine k00 rfl aAs .v .v .v (zg 1 ?_);refine dE rfl (zl rfl) aW .v .v .here i.sc (by (try simp only [bP,bL]); omega) ?_;intro H g y c;have A:g.length=([]:List Y).length+xs.length:=by rw [c,qa]
 refine zg 1 ?_;refine cW rfl .here aE (by first|(simp [aT,Fi.cells]; done)|decide) rfl (zg 3 ?_);refine lB aE ?_; intro E t q m a; subst m;refine Wk.d0 7 (zg 6 ?_);refine muS rfl mF .v .v .v aL (aBa j) (zg 5 ?_);refine aP rfl (aZ aL) (zK bd e room done _ om) ?_;rintro _ N w k ⟨rfl,rfl⟩;have a:=a.mono k;refine zg 4 ?_;refine aR dG ?_;exact ⟨⟨nm,t,xs.length,0,clk⟩,rfl,rfl,rfl,rfl,by rw [show xs=g by rw [c]; rfl]; exact a,by rw [← aFN]; simp only [Fi.fe,Fi.val,Fi.cells,←show g.length=xs.length by rw [c]; rfl]; rfl,rfl⟩
def aR5 (bd a room done clk:Nat) (F:List Fi) (G:PM) (p:DkR F clk) (g:done<=1000000000) (e:room<=1000000000) (nm:ByteArray) (f:Fi) (m:eC nm) (c:aJ nm F=some f):Ct prog 139 ([.pointer (some ⟨bd,0,none⟩),.string nm]:List Value).toArray G [.blk bd (cl (aT a room (done)) 145),.blk a (mO ((F).map Fi.fe) (clk))] (fun _ μ' u=>μ'=[.blk bd (cl (aT a room (done+1)) 145),.blk a (mO ((dF nm F).map Fi.fe) (clk))]∧u=.int .i64 0):=by
 refine aD func139 ntmps139 fun r k=>?_;refine zg 10 ?_;refine aP rfl (dY .here .here) (aDv bd a room done clk F _ p g e nm true ⟨none,0⟩ [] dD (qo _) (fun s l=>absurd l qf) m (fun _=>by rw [c]; rfl)) ?_;rintro _ v j n ⟨rfl,rfl⟩;refine zg 19 ?_;refine lkS rfl .no mF wS .v .v (aAG aE) (aFx c) ?_;refine al rfl uV fun t=>zg 13 ?_;refine Wk.d0 7 (zg 6 ?_);refine muT rfl mF .v .v .v aL (aAA c) (zg 5 ?_);refine aP rfl (aZ aL) (zK _ _ _ _ _ om) ?_;rintro _ q h i ⟨rfl,rfl⟩;refine zg 4 ?_;refine aR dG ?_;exact ⟨by rw [← aK0 c]; rfl,rfl⟩
def aR4 (bd c room done clk:Nat) (F:List Fi) (G:PM) (v:DkR F clk) (i:done<=1000000000) (e:room<=1000000000) (nm a:ByteArray) (f:Fi) (t:eC nm) (g:eC a) (h:aJ nm F=some f) (j:aJ a (dQ nm F)=none):Ct prog 126 ([.pointer (some ⟨bd,0,none⟩),.string nm,.string a]:List Value).toArray G [.blk bd (cl (aT c room (done)) 145),.blk c (mO ((F).map Fi.fe) (clk))] (fun _ μ' u=>μ'=[.blk bd (cl (aT c room (done+1)) 145),.blk c (mO ((dQ nm F++[{ f with nm:=a,born:=clk }]).map Fi.fe) (clk+1))]∧u=.int .i64 0):=by
 refine aD func126 ntmps126 fun y q=>?_;refine zg 11 ?_;refine Go.Tan.b1 rfl (zl rfl) rL .v rfl rfl dc ?_; intro k;refine aP rfl (fK .here .here .here) (rI fun _=>aDv bd c room done clk F _ v i e nm true ⟨some ⟨k,0,none⟩,1⟩ [a] (gN (xs:=[a]) (bI _ _ _) (fun _ _=>rfl) (qc 1)) (by show 1<=_; omega) (fun s r=>by rw [qd.1 r]; exact g) t (fun _=>by rw [h]; rfl)) ?_;rintro _ x m p ⟨rfl,rfl⟩;refine zg 19 ?_;refine lkS rfl .no mF wS .v .v (aAG aE) (aFx h) ?_;refine al rfl uV fun A=>zg 10 ?_;refine dlS rfl mF .v .v aL (aAA h) (zg 3 ?_);refine Wk.d0 7 (zg 6 ?_);refine muS rfl mF .v .v .v .here (by rw [aDY]; exact aBa j) (zg 5 ?_);refine aP rfl (aZ aL) (zK _ _ _ _ _ om) ?_;rintro _ w l n ⟨rfl,rfl⟩;refine zg 4 ?_;refine aR dG ?_;exact ⟨by rw [← aFN,←aDY]; rfl,rfl⟩
def bCA:cU prog 158 []=some ([.int .u64 0,.int .u64 0],[]):=by kernel_rfl
def bB9:cU prog 156 [0,1]=some ([.int .u64 0,.int .u64 0],[(0,1),(1,1)]):=by kernel_rfl
def bCq:dK prog 156=some ([.int .u64 0,.int .u64 0]):=by kernel_rfl
def bCZ:vP prog 2 156 ([.int .u64,.int .u64])=true:=by kernel_rfl
def bB8:cU prog 145 [0,1,3]=some ([.map none,.int .i64 0,.bool false,.int .i64 0,.int .i64 0],[(0,1),(1,1),(3,1)]):=by kernel_rfl
def sS (G:PM):Ct prog 82 ([.int .i64 0]:List Value).toArray G [] (fun _ μ' u=>μ'=[]∧u=.tuple #[]):=by
 refine aD func82 ntmps82 fun c a=>?_;refine zg 9 ?_;refine aI ?_;exact ⟨rfl,rfl⟩
def zL (b:Bool) (c:b=true) (G:PM):Ct prog 88 ([.bool b]:List Value).toArray G [] (fun _ μ' u=>μ'=[]∧u=.tuple #[]):=by
 subst c;refine aD func88 ntmps88 fun e a=>?_;refine zg 9 ?_;refine aI ?_;exact ⟨rfl,rfl⟩
def bAn (G:PM):Ct prog 34 ([]:List Value).toArray G [] (fun _ μ' u=>∃ bt,μ'=[.blk bt (cl [uv .u64 (0),uv .u64 (0)] 158)]∧u=.pointer (some ⟨bt,0,none⟩)):=by
 refine aD func34 ntmps34 fun c a=>?_;refine zg 7 ?_;refine bC rfl .no bCA .nil rfl ?_;refine bD rfl fun b2=>zg 4 ?_;refine aR bH ?_;exact ⟨b2,rfl,rfl⟩
def aBe (a:Nat) (m o:BitVec 64) (G:PM) (e:PB G a (cl [uv .u64 m,uv .u64 o] 158)):Ct prog 79 ([.pointer (some ⟨a,0,none⟩)]:List Value).toArray G [] (fun _ μ' u=>μ'=[]∧u=uv .u64 m):=by
 refine aD func79 ntmps79 fun f c=>?_;refine zg 26 ?_;refine aI ?_;exact ⟨rfl,rfl⟩
def aVm (c:Nat) (m o:BitVec 64) (G:PM) (hm:m.toNat<=1000000):Ct prog 140 ([.pointer (some ⟨c,0,none⟩),uv .u64 (m+1#64)]:List Value).toArray G [.blk c (cl [uv .u64 (m),uv .u64 (o)] 158)] (fun _ μ' u=>μ'=[.blk c (cl [uv .u64 (m+1#64),uv .u64 (o)] 158)]∧u=.int .i64 0):=by
 refine aD func140 ntmps140 fun l i=>?_;have a:@BitVec.toNat IntKind.u64.bits (m+1#64) = @BitVec.toNat 64 m+1:=by show (m+1#64).toNat=_; rw [qaH]; show (m.toNat+1)%2^64=_; omega
 have j:@BitVec.toNat 64 (m+1#64) = @BitVec.toNat 64 m+1:=a;refine zg 23 ?_;refine bC rfl .no bB9 (.cons .v rfl (.cons .v rfl .nil)) rfl ?_;refine al rfl bCq ?_; intro n;refine dS rfl .here rfl (aNw _ _) (zg 4 ?_);refine Wk.d0 20 (zg 3 ?_);refine lA rfl (.f rfl rfl) (za rfl) .v (fun _=>RdN.own .here) (fun _=>(by first|exact qE|exact qL|rfl)) (zg 3 ?_);refine lA rfl (.f rfl rfl) (za rfl) (.s rfl) (fun _=>RdN.own aE) (fun _=>(by first|exact qE|exact qL|rfl)) ?_;refine eqC (false) rfl (.f rfl rfl) bCZ (.s rfl) (.s rfl) (fun e=>.u64 (.u64 .nil)) (fun e=>.u64 (.u64 .nil)) (fun e=>⟨fun h=>absurd h dc,fun h=>by have:=aVt h; omega⟩) (zg 3 ?_);refine bw (k:=.u64) (b:=1#64) rfl (.f rfl rfl) rfl (.s rfl) .v rfl (zg 9 ?_);refine .cond rfl (fun g=>(aVu hm g).elim) (aC fun g=>?_);refine zg 8 ?_;refine dS rfl aE rfl (aNw _ _) (zg 8 ?_);refine aR bH ?_;exact ⟨rfl,rfl⟩
def bAo (a:Nat) (m o:BitVec 64) (G:PM) (h:o.toNat<=1000000):Ct prog 63 ([.pointer (some ⟨a,0,none⟩)]:List Value).toArray G [.blk a (cl [uv .u64 (m),uv .u64 (o)] 158)] (fun _ μ' u=>μ'=[.blk a (cl [uv .u64 (m),uv .u64 (o+1#64)] 158)]∧u=.tuple #[uv .u64 (o+1#64),.int .i64 0]):=by
 refine aD func63 ntmps63 fun g e=>?_;have f:@BitVec.toNat IntKind.u64.bits o = @BitVec.toNat 64 o:=rfl;refine zg 27 ?_;refine .cond rfl (fun c=>by have:=of_decide_eq_true c; omega) (aC fun c=>?_);refine zg 28 ?_;refine aR bH ?_;exact ⟨rfl,rfl⟩
def aST (room:Nat) (G:PM) (f:room<=1000000000):Ct prog 33 ([.int .i64 ((room:Nat):Int)]:List Value).toArray G [] (fun _ μ' u=>∃ bd bm,μ'=[.blk bd (cl (aT bm room 0) 145),.blk bm (mO [] 0)]∧u=.pointer (some ⟨bd,0,none⟩)):=by
 refine aD func33 ntmps33 fun e a=>?_;refine zg 7 ?_;refine mkM rfl fun b3=>zg 1 ?_;refine xU 0 room rfl .no .v .v (fun _=>rfl) (fun _=>rfl) ?_;refine bC rfl .no bB8 (.cons .v rfl (.cons .v rfl (.cons .v rfl .nil))) rfl ?_;refine bD rfl fun c=>zg 4 ?_;refine aR dG ?_;exact ⟨c,b3,by rw [show max 0 room=room by omega]; rfl,rfl⟩
def aR9 (bd e room done clk:Nat) (F:List Fi) (G:PM) (c:PB G bd (cl (aT e room done) 145)):Ct prog 62 ([.pointer (some ⟨bd,0,none⟩)]:List Value).toArray G [] (fun _ μ' u=>μ'=[]∧u=.bool false):=by
 refine aD func62 ntmps62 fun f a=>?_;refine zg 19 ?_;refine aI ?_;exact ⟨rfl,rfl⟩
def aR2 (bd f room done clk:Nat) (F:List Fi) (G:PM) (l:PB G bd (cl (aT f room done) 145)) (c:PB G f (mO (F.map Fi.fe) clk)) (nm:ByteArray) (j:eC nm) (a:aJ nm F=none):Ct prog 168 ([.pointer (some ⟨bd,0,none⟩),.string nm]:List Value).toArray G [] (fun _ μ' u=>μ'=[]∧u=.tuple #[.slice none 0 0,.int .i64 2]):=by
 refine aD func168 ntmps168 fun m g=>?_;refine zg 19 ?_;refine Go.Tan.b1 rfl (zl rfl) rL .v rfl rfl dc ?_; intro e;refine eX rfl (Gp.add .here Gp.nil) (fun k n=>zU ⟨some ⟨e,0,none⟩,1⟩ [nm] _ (gN (xs:=[nm]) (bI _ _ _) (fun _ _=>rfl) (qc 1)) (by show 1<=_; omega) (fun s i=>by rw [qd.1 i]; exact j)) (zg 25 ?_);refine aDU rfl .no mF wS .v .v (xV c.h) (aKZ a) (aVY a) (zg 3 ?_);refine al rfl uV fun p=>zg 19 ?_;refine aI ?_;exact ⟨rfl,rfl⟩
def aZd (a b:Meta) (G:PM) (f:0<=a.level):Ct prog 157 ([a.val,b.val]:List Value).toArray G [] (fun _ μ' u=>μ'=[]∧u=.bool (qW a.level a b)):=by
 refine aD func157 ntmps157 fun h g=>?_;refine zg 2 ?_;refine bD rfl ?_; intro b2;refine bD rfl fun b3=>zg 11 ?_;refine .cond rfl (fun e=>?_) (fun e=>?_)
 ·have c:=e;try simp only [dR] at e
  refine zg 11 ?_;refine aI ?_;exact ⟨rfl,congrArg Value.bool (by rw [← aMx _ _ f,if_pos c])⟩
 have c:=e;try simp only [dR] at e
 refine zg 8 ?_;refine cs rfl .no .v .v rfl (zg 4 ?_);refine aI ?_;exact ⟨rfl,congrArg Value.bool (by rw [← aMx _ _ f,if_neg (by rw [c]; simp)]; rfl)⟩
def aTO (s:State) (hd:Nat->Sh) (m:Meta) (b:Nat) (G:PM) (n:RdNP G b 0 (s.cells hd)) (v:0<=m.level):Ct prog 156 ([.pointer (some ⟨b,0,none⟩),m.val]:List Value).toArray G [] (fun _ μ' u=>μ'=[]∧u=.bool (good s m)):=by
 refine aD func156 ntmps156 fun r q=>?_;refine zg 2 ?_;refine bD rfl fun b3=>zg 14 ?_;refine .cond rfl (fun g=>?_) (fun g=>?_)
 ·have l:=g;try simp only [dR] at g
  refine zg 2 ?_;refine vF rfl l (zg 6 ?_);refine aI ?_;exact ⟨rfl,by simp [fX,good]; omega⟩
 try simp only [dR] at g
 refine zg 6 ?_;refine cs rfl .no .v .v rfl (zg 3 ?_);refine .cond rfl (fun f=>?_) (fun f=>?_)
 ·have a:=f;try simp only [dR] at f
  refine zg 2 ?_;refine vF rfl a (zg 6 ?_);refine aI ?_;exact ⟨rfl,by have h:le m.min m.max=false:=(by simpa [le] using a); simp [fX,good,h]⟩
 have a:=f;try simp only [dR] at f
 refine zg 8 ?_;refine mA rfl .no .v .v (zg 4 ?_);refine .cond rfl (fun e=>?_) (fun e=>?_)
 ·have k:=e;try simp only [dR] at e
  refine zg 2 ?_;refine vF rfl k (zg 6 ?_);refine aI ?_;exact ⟨rfl,by simp [fX,good]; omega⟩
 try simp only [dR] at e
 refine zg 8 ?_;refine .cond rfl (fun c=>?_) (fun c=>?_)
 ·have j:=c;try simp only [dR] at c
  refine zg 2 ?_;refine vF rfl j (zg 6 ?_);refine aI ?_;exact ⟨rfl,by simp [fX,good]; omega⟩
 try simp only [dR] at c
 refine zg 7 ?_;refine .cond rfl (fun i=>?_) (fun i=>?_)
 ·try simp only [dR] at i
  refine zg 6 ?_;refine aI ?_;exact ⟨rfl,by simp [fX,good]; omega⟩
 try simp only [dR] at i
 refine zg 4 ?_;refine Wk.d0 20 (zg 5 ?_);refine aM rfl ((n.z rfl).rd) (zg 9 ?_);refine iA rfl (.t rfl rfl) (zr rfl) (.s rfl) (.s rfl) (fun p=>om) (fun p=>om) ?_;refine ld rfl (.t rfl rfl) (za rfl) (.s rfl) (fun p=>(n.z (s.cell_gen hd om)).rd) (zg 6 ?_);refine aI ?_;exact ⟨rfl,aTN g a e c i⟩
def nX:dK prog 118=some ([V 0#8,V 0#8,uv .u64 0#64,uv .u64 0#64,uv .u64 0#64]):=by kernel_rfl
def aAt:dK prog 161=some ([.string ByteArray.empty,.int .u64 0,.int .u8 0,.string ByteArray.empty]):=by kernel_rfl
def lO:cU prog 118 [0,1,2,3,4]=some ([V 0#8,V 0#8,uv .u64 0#64,uv .u64 0#64,uv .u64 0#64],[(0,1),(1,1),(2,1),(3,1),(4,1)]):=by kernel_rfl
def aBG (e:Ent) (G:PM):Ct prog 72 ([e.val]:List Value).toArray G [] (fun _ μ' u=>μ'=[]∧u=.bool (cC e)):=by
 refine aD func72 ntmps72 fun k j=>?_;refine zg 2 ?_;refine bD rfl fun b1=>zg 15 ?_;refine .cond rfl (iP fun i f=>?_) (aC fun f=>?_)
 ·refine zg 2 ?_;refine vF rfl i (zg 6 ?_);refine aI ?_;exact ⟨rfl,congrArg Value.bool (eR1 f).symm⟩
 refine zg 9 ?_;refine .cond rfl (iP fun h c=>?_) (aC fun c=>?_)
 ·refine zg 2 ?_;refine vF rfl h (zg 6 ?_);refine aI ?_;exact ⟨rfl,congrArg Value.bool (eR2 c).symm⟩
 refine zg 7 ?_;refine .cond rfl (aC fun a=>?_) (aC fun a=>?_)
 ·refine zg 6 ?_;refine aI ?_;exact ⟨rfl,congrArg Value.bool (eR3 a).symm⟩
 refine zg 8 ?_;refine .cond rfl (aC fun g=>?_) (aC fun g=>?_)
 ·refine zg 4 ?_;refine cs rfl .no .v .v rfl (zg 4 ?_);refine aI ?_;exact ⟨rfl,congrArg Value.bool (eR4 f c a g).symm⟩
 refine zg 12 ?_;refine aI ?_;exact ⟨rfl,congrArg Value.bool (eR5 f c a g).symm⟩
def aQh (a b:ByteArray) (G:PM) (r:a.size<=1000000):Ct prog 203 ([.string a,.string b]:List Value).toArray G [] (fun _ μ' u=>μ'=[]∧u=.string (aQ (pZ (yb a) (yb b)))):=by
 refine aD func203 ntmps203 fun y p=>?_;refine zg 12 ?_;refine sN (a.size) (b.size) rfl .no .v .v om om (zg 4 ?_);refine lop (α:=Nat) (fun k=>[(11,true,.int .i64 (k:Int))]) (fun _=>[]) (fun k C=>(k<=a.size∧k<=b.size)∧(∀ j,j<k->(yb a).getD j 0=(yb b).getD j 0)) (fun k=>a.size-k) 0 [(0,true,_),(1,true,_),(10,true,_)] [] ?_ (hF:=⟨fd,fun j h=>absurd h (yg _)⟩);intro k A x g m e; try dsimp only at e g ⊢
 obtain ⟨q,f⟩:=e;refine zg 6 ?_;refine cz rfl (fun v=>?_) fun v=>?_
 ·refine zg 12 ?_;refine Wk.d0 7 (zg 2 ?_);refine sI (k) rfl .no (zt rfl) .v .v om (fun _=>by first|omega|(simp only [dT] at c; omega)) (zg 2 ?_);refine sI (k) rfl .no (zt rfl) .v .v om (fun _=>by first|omega|(simp only [dT] at c; omega)) (zg 3 ?_);refine cz rfl (fun l=>?_) fun l=>?_
  ·refine zg 8 ?_;exact lpo (k+1) (hF:=⟨fd,aIY f l⟩)
  refine zg 4 ?_;refine Wk.d0 17 (zg 2 ?_);refine sI (k) rfl .no (zt rfl) .v .v om (fun _=>by first|omega|(simp only [dT] at c; omega)) (zg 2 ?_);refine sI (k) rfl .no (zt rfl) .v .v om (fun _=>by first|omega|(simp only [dT] at c; omega)) (zg 4 ?_);refine sI (k) rfl (.t rfl rfl) (zt rfl) (.s rfl) (.s rfl) (fun c=>om) (fun c=>by first|omega|(simp only [dT] at c; omega)) (zg 2 ?_);refine sI (k) rfl (.t rfl rfl) (zt rfl) (.s rfl) (.s rfl) (fun c=>om) (fun c=>by first|omega|(simp only [dT] at c; omega)) ?_;refine bw (k:=.u8) rfl (.t rfl rfl) rfl (.s rfl) (.s rfl) rfl (zg 4 ?_);refine .cond rfl (kQ fun n=>?_) (iB fun i n=>?_)
  ·refine zg 1 ?_;refine Wk.d0 11 (zg 2 ?_);refine sE (k) rfl .no (zt rfl) .v .v om om (zg 2 ?_);refine sI (k) rfl .no (zt rfl) .v .v om (fun _=>by first|omega|(simp only [dT] at c; omega)) (zg 1 ?_);refine Go.Tan.b1 rfl (zl rfl) aW .v rfl rfl dc ?_; intro w;refine sB rfl .no yR .v (fun _=>(Sc.one .here)) ?_;refine sP rfl .no .v .v (fun _=>aQw r) (zg 4 ?_);refine aI ?_;exact ⟨rfl,congrArg Value.string (aQx om f n)⟩
  refine zg 15 ?_;refine aI ?_;exact ⟨rfl,congrArg Value.string (aQv om f l i)⟩
 refine zg 12 ?_;refine aI ?_;exact ⟨rfl,congrArg Value.string (aQu q om f)⟩
def aJ4 (h:Sh) (l:List Ent) (G:PM) (i:SlR G 4 Ent.cells h l) (D:l.length<=100000000) (f:Nat) (r:eT prog f=true) (vc:List Value) (p:Ent->Bool) (t:∀ G',PM.le G G'->∀ m∈l,Ct prog f ([m.val]++vc).toArray G' [] fun _ μ' u=>μ'=[]∧u=.bool (p m)):Ct prog 145 ([h.val l.length,.func (.func f) #[] vc.toArray]:List Value).toArray G [] (fun _ μ' u=>μ'=[]∧u=.int .i64 (cZ p l)):=by
 refine aD func145 ntmps145 fun C q=>?_;refine zg 14 ?_;refine lop (α:=Nat) (fun k=>[(8,true,.int .i64 (k:Int))]) (fun _=>[]) (fun k H=>(k<=l.length)∧(∀ j y,j<k->l[j]? = some y->p y=false)) (fun k=>l.length-k) 0 [(0,true,_),(1,true,_),(7,true,_)] [] ?_ (hF:=⟨fd,fun j y h=>absurd h (yg _)⟩);intro k F A n a g; try dsimp only at g n ⊢
 obtain ⟨E,c⟩:=g;have i:=i.mono a;refine zg 6 ?_;refine cz rfl (fun w=>?_) fun w=>?_
 ·refine zg 15 ?_;refine cN rfl i k ?_;obtain ⟨x,ex⟩:=cE (k:=k) (xs:=l) om;refine aY rfl ((i.at om ex).rd) (Ent.len _) ?_;refine kf rfl .no .v r (iT rfl dL) (fun _=>t _ a x (qm ex)) (zg 2 ?_);refine .cond rfl (iB fun e v=>?_) (iB fun e v=>?_)
  ·refine zg 7 ?_;refine aI ?_;exact ⟨rfl,aFi c ex (by simpa using e)⟩
  refine zg 7 ?_;exact lpo (k+1) (hF:=⟨fd,aFk c ex (by simpa using e)⟩)
 refine zg 11 ?_;refine aI ?_;exact ⟨rfl,aFj c om⟩
def aIn (h:Sh) (l:List Ent) (G:PM) (c:SlR G 4 Ent.cells h l) (e:l.length<=100000000) (f:Nat) (g:eT prog f=true) (vc:List Value) (p:Ent->Bool) (i:∀ G',PM.le G G'->∀ m∈l,Ct prog f ([m.val]++vc).toArray G' [] fun _ μ' u=>μ'=[]∧u=.bool (p m)):Ct prog 200 ([h.val l.length,.func (.func f) #[] vc.toArray]:List Value).toArray G [] (fun _ μ' u=>μ'=[]∧u=.bool (l.any p)):=by
 refine aD func200 ntmps200 fun j a=>?_;refine zg 9 ?_;refine aK rfl (aJ4 _ _ _ c e _ g _ _ i) (zg 5 ?_);refine aI ?_;exact ⟨rfl,congrArg Value.bool aFh⟩
def aZ0 (e:Ent) (G:PM):Ct prog 198 ([e.val]:List Value).toArray G [] (fun _ μ' u=>μ'=[]∧u=.bool (!cC e)):=by
 refine aD func198 ntmps198 fun c a=>?_;refine zg 2 ?_;refine bD rfl fun b1=>zg 6 ?_;refine aK rfl (aBG _ _) (zg 5 ?_);refine aI ?_;exact ⟨rfl,rfl⟩
def aQP (e:Ent) (G:PM):Ct prog 252 ([e.val]:List Value).toArray G [] (fun _ μ' u=>μ'=[]∧u=.bool (!cC e)):=by
 refine aD func252 ntmps252 fun c a=>?_;refine zg 2 ?_;refine bD rfl fun b1=>zg 6 ?_;refine aK rfl (aBG _ _) (zg 5 ?_);refine aI ?_;exact ⟨rfl,rfl⟩
def yG (h:Sh) (l:List Ent) (G:PM) (c:SlR G 4 Ent.cells h l) (C:l.length<=10000000000000):Ct prog 151 ([h.val l.length]:List Value).toArray G [] (fun _ μ' u=>μ'=[]∧u=.bool (cA l)):=by
 refine aD func151 ntmps151 fun A r=>?_;refine zg 12 ?_;refine lop (α:=Nat) (fun k=>[(3,true,.int .i64 (k:Int))]) (fun _=>[]) (fun k E=>(1<=k∧(k<=l.length∨l.length=0))∧(∀ j,j+1<k->cR (l.getD j Ent.zero) (l.getD (j+1) Ent.zero)=true)) (fun k=>l.length-k) 1 [(0,true,_)] [] ?_ (hF:=⟨fd,fun j h=>absurd h om⟩);intro k D w p e g; try dsimp only at g p ⊢
 obtain ⟨m,n⟩:=g;have c:=c.mono e;refine zg 9 ?_;refine cz rfl (fun t=>?_) fun t=>?_
 ·refine zg 5 ?_;refine Wk.mixp ⟨false,false⟩ dM kr ?_;refine aA 0 (zg 2 ?_);refine aA 1 (zg 2 ?_);refine aA 2 (zg 2 ?_);refine aA 3 ?_;refine cN rfl c (((((k:Nat):Int)-(1:Int))).toNat) (zg 1 ?_);refine aA 4 ?_;obtain ⟨x,ex⟩:=cE (k:=k-1) (xs:=l) om;refine aY rfl ((c.at om ex).rd) (Ent.len _) (zg 1 ?_);refine aA 5 (zg 2 ?_);refine aA 6 (zg 2 ?_);refine aA 7 ?_;refine cN rfl c k (zg 1 ?_);refine fI 8 ?_;obtain ⟨y,i⟩:=cE (k:=k) (xs:=l) om;refine aY rfl ((c.at om i).rd) (Ent.len _) ?_;refine .nil ⟨⟨rfl,rfl⟩,?_⟩;refine Wp.b2 9 10 kr ?_ ?_
  ·refine al rfl aAt fun b4=>zg 1 ?_;refine aG 10 ?_;refine al rfl aAt fun v=>zg 1 ?_;refine aG 11 (zg 2 ?_);refine aG 12 (zg 2 ?_);refine bG (zg 7 ?_);refine cs rfl .no .v .v rfl (zg 5 ?_);refine cs rfl (.f rfl rfl) (.s rfl) (.s rfl) rfl (zg 6 ?_);refine jA rfl (.f rfl rfl) (.s rfl) (.s rfl) (zg 3 ?_);refine .cond rfl (iB fun a q=>?_) (iB fun a q=>?_)
   ·refine zg 6 ?_;refine aI ?_;exact ⟨rfl,congrArg Value.bool (aL5 m.1 ex i a).symm⟩
   refine zg 8 ?_;exact lpo (k+1) (hF:=⟨fd,aL6 m.1 n ex i a⟩)
  refine al rfl aAt fun v=>zg 1 ?_;refine aG 9 ?_;refine al rfl aAt fun b4=>zg 1 ?_;refine aG 11 (zg 2 ?_);refine aG 12 (zg 2 ?_);refine bG (zg 7 ?_);refine cs rfl .no .v .v rfl (zg 5 ?_);refine cs rfl (.f rfl rfl) (.s rfl) (.s rfl) rfl (zg 6 ?_);refine jA rfl (.f rfl rfl) (.s rfl) (.s rfl) (zg 3 ?_);refine .cond rfl (iB fun a q=>?_) (iB fun a q=>?_)
  ·refine zg 6 ?_;refine aI ?_;exact ⟨rfl,congrArg Value.bool (aL5 m.1 ex i a).symm⟩
  refine zg 8 ?_;exact lpo (k+1) (hF:=⟨fd,aL6 m.1 n ex i a⟩)
 refine zg 11 ?_;refine aI ?_;exact ⟨rfl,congrArg Value.bool (aX2 om n).symm⟩
def aRw (h:Sh) (l:List Ent) (a:Int) (G:PM) (f:SlR G 4 Ent.cells h l) (m:bO l<=100000000) (n:l.length<=100000000):Ct prog 201 ([h.val l.length,.int .i64 a]:List Value).toArray G [] (fun _ μ' u=>μ'=[]∧u=.int .i64 (iG a 0 l:Int)):=by
 refine aD func201 ntmps201 fun v p=>?_;refine zg 19 ?_;refine lop (α:=Nat) (fun k=>[(5,true,.int .i64 (gV l k)),(10,true,.int .i64 (k:Int))]) (fun _=>[]) (fun k F=>(k<=l.length)∧(∀ j,j<k->gV l (j+1)<a)) (fun k=>l.length-k) 0 [(0,true,_),(1,true,_),(8,true,_),(9,true,_)] [] ?_ (hF:=⟨fd,fun j h=>absurd h (yg _)⟩);intro k E t i c e; try dsimp only at e i ⊢
 obtain ⟨y,g⟩:=e;have f:=f.mono c;have C:=aM9 m n (k:=k) om;refine zg 6 ?_;refine cz rfl (fun r=>?_) fun r=>?_
 ·refine zg 7 ?_;refine cN rfl f k ?_;obtain ⟨x,ex⟩:=cE (k:=k) (xs:=l) om;refine aY rfl ((f.at om ex).rd) (Ent.len _) ?_;refine al rfl aAt fun D=>zg 13 ?_;have w:=aZv ex;have A:=aM9 m n (k:=k+1) om;refine zg 13 ?_;refine cz rfl (fun q=>?_) fun q=>?_
  ·refine zg 8 ?_;refine aI ?_;exact ⟨rfl,by rw [aIt _ l 0 k om (fun j h=>by have:=g j h; omega) om]; rfl⟩
  refine zg 7 ?_;exact lpo (k+1) (hE:=(cB rfl (fE om) (cB rfl (by first|rfl|exact fE om) es))) (hF:=⟨fd,aRx g om⟩)
 refine zg 13 ?_;refine aI ?_;exact ⟨rfl,by rw [aIs _ l 0 (fun j h=>by have:=g j om; omega)]; rfl⟩
def aZ2 (m:Meta) (G:PM) (a:m.wf):Ct prog 209 ([m.val]:List Value).toArray G [] (fun _ μ' u=>μ'=[]∧u=.agg ((dV m).cells).toArray):=by
 refine aD func209 ntmps209 fun e c=>?_;refine zg 2 ?_;refine bD rfl ?_; intro b1;refine al rfl nX fun b2=>zg 12 ?_;refine bC rfl .no lO (.cons .v rfl (.cons .v rfl (.cons .v rfl (.cons .v rfl (.cons .v rfl .nil))))) rfl ?_;refine dS rfl .here (by first|rfl|exact Meta.len _) (iS rfl rfl rfl rfl rfl) (zg 3 ?_);refine jK ?_;exact ⟨rfl,by rw [← aTl a]; rfl⟩
def tJ:bY prog 204=some (252,16,144):=by kernel_rfl
def aCS:dK prog 249=some (wA (fun _=>0)):=by kernel_rfl
def aHb:(prog.info? 252).bind (·.zero)=some (.agg #[.string ByteArray.empty,.int .u64 0,.int .u8 0,.string ByteArray.empty,.int .i64 0,.int .i64 0,.int .i64 0,.int .i64 0,.int .i64 0,.int .i64 0,.int .i64 0,.int .i64 0,.int .i64 0,.int .i64 0,.int .i64 0,.int .i64 0]):=by kernel_rfl
def bCF:cU prog 206 [0]=some ([.slice none 0 0,.int .i64 0],[(0,1)]):=by kernel_rfl
def bCJ:cU prog 252 [0]=some ([.string ByteArray.empty,.int .u64 0,.int .u8 0,.string ByteArray.empty,.int .i64 0,.int .i64 0,.int .i64 0,.int .i64 0,.int .i64 0,.int .i64 0,.int .i64 0,.int .i64 0,.int .i64 0,.int .i64 0,.int .i64 0,.int .i64 0],[(0,4)]):=by kernel_rfl
def aMZ (e:Ent) (a:ByteArray) (q:BitVec 64) (G:PM):Ct prog 191 ([e.val,.string a,uv .u64 q]:List Value).toArray G [] (fun _ μ' u=>μ'=[]∧u=.bool (eG e a q)):=by
 refine aD func191 ntmps191 fun g c=>?_;refine zg 2 ?_;refine bD rfl fun b3=>zg 8 ?_;refine cs rfl .no .v .v rfl (zg 4 ?_);refine cs rfl (.f rfl rfl) (.s rfl) (.s rfl) rfl (zg 5 ?_);refine jA rfl (.f rfl rfl) (.s rfl) (.s rfl) (zg 5 ?_);refine aI ?_;exact ⟨rfl,congrArg Value.bool (by unfold eG lt; simp [gt_iff_lt]; rfl)⟩
def aYp (K:Nat) (h:Sh) (xs:List Nd) (sz:Value) (G:PM) (g:PB G K (cl [h.val xs.length,sz] 206)) (e:SlR G 16 Nd.cells h xs) (w:Nat->Nat) (y:ByteArray) (q:BitVec 64) (f:WayN xs y q w):Ct prog 141 ([.pointer (some ⟨K,0,none⟩),.string y,uv .u64 q]:List Value).toArray G [] (fun _ μ' u=>μ'=[]∧u=.agg (wA w).toArray):=by
 refine aD func141 ntmps141 fun T L=>?_;refine zg 2 ?_;refine al rfl aCS fun b6=>zg 4 ?_;refine al rfl aCS fun O=>zg 14 ?_;refine lop (α:=Nat) (fun k=>[(8,true,.int .i64 ((w k:Nat):Int)),(9,true,.int .i64 ((k:Int)-1))]) (fun k=>[.blk O (cl (wA (wK w k)) 249)]) (fun k S=>(k<=12)) (fun k=>k) 12 [(0,true,_),(1,true,_),(2,true,_),(6,true,_),(7,true,_)] [_] ?_ (hE:=(cB rfl (by rw [f.top]; rfl) es));intro k N0 Q F r x; try dsimp only at x F ⊢
 have X:=x;refine bE r g e fun g e=>?_;refine zg 7 ?_;refine .cond rfl (aC fun N=>?_) (aC fun N=>?_)
 ·refine zg 13 ?_;refine ih rfl .no tJ .v .v om (fun _=>by have:=f.lt k om; omega) (fun _=>e.nn (k:=w k) (f.lt k om)) (zg 2 ?_);refine aM rfl ((wU e (a:=w k) (k:=k-1) (f.lt k om) om (by first|omega|(simp; omega))).rd) (zg 4 ?_);refine lop (α:=Nat) (fun p=>[(8,true,.int .i64 ((wq w (k-1) p:Nat):Int)),(10,true,.int .i64 ((bF xs (wq w (k-1) p) (k-1):Nat):Int))]) (fun _=>[]) (fun p S=>(p=0∨p=1∧uN xs y q (w (k-1)) (k-1))) (fun p=>1-p) 0 [(0,true,_),(1,true,_),(2,true,_),(6,true,_),(7,true,_),(9,true,_)] [_,_] ?_ (hE:=(cB rfl (by rw [wq,if_pos rfl,show k-1+1=k by omega]) (cB rfl (by rw [wq,if_pos rfl,show k-1+1=k by omega]) es)));intro p N1 P E n v; try dsimp only at v E ⊢
  have J:=v;refine bE n g e fun g e=>?_;have A:wq w (k-1) p<xs.length:=by unfold wq; split; exact f.lt _ om; exact f.lt _ om
  have I:wq w (k-1) 1<xs.length:=f.lt _ om;have c:=f.inb _ A (k-1) om;refine zg 11 ?_;refine ih rfl (.t rfl rfl) tJ (.s rfl) (.s rfl) om om (fun _=>e.nn (k:=bF xs (wq w (k-1) p) (k-1)) c) (zg 1 ?_);refine lA rfl (.t rfl rfl) (za rfl) (.s rfl) (fun M=>(aES e (a:=bF xs (wq w (k-1) p) (k-1)) c (by simp)).rd) (fun _=>Ent.len _) (zg 2 ?_);refine kv rfl (.t rfl rfl) (zf rfl) (Eva.cons (.s rfl) (Eva.cons (.s rfl) (Eva.cons (.s rfl) dL))) (fun M=>aMZ _ _ _ _) (zg 3 ?_);refine .cond rfl (fun H=>?_) (fun H=>?_)
  ·obtain ⟨D,m,C⟩:=bBT f om J H;subst D;have l:bF xs (wq w (k-1) 0) (k-1)=wq w (k-1) 1:=C.symm;refine zg 17 ?_;refine ih rfl .no tJ .v .v om (fun _=>by have:=c; omega) (fun _=>e.nn (k:=bF xs (wq w (k-1) 0) (k-1)) (c)) (zg 2 ?_);refine aM rfl ((wU e (a:=bF xs (wq w (k-1) 0) (k-1)) (k:=k-1) (c) om (by first|omega|(simp; omega))).rd) (zg 2 ?_);exact lpo 1 (hE:=(cB rfl (by rw [l]) (cB rfl (by rw [l]) es))) (hF:=(.inr ⟨rfl,m⟩))
  have i:wq w (k-1) p=w (k-1):=bBS f om J H;refine zg 9 ?_;refine cL rfl .here (by simp [rH]; omega) (aN2 (k:=k-1) (w':=wK w (k-1)) om (by first|omega|(simp; omega)) (by rw [i]; simp [wK]) (fun j Z=>by unfold wK; by_cases h:j<k-1; rw [if_pos h,if_pos om]; rw [if_neg h,if_neg om])) (zg 8 ?_);exact lpo (k-1) (hE:=(cB rfl (by rw [← i]) (cB rfl (fE om) es)))
 refine zg 8 ?_;refine dS rfl aE (rH.trans rH.symm) (aHG _) (zg 3 ?_);refine jK ?_;obtain rfl:k=0:=by omega
 exact ⟨rfl,by rw [aN3]; rfl⟩
def aTK (i:Nat) (h:Sh) (xs:List Nd) (sz:Value) (G:PM) (f:PB G i (cl [h.val xs.length,sz] 206)) (e:SlR G 16 Nd.cells h xs) (w:Nat->Nat) (g:ByteArray) (q:BitVec 64) (c:WayN xs g q w):Ct prog 162 ([.pointer (some ⟨i,0,none⟩),.string g,uv .u64 q]:List Value).toArray G [] (fun _ μ' u=>μ'=[]∧u=.int .i64 ((bF xs (w 0) 0:Nat):Int)):=by
 refine aD func162 ntmps162 fun l j=>?_;refine zg 16 ?_;refine Wk.d0 14 (zg 7 ?_);refine aK rfl (aYp _ _ _ _ _ f e _ _ _ c) ?_;refine ix rfl .no (zr rfl) (za rfl) .v .v om om (fun _=>aCF (k:=0) om rfl) ?_;refine ih rfl .no tJ .v .v om (fun _=>by have:=c.lt 0 om; omega) (fun _=>e.nn (k:=w 0) (c.lt 0 om)) (zg 2 ?_);refine aM rfl ((wU e (a:=w 0) (k:=0) (c.lt 0 om) om (by first|omega|(simp; omega))).rd) (zg 4 ?_);refine aI ?_;exact ⟨rfl,rfl⟩
def aKP (a:Nat) (h:Sh) (xs:List Nd) (sz:Value) (G:PM) (e:PB G a (cl [h.val xs.length,sz] 206)) (g:xs.length<=1000000):Ct prog 109 ([.pointer (some ⟨a,0,none⟩)]:List Value).toArray G [] (fun _ μ' u=>μ'=[]∧u=.int .i64 ((xs.length:Int)-1)):=by
 refine aD func109 ntmps109 fun f c=>?_;refine zg 27 ?_;refine aI ?_;exact ⟨rfl,rfl⟩
def aFr (a:Nat) (v:Value) (sz:Nat) (G:PM) (e:PB G a (cl [v,.int .i64 ((sz:Nat):Int)] 206)):Ct prog 49 ([.pointer (some ⟨a,0,none⟩)]:List Value).toArray G [] (fun _ μ' u=>μ'=[]∧u=.int .i64 ((sz:Nat):Int)):=by
 refine aD func49 ntmps49 fun f c=>?_;refine zg 25 ?_;refine aI ?_;exact ⟨rfl,rfl⟩
def aU6 (i:Nat) (h:Sh) (xs:List Nd) (sz:Value) (G:PM) (a:PB G i (cl [h.val xs.length,sz] 206)) (l:SlR G 16 Nd.cells h xs) (w:Nat->Nat) (g:ByteArray) (q:BitVec 64) (p:WayN xs g q w) (n:Int) (m:bF xs (w 0) 0=0):Ct prog 108 ([.pointer (some ⟨i,0,none⟩),.string g,uv .u64 q,.int .i64 n]:List Value).toArray G [] (fun _ μ' u=>μ'=[]∧u=.slice none 0 0):=by
 refine aD func108 ntmps108 fun t j=>?_;refine zg 16 ?_;refine aK rfl (aTK _ _ _ _ _ a l _ _ _ p) (zg 4 ?_);refine lop (α:=Nat) (fun k=>[(9,true,.slice none 0 0),(10,true,.int .i64 0)]) (fun _=>[]) (fun k x=>True) (fun k=>0) 0 [(0,true,_),(3,true,_)] [] ?_ (hE:=(jG rfl (cB rfl (by rw [m]; rfl) es)));intro k v r e c f; try dsimp only at f e ⊢
 have a:=a.mono c;refine zg 26 ?_;refine aI ?_;exact ⟨rfl,rfl⟩
def aDQ (G:PM):Ct prog 64 ([]:List Value).toArray G [] (fun _ μ' u=>∃ bl v,v.oneCell'=true∧μ'=[.blk bl (cl [v,.int .i64 ((0:Nat):Int)] 206),rS 16 Nd.cells v 252 [Nd.z]]∧u=.pointer (some ⟨bl,0,none⟩)):=by
 refine aD func64 ntmps64 fun c a=>?_;refine zg 7 ?_;refine aVs (enc:=Nd.cells) Nd.z rfl (zl rfl) aHb .v .v rfl rfl dc ?_; intro b1;refine bC rfl .no bCF (.cons .v rfl .nil) rfl ?_;refine bD rfl fun b3=>zg 4 ?_;refine aR dG ?_;exact ⟨b3,_,rfl,rfl,rfl⟩
abbrev C0 (f:FuncId) (vs:List Value) (G:PM) (o:aB) (p:PM→aB→Value→Prop):Prop:=Ct prog f vs.toArray G o p
abbrev CV (f:FuncId) (vs:List Value) (G:PM) (u:Value):Prop:=Ct prog f vs.toArray G [] (fun _ m v=>m=[]∧v=u)
open Go.RowKit Go.Maps Go.Sort Go.Shelf
def aHt:Go.Shelf.Ren:=⟨fun | 7=>119 | 10=>175 | n=>n,fun | 23=>143 | 26=>9 | 3=>150 | 28=>217 | 0=>0 | 27=>216 | 33=>286 | 4=>4 | n=>n,fun | n=>n⟩
def aHs:Go.Proofs.SlLaysZ.n7 prog aHt:={
 mixed:=by kernel_rfl
 f7:=⟨"maps.Keys[map[string]tantalus/disk.file,string,tantalus/disk.file]",dc,func119.trans (congrArg some kr)⟩
 f10:=⟨"maps.Keys[map[string]tantalus/disk.file,string,tantalus/disk.file]$1",dc,func175.trans (congrArg some kr)⟩
 t0:=Tryz.underlying0
 a0:=Tryz.isAgg0
 z0:=Tryz.sizeOf0
 v0:=Tryz.zeroValue0
 t4:=Tryz.underlying4
 a4:=Tryz.isAgg4
 z4:=Tryz.sizeOf4
 v4:=Tryz.zeroValue4
 t23:=Tryz.underlying143
 a23:=Tryz.isAgg143
 z23:=Tryz.sizeOf143
 v23:=Tryz.zeroValue143
 t26:=Tryz.underlying9
 a26:=Tryz.isAgg9
 z26:=Tryz.sizeOf9
 v26:=Tryz.zeroValue9
 t27:=Tryz.underlying216
 a27:=Tryz.isAgg216
 z27:=Tryz.sizeOf216
 v27:=Tryz.zeroValue216
 t28:=Tryz.underlying217
 a28:=Tryz.isAgg217
 z28:=Tryz.sizeOf217
 v28:=Tryz.zeroValue217
 t33:=Tryz.underlying286
 a33:=Tryz.isAgg286
 z33:=Tryz.sizeOf286
 v33:=Tryz.zeroValue286 }
def aHv:Go.Shelf.Ren:=⟨fun | 6=>118 | 8=>173 | 9=>174 | 11=>221 | 13=>223 | 12=>222 | 23=>271 | 24=>272 | 14=>262 | 15=>263 | 16=>264 | 17=>265 | 18=>266 | 19=>267 | 20=>268 | 21=>269 | 22=>270 | 25=>301 | 26=>302 | 27=>303 | 28=>304 | 29=>305 | 30=>279 | 31=>324 | n=>n,fun | 26=>9 | 28=>217 | 24=>146 | 0=>0 | 3=>3 | 37=>235 | 48=>301 | 50=>57 | 4=>4 | 40=>391 | 39=>390 | 45=>259 | 5=>5 | 9=>9 | 51=>430 | 55=>433 | 57=>452 | 58=>453 | 33=>286 | n=>n,fun | n=>n⟩
def aPb:Go.Proofs.SlLaysZ.n6 prog aHv:={
 mixed:=by kernel_rfl
 f6:=⟨"slices.Sorted[string]",dc,func118.trans (congrArg some kr)⟩
 f8:=⟨"slices.Collect[string]",dc,func173.trans (congrArg some kr)⟩
 f11:=⟨"slices.AppendSeq[[]string,string]",dc,func221.trans (congrArg some kr)⟩
 t0:=Tryz.underlying0
 a0:=Tryz.isAgg0
 z0:=Tryz.sizeOf0
 v0:=Tryz.zeroValue0
 t24:=Tryz.underlying146
 a24:=Tryz.isAgg146
 z24:=Tryz.sizeOf146
 v24:=Tryz.zeroValue146
 t26:=Tryz.underlying9
 a26:=Tryz.isAgg9
 z26:=Tryz.sizeOf9
 v26:=Tryz.zeroValue9
 t28:=Tryz.underlying217
 a28:=Tryz.isAgg217
 z28:=Tryz.sizeOf217
 v28:=Tryz.zeroValue217
 i26:=by kernel_rfl }
def aPa:Go.Shelf.Ren:=⟨fun | 6=>174 | 8=>223 | 9=>222 | 19=>271 | 20=>272 | 21=>262 | 22=>263 | 23=>264 | 24=>265 | 25=>266 | 26=>267 | 27=>268 | 28=>269 | 29=>270 | 36=>301 | 31=>302 | 32=>303 | 37=>304 | 38=>305 | 39=>279 | 41=>324 | n=>n,fun | 27=>146 | 29=>9 | 3=>3 | 32=>235 | 26=>146 | 0=>0 | 44=>301 | 46=>57 | 4=>4 | 36=>391 | 35=>390 | 41=>259 | 5=>5 | 9=>9 | 53=>430 | 57=>433 | 63=>452 | 64=>453 | n=>n,fun | n=>n⟩
def aHu:Go.Proofs.SlLaysM.n6 prog aPa:={
 mixed:=by kernel_rfl
 f6:=⟨"slices.Sort[[]string,string]",dc,func174.trans (congrArg some kr)⟩
 f8:=func223.trans (congrArg some kr)
 f9:=⟨"slices.pdqsortOrdered[string]",dc,func222.trans (congrArg some kr)⟩
 f19:=func271.trans (congrArg some kr)
 f20:=func272.trans (congrArg some kr)
 f21:=⟨"slices.insertionSortOrdered[string]",dc,func262.trans (congrArg some kr)⟩
 f22:=⟨"slices.heapSortOrdered[string]",dc,func263.trans (congrArg some kr)⟩
 f23:=⟨"slices.breakPatternsOrdered[string]",dc,func264.trans (congrArg some kr)⟩
 f24:=⟨"slices.choosePivotOrdered[string]",dc,func265.trans (congrArg some kr)⟩
 f25:=⟨"slices.reverseRangeOrdered[string]",dc,func266.trans (congrArg some kr)⟩
 f26:=⟨"slices.partialInsertionSortOrdered[string]",dc,func267.trans (congrArg some kr)⟩
 f27:=⟨"cmp.Less[string]",dc,func268.trans (congrArg some kr)⟩
 f28:=⟨"slices.partitionEqualOrdered[string]",dc,func269.trans (congrArg some kr)⟩
 f29:=⟨"slices.partitionOrdered[string]",dc,func270.trans (congrArg some kr)⟩
 f31:=func302.trans (congrArg some kr)
 f32:=func303.trans (congrArg some kr)
 f36:=⟨"slices.siftDownOrdered[string]",dc,func301.trans (congrArg some kr)⟩
 f37:=⟨"slices.medianAdjacentOrdered[string]",dc,func304.trans (congrArg some kr)⟩
 f38:=⟨"slices.medianOrdered[string]",dc,func305.trans (congrArg some kr)⟩
 f39:=⟨"cmp.isNaN[string]",dc,func279.trans (congrArg some kr)⟩
 f41:=⟨"slices.order2Ordered[string]",dc,func324.trans (congrArg some kr)⟩
 t0:=Tryz.underlying0
 a0:=Tryz.isAgg0
 z0:=Tryz.sizeOf0
 v0:=Tryz.zeroValue0
 t3:=Tryz.underlying3
 a3:=Tryz.isAgg3
 z3:=Tryz.sizeOf3
 v3:=Tryz.zeroValue3
 t4:=Tryz.underlying4
 a4:=Tryz.isAgg4
 z4:=Tryz.sizeOf4
 v4:=Tryz.zeroValue4
 t5:=Tryz.underlying5
 a5:=Tryz.isAgg5
 z5:=Tryz.sizeOf5
 v5:=Tryz.zeroValue5
 t9:=Tryz.underlying9
 a9:=Tryz.isAgg9
 z9:=Tryz.sizeOf9
 v9:=Tryz.zeroValue9
 t26:=Tryz.underlying146
 a26:=Tryz.isAgg146
 z26:=Tryz.sizeOf146
 v26:=Tryz.zeroValue146
 t27:=Tryz.underlying146
 a27:=Tryz.isAgg146
 z27:=Tryz.sizeOf146
 v27:=Tryz.zeroValue146
 t29:=Tryz.underlying9
 a29:=Tryz.isAgg9
 z29:=Tryz.sizeOf9
 v29:=Tryz.zeroValue9
 t32:=Tryz.underlying235
 a32:=Tryz.isAgg235
 z32:=Tryz.sizeOf235
 v32:=Tryz.zeroValue235
 t35:=Tryz.underlying390
 a35:=Tryz.isAgg390
 z35:=Tryz.sizeOf390
 v35:=Tryz.zeroValue390
 t36:=Tryz.underlying391
 a36:=Tryz.isAgg391
 z36:=Tryz.sizeOf391
 v36:=Tryz.zeroValue391
 t41:=Tryz.underlying259
 a41:=Tryz.isAgg259
 z41:=Tryz.sizeOf259
 v41:=Tryz.zeroValue259
 t44:=Tryz.underlying301
 a44:=Tryz.isAgg301
 z44:=Tryz.sizeOf301
 v44:=Tryz.zeroValue301
 t46:=Tryz.underlying57
 a46:=Tryz.isAgg57
 z46:=Tryz.sizeOf57
 v46:=Tryz.zeroValue57
 t53:=Tryz.underlying430
 a53:=Tryz.isAgg430
 z53:=Tryz.sizeOf430
 v53:=Tryz.zeroValue430
 t57:=Tryz.underlying433
 a57:=Tryz.isAgg433
 z57:=Tryz.sizeOf433
 v57:=Tryz.zeroValue433
 t63:=Tryz.underlying452
 a63:=Tryz.isAgg452
 z63:=Tryz.sizeOf452
 v63:=Tryz.zeroValue452
 t64:=Tryz.underlying453
 a64:=Tryz.isAgg453
 z64:=Tryz.sizeOf453
 v64:=Tryz.zeroValue453 }
def aPc (m:Nat):AnyZ.SortsIn prog aHv Fence.wide m :=
 ⟨fun blk e a g W h c f=>callsIn_wide.2 (AnyM.slices_Sort_string aHu blk e a g W h c f),
  fun p a W=>callsIn_wide.2 (AnyM.slices_Sort_string_none aHu p a W)⟩
def aUv (a:Nat) (G:PM):Ct prog 119 #[.map (some a)] G [] (fun _ μ' u=>∃ bk,μ'=[.blk bk (cl [.map (some a)] 143)]∧u=.func (.func 175) #[] #[.pointer (some ⟨bk,0,none⟩)]):=fun w c=>by
 refine (callsIn_wide.1 (AnyZ.keys_in aHs Fence.wide 5 trivial rfl (some a) w)).mono ?_;rintro e f ⟨rfl,rfl⟩;exact ⟨_,G,_,rfl,(gX (μ:=[]) c).alloc _,w.heap.size,rfl,rfl⟩
def aUr {l:List (Lit×DataW Unit)}:∀ {y},y∈l.foldr DataW.insert []->y∈l:=by
 induction l<;>simp_all[ChangeMaps.mem_insert_iff]
theorem aUE {l:List (Lit×DataW Unit)}:(l.foldr DataW.insert []).length=l.length:=by
 have a:∀ (x:Lit×DataW Unit) (r:List (Lit×DataW Unit)),(DataW.insert x r).length=r.length+1:=by
  intro x r;induction r<;>grind[DataW.insert]
 induction l<;>simp_all
theorem aL1 {f:Fi} (h:f.nm.size<=100):WideElems.rd (H:=Unit) prog 9 (fun _=>some (.nil,[])) (mE f.fe)=some (.string f.nm.data.toList,.nil):=by
 unfold WideElems.rd;rw [show (mE f.fe).key=.string f.nm from rfl,Go.WideMaps.keyOf_string_mk Tryz.underlying9 (by grind[maxLen])];rfl
def aY9 (I A clk:Nat) (F:List Fi) (G:PM) (E:DkR F clk) (a3:PB G I (cl [.map (some A)] 143)) (a1:PB G A (mO (F.map Fi.fe) clk)) :
  Ct prog 118 #[.func (.func 175) #[] #[.pointer (some ⟨I,0,none⟩)]] G [] (fun _ μ' u=>∃ L:List ByteArray,(∀ s∈L,s∈F.map Fi.nm)∧L.length<=100000∧μ'=[rS 1 iH u 9 L]):=fun w Z=>by
 have hk:w.heap[I]? = some (cl [.map (some A)] 143):=Z.sub _ _ a3.h;have hm:w.heap[A]? = some (mO (F.map Fi.fe) clk):=Z.sub _ _ a1.h;have hc:=E.cnt;have O:w.ownsMap (H:=Unit) prog 9 (fun _=>some (.nil,[])) A F.length (.map ((((F.map Fi.fe).map mE).map (WideElems.rg prog 9 (fun _=>some (.nil,[])))).foldr DataW.insert [])):=by
  refine ⟨((F.map Fi.fe).map mE).toArray,clk,hm,⟨by simp [maxLen]; omega,⟨fun x k=>?_,?_,?_⟩,fun x k=>?_⟩,by simp,rfl⟩
  ·simp only [ql] at k;obtain ⟨_,⟨f,C,rfl⟩,rfl⟩:=k;exact E.old f C
  ·have:((F.map Fi.fe).map mE).map (·.born)=F.map Fi.born:=by simp [vm,mE,Fi.fe]
   rw [show ((F.map Fi.fe).map mE).toArray.toList=(F.map Fi.fe).map mE from rfl,this]; exact E.nd
  ·have:((F.map Fi.fe).map mE).map (·.key)=(F.map Fi.nm).map Value.string:=by simp [vm,mE,Fi.fe]
   rw [show ((F.map Fi.fe).map mE).toArray.toList=(F.map Fi.fe).map mE from rfl,this];exact List.Pairwise.map _ (fun a b h e=>h (Value.string.inj e)) E.un
  simp only [ql] at k;obtain ⟨_,⟨f,C,rfl⟩,rfl⟩:=k;exact ⟨_,aL1 (E.gn f C)⟩
 have m:Maps.size (DataW.map ((((F.map Fi.fe).map mE).map (WideElems.rg (H:=Unit) prog 9 (fun _=>some (.nil,[])))).foldr DataW.insert []))=F.length:=by
  show wm _=_;rw [aUE]; simp
 have n:w.cell? ⟨I,0,none⟩=some (.map (some A)):=by simp [World.cell?,hk,cl]
 have N:=AnyZ.keys_gives (ρ:=aHt) { aHs with } Fence.wide 2 trivial rfl om I A F.length _ w (xg.1 hk).1 n O;refine (callsIn_wide.1 (AnyZ.sorted_in aPb Fence.wide 5 trivial trivial trivial trivial rfl om (aPc _) (enters_of func174 kr rfl) 175 #[.pointer (some ⟨I,0,none⟩)] trivial (enters_of func175 kr rfl) _ _ (by rw [m]; unfold maxLen; omega) (by rw [m]; omega) _ N)).mono ?_;rintro e w' ⟨v,J,rfl,hS,i,a7,D⟩;obtain ⟨L,hL⟩ : ∃ L:List ByteArray,L=(J.mergeSort (fun x y=>decide (x<=y))).map fun l=>⟨l.toArray⟩:=⟨_,rfl⟩;have S:L.length=J.length:=by rw [hL,qw,List.length_mergeSort]
 have a4:(J.mergeSort (fun x y=>decide (x<=y))).map encStr=L.flatMap iH:=by
  rw [hL];generalize J.mergeSort (fun x y=>decide (x<=y))=q;induction q with
  | nil=>rfl
  | cons x r ih=>simp only [List.map_cons,xp,ih,iH,List.singleton_append]
 rw [a4,←S] at i;have P:∀ s∈L,s∈F.map Fi.nm:=fun s M=>by
  rw [hL] at M;obtain ⟨l,hl,rfl⟩:=ql.1 M;have t:l∈J:=List.mem_mergeSort.1 hl;have h2:=hS.mem_iff.1 t;obtain ⟨p,hp,rfl⟩:=ql.1 h2;obtain ⟨x,k,rfl⟩:=ql.1 (aUr hp);simp only [ql] at k;obtain ⟨_,⟨f,C,rfl⟩,rfl⟩:=k;rw [WideElems.rg_of (aL1 (E.gn f C))];exact ql.2 ⟨f,C,by simp [strOf]⟩
 have Q:L.length<=100000:=by
  rw [S,hS.length_eq];have:(strKeys (DataW.map ((((F.map Fi.fe).map mE).map (WideElems.rg (H:=Unit) prog 9 (fun _=>some (.nil,[])))).foldr DataW.insert []))).length=F.length:=by rw [← m]; exact qw _
  omega
 have K:∀ b o,G b=some o->w'.heap[b]? = some o:=fun b o a0=>by
  have t:=Z.sub b o a0;rw [D.block b (xg.1 t).1]; exact t
 have j:∀ b∈keys [rS 1 iH v 9 L],w.heap.size<=b:=fun b c=>by
  simp only [keys,Res.keys,xp,vh,wh] at c;rcases i.2 with ⟨rfl,_⟩ | ⟨g,X,T,rfl,hg,_⟩
  ·simp [Value.ownBlock] at c
  simp [Value.ownBlock] at c; omega
 refine ⟨v,G,_,rfl,⟨⟨K,fun r hr=>?_,fun b c=>?_,?_⟩,D.os,D.tape,D.output,D.size,fun b a2 _=>⟨D.block b a2,rfl⟩,fun b c=>.inr (j b c),fun _ _ _ h=>h⟩,L,P,Q,rfl⟩
 ·rw [qd.1 hr];refine ⟨i.1,i.2.imp id ?_⟩;rintro ⟨g,X,T,t,h2,h3⟩;exact ⟨g,X,T,t,qo _,h3⟩
 ·cases hG:G b with
  | none=>rfl
  | some o =>
   have t:=(xg.1 (Z.sub b o hG)).1;have h2:=j b c;omega
 simp only [keys,Res.keys,xp,vh,wh];cases v.ownBlock<;>simp
def bCl:nU prog 9=true:=by kernel_rfl
def bBK (y:Value) (h:Nat) (G:PM) (a:PB G h (cl [.slice none 0 0] 72)):CV 194 [y,.pointer (some ⟨h,0,none⟩)] G (.tuple #[]):=by
 refine aD func194 ntmps194 fun m i=>?_;refine zg 8 ?_;refine lop (α:=Nat) (fun k=>[(7,true,.int .i64 ((k:Nat):Int))]) (fun _=>[]) (fun k p=>(k=0)) (fun k=>0) 0 [(0,true,_),(5,true,_),(6,true,_)] [] ?_;intro k n l f c e; try dsimp only at e f ⊢
 have j:=e;have a:=a.mono c;refine zg 6 ?_;refine .cond rfl (fun g=>by subst j; exact absurd g dc) (kQ fun g=>?_);refine zg 5 ?_;refine aI ?_;exact ⟨rfl,rfl⟩
def aNx (G:PM):C0 144 [.slice none 0 0] G [] (fun _ μ' u=>∃ bk,μ'=[.blk bk (cl [.slice none 0 0] 72)]∧u=.func (.func 194) #[] #[.pointer (some ⟨bk,0,none⟩)]):=by
 refine aD func144 ntmps144 fun c a=>?_;refine zg 2 ?_;refine bD rfl fun b1=>zg 5 ?_;refine wC rfl (zg 4 ?_);refine aR bH ?_;exact ⟨b1,rfl,rfl⟩
def aVQ (G:PM):C0 272 [.int .u64 0] G [] (fun _ μ' u=>μ'=[]):=by
 refine aD func272 ntmps272 fun c a=>?_;refine zg 39 ?_;refine cv rfl .no (zv rfl rfl) .v (sI 0 rfl .no bCl .v .v (fun _=>rfl) (fun _=>of_decide_eq_true kr) ?_);refine cv rfl .no (zv rfl rfl) .v (aw rfl .no .v .v rfl (zg 4 ?_));refine aI ?_;exact rfl
def aQn (G:PM):C0 223 [.int .u64 0] G [] (fun _ μ' u=>μ'=[]):=by
 refine aD func223 ntmps223 fun f c=>?_;refine zg 12 ?_;refine aS rfl (aVQ _) ?_;rintro g h a e rfl;refine zg 4 ?_;refine aI ?_;exact rfl
def aT5 (G:PM):CV 287 [.slice none 0 0,.int .i64 0,.int .i64 0] G (.tuple #[]):=by
 refine aD func287 ntmps287 fun j g=>?_;refine zg 8 ?_;refine lop (α:=Nat) (fun k=>[(6,true,.int .i64 ((k:Nat):Int))]) (fun _=>[]) (fun k m=>(k=1)) (fun k=>0) 1 [(0,true,_),(1,true,_),(2,true,_)] [] ?_;intro k l i c e a; try dsimp only at a c ⊢
 have h:=a;refine zg 8 ?_;refine .cond rfl (fun f=>by subst h; exact absurd f dc) (kQ fun f=>?_);refine zg 5 ?_;refine aI ?_;exact ⟨rfl,rfl⟩
def aXD (v:Value) (G:PM):CV 250 [.slice none 0 0,.int .i64 0,.int .i64 0,v] G (.tuple #[]):=by
 refine aD func250 ntmps250 fun h f=>?_;refine zg 11 ?_;refine lop (α:=Nat) (fun k=>[(1,true,.int .i64 0),(2,true,.int .i64 0),(3,true,v),(8,true,.bool true),(9,true,.bool true)]) (fun _=>[]) (fun k j=>True) (fun k=>0) 0 [(0,true,_)] [] ?_;intro k i g a e c; try dsimp only at c a ⊢
 refine zg 22 ?_;refine aK rfl (aT5 _) (zg 3 ?_);refine aI ?_;exact ⟨rfl,rfl⟩
def aMo (G:PM):CV 193 [.slice none 0 0] G (.tuple #[]):=by
 refine aD func193 ntmps193 fun f c=>?_;refine zg 11 ?_;refine kJ rfl (lC om om) ?_;refine aS rfl (aQn _) ?_;rintro g h a e rfl;refine aK rfl (aXD _ _) (zg 2 ?_);refine aI ?_;exact ⟨rfl,rfl⟩
theorem aLz {P:Program} {g:Operand} {ps:Array Tmp} {assign body:Code} {Q:Exit->Act->World->Prop} {a:Act} {w:World} {gf:Nat} {lb:Array Value} (hg:a.eval g=.func (.func gf) #[] lb)
  (eg:∀ args w,(callFunc gf args).run P w=.ok (.enter gf args) w)
  (hcall:∀ l W,Below w.heap.size w W->Calls P gf (#[.func (.yield l) #[] #[]]++lb) W fun e W'=>(∃ v,e=.returned v)∧Below W.heap.size W W')
  (hQ:∀ D W,Below w.heap.size w W->w.heap.size<=D->W.heap[D]? = some (.deferred (some []))->Q .normal { a with defers:={ target:=.collected D,args:=#[] } :: a.defers } W) :
  (Code.rangeFunc g ps assign body).wpIn Fence.wide 5 P Q a w:=by
 refine wpIn_rangeFunc fun fn hfn=>?_;obtain ⟨lp,hlp⟩ : ∃ lp:Loop,lp = { state:=.ready,pending:=none,fn,tmps:=a.tmps,params:=ps,assign,body,defers:=w.heap.size }:=⟨_,rfl⟩;obtain ⟨W1,hW1⟩ : ∃ W1,(w.alloc (.deferred (some []))).alloc (.loop lp)=W1:=⟨_,rfl⟩;have hL1:W1.heap[w.heap.size+1]? = some (.loop lp):=by
  grind[World.alloc_heap_new,World.size_alloc]
 have hK1:W1.heap[w.heap.size]? = some (.deferred (some [])):=by
  grind[Below.heap_alloc,World.alloc_heap_new]
 have hb1:Below w.heap.size w W1:=by
  rw [← hW1]; exact ((Below.refl _ w).alloc (qc _) _).alloc (by simp) _
 refine ⟨w.heap.size+1,[{ target:=.collected w.heap.size,args:=#[] }],W1,{ target:=.fn (.func gf) lb,args:=#[.func (.yield (w.heap.size+1)) #[] #[]] },W1,gf, #[.func (.yield (w.heap.size+1)) #[] #[]]++lb,W1,?_,?_,?_,?_,fun _=>om,?_⟩
 ·simp_all[run_enterLoop_outer]
 ·simp only [resolve,hg]; simp [go_sem]
 ·intro f' _; trivial
 ·simp_all[invoke]
 refine callsIn_wide.2 ((hcall _ W1 hb1).mono ?_);rintro e W2 ⟨⟨v,rfl⟩,hb2⟩;have hL2:W2.heap[w.heap.size+1]? = some (.loop lp):=(hb2.block _ (xg.1 hL1).1).trans hL1;have hK2:W2.heap[w.heap.size]? = some (.deferred (some [])):=(hb2.block _ (xg.1 hK1).1).trans hK1;have hend:=run_endLoop (P:=P) hL2 (by simp_all);have hpe:lp.pending=none:=by rw [hlp]
 rw [hpe] at hend;have hb12:Below w.heap.size w W2:=hb1.trans (hb2.mono hb1.size);refine ⟨none,_,hend,hQ w.heap.size _ (hb12.grown (grownBy_putObj_a _ _ _) hb12.size (fun k e=>by grind)) (qc _) ((World.putObj_heap_other om).trans hK2)⟩
def aQI (A:Nat) (G:PM) (y:PB G A (cl [.slice none 0 0] 72)):Ct prog 249 #[.slice none 0 0,.func (.func 194) #[] #[.pointer (some ⟨A,0,none⟩)]] G [] (fun _ f u=>f=[]∧u=.slice none 0 0):=fun w C=>by
 refine (callsIn_wide (n:=5)).1 ?_;refine callsIn_of_wp_marks func249 rfl trivial ?_ rfl;simp only [ntmps249,List.size_toArray,dX,Nat.reduceAdd,Nat.reduceSub,Array.replicate_succ,Array.replicate_zero,List.push_toArray,List.append_toArray,qy,ww];gi_wp2;have m:Below w.heap.size w (w.alloc (.cells #[.slice none 0 0] 72)):=(Below.refl _ w).alloc (qc _) _;have t:(w.alloc (.cells #[.slice none 0 0] 72)).heap[w.heap.size]? = some (.cells #[.slice none 0 0] 72 (0,0)):=World.alloc_heap_new w _;have E:(w.alloc (.cells #[.slice none 0 0] 72)).heap.size=w.heap.size+1:=by simp
 refine aLz (gf:=194) (lb:=#[.pointer (some ⟨A,0,none⟩)]) rfl (enters_of func194 kr rfl) (fun l W c=>?_) (fun D W c L J=>?_)
 ·have i:∀ b o,G b=some o->W.heap[b]? = some o:=fun b o h=>by
   have p:=C.sub b o h;have K:=(xg.1 p).1;rw [c.block b om,m.block b K]; exact p
  refine (bBK _ _ _ y W ⟨i,fun r x=>(by cases x),fun b c=>(by cases c),xx⟩).mono ?_;rintro e M ⟨v,N,f,rfl,g,_⟩;exact ⟨⟨v,rfl⟩,g.os,g.tape,g.output,g.size,fun k F=>(g.old k F (fun h=>by cases h)).1⟩
 have q:W.heap[w.heap.size]? = some (.cells #[.slice none 0 0] 72 (0,0)):=(c.block _ om).trans t;obtain ⟨I,H⟩:=cell_of_box_a q;have j:Below w.heap.size w W:=m.trans (c.mono om);gi_wp2;refine ⟨by simp,.inl ⟨_,_,rfl,run_takeDeferred J,?_⟩⟩;have a:=j.grown (grownBy_putObj_a W D (.deferred none)) j.size (fun k e=>by cases e; omega);refine ⟨_,results_tmp rfl _ _ _,_,G,[],rfl,⟨⟨fun b o h=>?_,fun r x=>(by cases x),fun b c=>(by cases c),xx⟩,a.os,a.tape,a.output,a.size,fun b c _=>⟨a.block b c,rfl⟩,fun b c=>(by cases c),fun _ _ _ h=>h⟩,rfl,rfl⟩;have p:=C.sub b o h;exact (a.block b (xg.1 p).1).trans p
def wT:dK prog 3=some ([.int .i64 0]):=by kernel_rfl
def bCj:bY prog 134=some (132,1,24):=by kernel_rfl
def aOu:eT prog 171=true:=by kernel_rfl
def aCU:(prog.info? 132).bind (·.zero)=some (.slice none 0 0):=by kernel_rfl
def aO1:dK prog 134=some ([.slice none 0 0]):=by kernel_rfl
def aL9:cA []=true:=uS fun j h=>absurd h (by simp)
def aV1 (G:PM):CV 171 [.slice none 0 0] G (.bool false):=by
 refine aD func171 ntmps171 fun c a=>?_;refine zg 8 ?_;refine aK rfl (yG ⟨none,0⟩ [] _ dD dc) (zg 5 ?_);refine aI ?_;exact ⟨rfl,congrArg Value.bool (by rw [aL9]; rfl)⟩
def aTs (b:Nat) (G:PM) (f:PB G b (cl [.slice none 0 0] 132)):CV 220 [.slice (some ⟨b,0,none⟩) 1 1,.func (.func 171) #[] #[]] G (.int .i64 (-1)):=by
 refine aD func220 ntmps220 fun l h=>?_;refine zg 14 ?_;refine lop (α:=Nat) (fun k=>[(8,true,.int .i64 (k:Int))]) (fun _=>[]) (fun k p=>(k<=1)) (fun k=>1-k) 0 [(0,true,_),(1,true,_),(7,true,_)] [] ?_;intro k n j g a c; try dsimp only at c g ⊢
 have m:=c;have f:=f.mono a;refine zg 6 ?_;refine cz rfl (fun i=>?_) fun i=>?_
 ·refine zg 15 ?_;have e:k=0:=by omega
  refine ia rfl .no bCj .v .v om om ?_;refine aM rfl ((f.rd (by rw [e]; rfl)).rd) ?_;refine kf rfl .no .v aOu (iT rfl dL) (fun _=>aV1 _) (zg 10 ?_);exact lpo (k+1)
 refine zg 11 ?_;refine aI ?_;exact ⟨rfl,rfl⟩
def aRj (b:Nat) (G:PM) (c:PB G b (cl [.slice none 0 0] 132)):CV 170 [.slice (some ⟨b,0,none⟩) 1 1,.func (.func 171) #[] #[]] G (.bool false):=by
 refine aD func170 ntmps170 fun e a=>?_;refine zg 9 ?_;refine aK rfl (aTs _ _ c) (zg 5 ?_);refine aI ?_;exact ⟨rfl,rfl⟩
def aV2 (b:Nat) (G:PM) (c:PB G b (cl [.slice none 0 0] 132)):CV 113 [.slice (some ⟨b,0,none⟩) 1 1] G (.bool true):=by
 refine aD func113 ntmps113 fun e a=>?_;refine zg 8 ?_;refine aK rfl (aRj _ _ c) (zg 5 ?_);refine aI ?_;exact ⟨rfl,rfl⟩
def aRb (c:Nat) (G:PM) (a:PB G c (cl [.slice none 0 0] 72)):CV 192 [.func (.func 194) #[] #[.pointer (some ⟨c,0,none⟩)]] G (.slice none 0 0):=by
 refine aD func192 ntmps192 fun f e=>?_;refine zg 8 ?_;refine aK rfl (aQI _ _ a) (zg 4 ?_);refine aI ?_;exact ⟨rfl,rfl⟩
def aMq (c:Nat) (G:PM) (a:PB G c (cl [.slice none 0 0] 72)):CV 143 [.func (.func 194) #[] #[.pointer (some ⟨c,0,none⟩)]] G (.slice none 0 0):=by
 refine aD func143 ntmps143 fun f e=>?_;refine zg 8 ?_;refine aK rfl (aRb _ _ a) (zg 6 ?_);refine aK rfl (aMo _) (zg 9 ?_);refine aI ?_;exact ⟨rfl,rfl⟩
def aUf (G:PM):CV 92 [.slice none 0 0,.slice none 0 0,.bool false] G (.slice none 0 0):=by
 refine aD func92 ntmps92 fun q i=>?_;refine zg 2 ?_;refine bD rfl fun b3=>zg 7 ?_;refine Go.Tan.b1 rfl (zl rfl) aCU .v rfl rfl dc ?_; intro m;refine eX rfl (Gp.add .here Gp.nil) (fun a j=>aV2 _ _ ⟨bI _ _ _⟩) (zg 9 ?_);refine aS rfl (aNx _) ?_;rintro _ p f h ⟨l,rfl,rfl⟩;refine eX rfl (Gp.add .here Gp.nil) (fun a j=>aMq _ _ ⟨bI _ _ _⟩) (zg 10 ?_);refine lop (α:=Nat) (fun k=>[(8,true,.slice none 0 0)]) (fun k=>[.blk b3 (cl [.slice none 0 0] 132)]) (fun k t=>True) (fun k=>0) 0 [(2,true,_),(3,true,_),(7,true,_)] [_,_] ?_;intro k r n c g e; try dsimp only at e c ⊢
 refine zg 21 ?_;refine aI ?_;exact ⟨rfl,rfl⟩
def aY2 (f:Value) (G:PM):CV 152 [.slice none 0 0,f] G (.tuple #[]):=by
 refine aD func152 ntmps152 fun i g=>?_;refine zg 1 ?_;refine lop (α:=Nat) (fun k=>[(0,true,.slice none 0 0)]) (fun _=>[]) (fun k l=>True) (fun k=>0) 0 [(1,true,_)] [] ?_;intro k j h a e c; try dsimp only at c a ⊢
 refine zg 14 ?_;refine aI ?_;exact ⟨rfl,rfl⟩
def aZC (n:Int) (G:PM):CV 95 [.slice none 0 0,.int .i64 n] G (.slice none 0 0):=by
 refine aD func95 ntmps95 fun e c=>?_;refine zg 2 ?_;refine bD rfl fun b3=>zg 7 ?_;refine aK rfl (yG ⟨none,0⟩ [] _ dD dc) (zg 3 ?_);refine .cond rfl (fun a=>by rw [aL9] at a; cases a) (kQ fun a=>?_);refine zg 4 ?_;refine al rfl aO1 fun g=>zg 4 ?_;refine al rfl wT fun f=>zg 6 ?_;refine wC rfl ?_;refine aK rfl (aY2 _ _) (zg 9 ?_);refine aI ?_;exact ⟨rfl,rfl⟩
def aZ6 (y:Value) (n:Int) (G:PM):CV 94 [y,.int .i64 n,.slice none 0 0] G (.slice none 0 0):=by
 refine aD func94 ntmps94 fun j g=>?_;refine zg 19 ?_;refine lop (α:=Nat) (fun k=>[(7,true,.slice none 0 0),(16,true,.int .i64 (k:Int))]) (fun _=>[]) (fun k m=>(k=0)) (fun k=>0) 0 [(0,true,_),(1,true,_),(14,true,_),(15,true,_)] [] ?_;intro k l i c e a; try dsimp only at a c ⊢
 have h:=a;refine zg 6 ?_;refine .cond rfl (fun f=>by subst h; cases f) (kQ fun f=>?_);refine zg 12 ?_;refine aI ?_;exact ⟨rfl,rfl⟩
end Go.Proofs.YtjkkbmdonbcccaaGreatDoor
