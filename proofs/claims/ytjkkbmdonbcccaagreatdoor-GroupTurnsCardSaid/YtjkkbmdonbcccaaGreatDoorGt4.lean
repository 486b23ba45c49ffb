/- Lemmas and contracts of functions, joined. -/
import Derived.Test.YtjkkbmdonbcccaaGreatDoorGt3
import Derived.Test.YtjkkbmdonbcccaaGreatDoorRows
import Derived.Test.YtjkkbmdonbcccaaGreatDoorCards
import Derived.Test.YtjkkbmdonbcccaaGreatDoorTie
import Derived.OpenShut
import Derived.Deep.DeepHandedRow
import Derived.Deep.CondSized
import Derived.JoinedCond
import Derived.Shelf.SlIter.Nil
import Derived.Shelf.SlIter.Sorted
import Derived.Shelf.SortM.Plain
import Derived.Shelf.SortM.SortNone
set_option linter.unusedSimpArgs false
set_option linter.unusedVariables false
set_option linter.unusedSectionVars false
open Array renaming getElem?_eq_some_iff->xg
open BitVec renaming ofNat->qb,ofInt->qh,ofNat_add->vw,toNat_add->qaH
open Function renaming comp_def->vt
open Int renaming natCast_nonneg->xk
open List renaming length_append->qa,mem_singleton->qf,mem_cons->qg,mem_map->qi,not_mem_nil->qj,append_assoc->qk,mem_cons_self->ql,length_map->qm,mem_of_getElem?->qn,mem_cons_of_mem->qo,length_take->qp,nil_append->qu,mem_append->qv,take_append_drop->qx,take_length->qy,take_of_length_le->qz,append_nil->we,take_add_one->wg,getElem?_eq_getElem->wi,length->wm,perm_append_comm->wn,cons_append->ww,getElem?_eq_some_iff->xb,mem_of_mem_take->xf,perm_middle->xj,replicate->xl,flatMap_cons->xp,nodup_nil->xq,drop_of_length_le->xt,findIdx?_eq_some_iff_getElem->xu,mem_flatMap->xy,drop_drop->yg,mem_map_of_mem->yk,takeWhile_append_dropWhile->z8,length_replicate->zy,drop_sublist->kn,flatMap_nil->vi,mem_iff_getElem?->vx,dropWhile_sublist->qaG
open Nat renaming le_refl->qd,zero_le->qr,le_trans->wh,le_add_right->wz,not_lt_zero->xv,add_assoc->yi,eq_zero_or_pos->jy
open Option renaming bind_some->qw
namespace Go.Tan
open Go.RowKit
variable {q:BitVec 64} {ws:List Wtg} {μ:aB} {m:Meta} {k T j:Nat} {G:PM} {α:Type}
theorem aMr {α:Type}:∀ {ls:List (List α)} {p:List α},p∈ls->p.Sublist ls.flatten
 | x :: r,p,h=>by
  rw [List.flatten_cons];rcases List.mem_cons.1 h with rfl | h
  ·simp
  ·exact (aMr h).trans (List.sublist_append_right _ _)
theorem OneU.sub {l:List Ent} (h:OneU l) {hist:List Ent} (a:∀ e∈l,e∈hist):l.length<=hist.length∧cC l<=cC hist:=aOD h.nodup a
theorem aG7 {most:Nat} {l hist:List Ent} (n:cR l=true) (h1:OneU l) (m:∀ e∈l,e∈hist) (j:HistI hist) (hm:0<most) (i:l.length<=2000∨most<=200):NewT hist (lG most l)∧(∀ p∈lG most l,p≠[]∧∀ e∈p,cM e=true):=by
 obtain ⟨q,k,_⟩:=aN1 most l hm;have a:∀ p∈lG most l,p.Sublist l:=fun p c=>by grind[aMr]
 have f:∀ p∈lG most l,∀ e∈p,e∈hist:=fun p c e g=>m e ((a p c).subset g);refine ⟨⟨fun p c=>⟨?_,?_⟩,fun p c=>SrE.rises (List.Pairwise.sublist (a p c) (SrE.of n)),f⟩,fun p c=>⟨(k p c).1,fun e g=>j.ok e (f p c e g)⟩⟩
 ·rcases i with i | i
  ·grind
  rcases (k p c).2 with h | h
  ·grind[eJ]
  have:=h1.run p h; omega
 have:=(OneU.sub (List.Pairwise.sublist (a p c) h1) (f p c)).2;have:=j.wt;omega
theorem aXb {d:Db} {a:Nat} {n:BitVec 64} {p:List Ent} (g:a<5) (k:d.o.block=50) (j:d.o.every=4) (i:cR p=true) (l:p≠[]) (f:∀ e∈p,cM e=true):¬ oC (fX d a n) p d.o.block d.o.every:=by
 have c:(fX d a n).right=true:=by
  rw [aIU (show (((fX d a n).kind.toNat:Nat):Int)=2 from rfl),decide_eq_true_eq];grind[fX]
 rintro (h | h | h | h | h | h | h | h | h)
 ·trivial
 ·simp_all
 ·grind
 ·omega
 ·omega
 ·omega
 ·omega
 ·grind
 simp_all
theorem aOJ:∀ {ls:List (List Ent)},kT vV ls=2*cC ls.flatten+150*ls.flatten.length+170*ls.length
 | []=>rfl
 | l :: r=>by
  rw [kT,aOJ (ls:=r),vV,List.flatten_cons,qQ,List.length_append,List.length_cons]; omega
theorem aSQ {l:List Ent}:eJ l=8*l.length+cC l:=by rw [eJ,aOS]
def kQ (n:Nat):Nat:=164*n+75000
def jX (n:Nat):Nat:=10*n+95000
theorem aG8 {most:Nat} {l hist:List Ent} (h1:OneU l) (g:∀ e∈l,e∈hist) (f:HistI hist) (hm:200<=most):kT vV (lG most l)<=kQ hist.length∧(lG most l).length<=1850∧25*(lG most l).length<=2*hist.length+5025∧cC (lG most l).flatten<=20000:=by
 obtain ⟨k,_,h⟩:=aN1 most l om;obtain ⟨a,b⟩:=h1.sub g;have c:=f.few;have d:=f.wt;rw [aSQ] at h;obtain ⟨q,rfl⟩ : ∃ q,most=200+q:=⟨most-200,om⟩;have i:200*(lG (200+q) l).length<=2*(8*l.length+cC l)+200:=by
  rcases jy (lG (200+q) l).length with z | z
  ·omega
  ·have j:q<=q*(lG (200+q) l).length:=Nat.le_mul_of_pos_right _ z;grind
 grind[aOJ,kQ]
theorem aQ1 {root:Nat->Y} {b:List Y} {l:List Ent} (h:sK root m b=some l):l=[]∨m.min.size<=cC l∧m.max.size<=cC l:=by
 unfold sK at h;cases i:sL root m b with
 | none=>simp_all
 | some p =>
  rw [i] at h;simp only [qw] at h;cases g:lY root (eG m) (p.1.getD (p.1.length-1) qH) 1 with
  | none=>simp_all
  | some q =>
   rw [g] at h;simp only [qw] at h;cases f:nY root (eG m) p.1 (p.1.length-1) 0 [] with
   | none=>simp_all
   | some l2 =>
    rw [f] at h;simp only [qw] at h;split at h
    ·rename_i c;cases h;rcases c.2.2 with a | ⟨a,e⟩
     ·simp_all
     cases l with
     | nil=>simp
     | cons x r =>
      refine .inr ⟨?_,?_⟩
      ·rw [← a]; have:=zH (l:=x :: r) (k:=0) (by simp); grind[oG]
      rw [← e]; have:=zH (l:=x :: r) (k:=(x :: r).length-1) (by simp); grind[jV]
    grind
theorem aLu {d:Db} {n:BitVec 64} {ls:List (List Ent)} {ms:List Meta} {F C:List Fi} {clk sz:Nat} {hist:List Ent} (h:TabsR G d k n ls ms F C clk sz) (v:NewT hist ls) (A:∀ l∈ls,l≠[]):(ms.flatMap gA).length<=112*ls.length+2*cC ls.flatten:=by
 have e:∀ (ls:List (List Ent)) (ms:List Meta),ms.length=ls.length->(∀ (i:Nat) (l:List Ent) (m:Meta),ls[i]? = some l->ms[i]? = some m->m.wf∧m.min.size<=cC l∧m.max.size<=cC l)->(ms.flatMap gA).length<=112*ls.length+2*cC ls.flatten:=by
  intro ls;induction ls with
  | nil=>simp
  | cons l r ih =>
   intro ms c g;cases ms with
   | nil=>cases c
   | cons m q =>
    have D:=ih q (by simp_all) fun i p j a b=>g (i+1) p j (by simp_all) (by simp_all);obtain ⟨w,a,b⟩:=g 0 l m rfl rfl;grind[aFp,qQ]
 refine e ls ms h.len fun i l m a b=>?_;obtain ⟨L,f,x,_⟩:=h.tab i l m a b;have c:=qn a;obtain ⟨t,_,y,_,_⟩:=aOh x (v.light _ c) rfl;exact ⟨t,(aQ1 y).resolve_left (A l c)⟩
theorem aKC {root:Nat->Y} {h:Hd} {n a:BitVec 64} {s:State} {e:Edit} {L:List Y} {X:State} {N:Nat} (g:LayR root h n a s e L X 0) (l:e.wf) (c:fE s=true) (hm:(e.add.flatMap gA).length<=112*k+40000) (m:25*k<=2*N+5025):L.length<=jX N:=by
 rcases g.code c with ⟨_,i,f⟩ | j | j
 ·obtain ⟨_,p,_⟩:=aGV f;obtain ⟨_,_,r,q,_⟩:=i.is;grind[aDW,aZO,jX]
 ·omega
 ·omega
structure SmD (d d':Db):Prop where
 dk:d'.dk=d.dk
 tr:d'.tr=d.tr
 root:d'.root=d.root
 o:d'.o=d.o
 ep:d'.ep=d.ep
 seq:d'.seq=d.seq
 held:d'.held=d.held
 now:d'.now=d.now
 ol:d'.ol=d.ol
 flt:d'.flt=d.flt
 cls:d'.cls=d.cls
 lgh:d'.lg.h=d.lg.h
 lgn:d'.lg.n=d.lg.n
 nx:d.next.toNat≤d'.next.toNat∧d'.next.toNat≤d.next.toNat+2000
theorem WkI.wt {G:PM} {d:Db} {F:List Fi} {clk:Nat} {hist:List Ent} (h:WkI G d F clk hist) (w:Option Nat):WkI G { d with wt:=w } F clk hist :=
 ⟨h.dk,h.fil,h.st,h.right,h.tabs,h.nx,h.free,h.gens,h.lk,h.mk3,h.lgp,h.mnp,h.blk,h.evy,h.tbl,h.nums,h.lgl⟩
theorem WkI.turn {G:PM} {d:Db} {F:List Fi} {clk:Nat} {hist:List Ent} (h:WkI G d F clk hist) (w:BitVec 64):WkI G { d with turn:=w } F clk hist :=
 ⟨h.dk,h.fil,h.st,h.right,h.tabs,h.nx,h.free,h.gens,h.lk,h.mk3,h.lgp,h.mnp,h.blk,h.evy,h.tbl,h.nums,h.lgl⟩
theorem WkI.delog {d:Db} {F:List Fi} {clk:Nat} {hist:List Ent} (h:WkI G d F clk hist) (j:k≠d.lg.h.num.toNat):WkI G d (eE (nG 1 k) F) clk hist:=by
 have p:∀ n,aM (nG 2 n) (eE (nG 1 k) F)=aM (nG 2 n) F:=fun n=>aAI fun e=>nC _ e.symm;refine ⟨h.dk.delY,h.fil.del,h.st,h.right,fun i c m a=>?_,h.nx,fun n g=>by rw [p]; exact h.free n g,h.gens,h.lk,h.mk3,fun q=>?_,?_,h.blk,h.evy,h.tbl,h.nums,h.lgl⟩
 ·obtain ⟨l,L,f,x,w,v,t,y,r⟩:=(h.tabs i c m a).ex;exact ⟨⟨l,L,f,x,w,v,t,by simp_all,r⟩,(h.tabs i c m a).wf⟩
 ·rw [aAI fun e=>j (aXK e).symm]; exact h.lgp q
 rw [aAI aXL]; exact h.mnp
theorem aEh (x:BitVec 64):u64 (x.toNat:Int):=⟨xk _,om⟩
theorem bCd {a b:Int} (h:u64 a) (c:u64 b):u64 (if b > a then b else a):=by grind
theorem aGt {d:Db} {g:Nat} {hist:List Ent} {c:List Pe} {p:Pe} (m:d.o.block=50) (k:d.o.every=4) (f:g<5) (i:NewT hist (aU c)) (a:∀ l∈aU c,l≠[]∧∀ e∈l,cM e=true) (j:p∈c):lightE p.2∧∀ n:BitVec 64,n.toNat<9223372036854775808->¬ oC (fX d g n) p.2 d.o.block d.o.every:=by
 have h:p.2∈aU c:=yk j;exact ⟨i.light _ h,fun n _=>aXb f m k (i.rises _ h) (a _ h).1 (a _ h).2⟩
theorem aCR {n:BitVec 64} (h:n.toNat+2000<9223372036854775807) (a:k<=1850):n.toNat<=(n+BitVec.ofNat 64 k).toNat∧(n+BitVec.ofNat 64 k).toNat<=n.toNat+2000:=by
 grind
theorem aIc {d a:Db} {w:Option Nat} (h:SmD { d with wt:=w } a):SmD d a:=⟨h.dk,h.tr,h.root,h.o,h.ep,h.seq,h.held,h.now,h.ol,h.flt,h.cls,h.lgh,h.lgn,h.nx⟩
structure JF (s:State) (j:Job) (lowM highM:List Meta):Prop where
 l0:0≤j.level
 l5:j.level<5
 t0:j.level≤j.to
 t1:j.to≤j.level+1
 t5:j.to<5
 low:j.low=nums lowM
 high:j.high=nums highM
 ne:0<lowM.length
 lowIn:∀ m∈lowM,m∈s.lv j.level.toNat
 highIn:∀ m∈highM,m∈s.lv j.to.toNat
 stay:j.to=j.level→∃ m,lowM=[m]∧highM=[]∧aAQ s j.level m=true
 down:j.to≠j.level→highM=mH s j.to (aDz lowM) (aDy lowM)∧(0<j.level∨lowM=s.lv 0)
theorem aYK {s:State} {a:Int} {lo c:ByteArray} (h:m∈mH s a lo c):m∈s.lv a.toNat:=by
 simp_all[mH]
theorem aGL {s:State} {a:Int} {i:Nat} {M:List Meta} (f:i<4) (c:0<M.length) (hM:∀ m∈M,m∈s.lv i) (g:0<i∨M=s.lv 0):JF s (jO s a (i:Int) M) M (mH s ((i:Int)+1) (aDz M) (aDy M)):=by
 refine ⟨?_,?_,?_,?_,?_,rfl,rfl,c,?_,?_,?_,?_⟩
 ·simp_all[jO]
 ·grind[jO]
 ·grind[jO]
 ·simp_all[jO]
 ·grind[jO]
 ·exact hM
 ·intro m e; exact aYK e
 ·grind[jO]
 simp_all[jO]
theorem aVg {s:State} {i:Nat} (c:i<5) (hm:m∈s.lv i) (a:aAQ s (i:Int) m=true):JF s ⟨2,(i:Int),(i:Int),nums [m],[]⟩ [m] []:=by
 refine ⟨?_,?_,?_,?_,?_,rfl,rfl,by simp,?_,?_,?_,?_⟩
 ·simp
 ·grind
 ·simp
 ·grind
 ·grind
 ·simp_all
 ·simp
 ·simp_all
 simp
theorem aHA {s:State} {o:Opts} {turn:Int} {j:Job}:∀ {n i:Nat},jM s o turn n i=some j->∃ k,i<=k∧k<i+n∧sY s o (k:Int)=true∧j=jO s 1 k (wL s turn k)
 | 0,i,h=>by cases h
 | n+1,i,h=>by
  unfold jM at h;split at h
  ·grind
  ·obtain ⟨k,h1,h2,h3,h4⟩:=aHA h;exact ⟨k,om,om,h3,h4⟩
theorem aHB {s:State} {j:Job}:∀ {n i:Nat},lE s n i=some j->∃ k,i<=k∧k<i+n∧0<=rH s k∧j=wR s k
 | 0,i,h=>by cases h
 | n+1,i,h=>by
  unfold lE at h;split at h
  ·obtain ⟨k,h1,h2,h3,h4⟩:=aHB h;exact ⟨k,om,om,h3,h4⟩
  ·exact ⟨i,qd _,om,om,(Option.some.inj h).symm⟩
theorem aU4 {p:Meta->Bool} {l:List Meta} (h:0<=eK p l):p (l.getD (eK p l).toNat Meta.zero)=true:=by
 grind[eK,xu]
theorem aYY {s:State} {o:Opts} {turn:Int} {j:Job} (ht:0<=turn) (h:lC s o turn=(j,true)):fE s=true∧∃ lowM highM,JF s j lowM highM:=by
 unfold lC at h;split at h
 ·rename_i l;refine ⟨l.2,?_⟩;split at h
  ·rename_i q g;obtain rfl:=(Prod.mk.inj h).1;obtain ⟨k,_,r,e,rfl⟩:=aHA g;have c:=aKt l.1 e;by_cases a:k=0
   ·rw [aGb a];subst a;exact ⟨_,_,aGL om c (fun m f=>f) (.inr rfl)⟩
   rw [aGa a];have p:=aOq (n:=(s.lv k).length) ht c;grind[aGL]
  split at h
  ·rename_i q g;obtain rfl:=(Prod.mk.inj h).1;obtain ⟨k,_,r,e,rfl⟩:=aHB g;have p:=aG0 e;by_cases a:k=0
   ·rw [aG2 a];subst a;exact ⟨_,_,aGL (i:=0) om om (fun m f=>f) (.inr rfl)⟩
   rw [aG1 a];exact ⟨_,_,aVg om (yD p) (aU4 e)⟩
  grind
 grind
theorem aUO {s:State} (c:RightP s) {i:Nat} (f:i<5) (hm:m∈s.lv i):∃ j:Nat,(s.lv i)[j]? = some m∧cZ (fun x=>decide (x.number=m.number)) (s.lv i)=(j:Int):=by
 have e:=aNI c f;unfold cZ;cases h:(s.lv i).findIdx? (fun x=>decide (x.number=m.number)) with
 | none=>grind
 | some j =>
  obtain ⟨a,g,_⟩:=xu.1 h;refine ⟨j,?_,rfl⟩;rw [wi a,e.same (List.getElem_mem a) hm (by simp_all)]
theorem aOs {q:Nat}:∀ {ls:List (List Ent)},(∀ l∈ls,l.length<=q)->fQ ls<=q*ls.length
 | [],_=>Nat.zero_le _
 | l :: r,h=>by
  have h1:=aOs (ls:=r) fun x a=>h x (qo _ a);grind[fQ,Nat.mul_succ]
theorem SrE.nodup {l:List Ent} (h:SrE l):l.Nodup:=h.imp fun {a b} h e=>by grind[aIy]
theorem aW0 {ls:List (List Ent)} {hist:List Ent} (f:∀ l∈ls,cR l=true) (i:∀ l∈ls,∀ e∈l,e∈hist) (h:HistI hist):cR (jK ls)=true∧(∀ e∈jK ls,e∈hist)∧(jK ls).length<=20000:=by
 obtain ⟨c,_,k⟩:=aGl (fun l g=>SrE.of (f l g)) (qd (fQ ls));have a:∀ e∈jK ls,e∈hist:=fun e j=>by grind[jK]
 exact ⟨c.rises,a,wh (aOD c.nodup a).1 h.few⟩
structure LsI (G:PM) (hist:List Ent) (ps:List Pe):Prop where
 all:AllE G ps
 light:∀ p∈ps,lightE p.2
 rises:∀ p∈ps,cR p.2=true
 sub:∀ p∈ps,∀ e∈p.2,e∈hist
theorem LsI.mono {G e:PM} {hist:List Ent} {c:List Pe} (h:LsI G hist c) (a:PM.le G e):LsI e hist c:=⟨h.all.mono a,h.light,h.rises,h.sub⟩
theorem LsI.nil {hist:List Ent}:LsI G hist []:=⟨fun p a=>absurd a qj,fun p a=>absurd a qj,fun p a=>absurd a qj,fun p a=>absurd a qj⟩
theorem LsI.snoc {hist:List Ent} {c:List Pe} {p:Pe} (h:LsI G hist c) (h1:SlR G 4 Ent.cells p.1 p.2) (h2:lightE p.2) (h3:cR p.2=true) (f:∀ e∈p.2,e∈hist):LsI G hist (c++[p]):=by
 have a:∀ {C:Pe->Prop},(∀ q∈c,C q)->C p->∀ q∈c++[p],C q:=fun j i q g=>by
  grind
 exact ⟨a h.all h1,a h.light h2,a h.rises h3,a h.sub f⟩
theorem aUo {x:Int} (c:k<5) (a:u64 x):Gone.wf ⟨(k:Int),x⟩:=⟨⟨xk _,by grind⟩,a⟩
theorem aQ4 {C:α->Prop} {l:List α} {x:α} (h:∀ q∈l,C q) (a:C x):∀ q∈l++[x],C q:=fun q c=>by
 grind
theorem aKK (l:List Int):∀ u∈l.flatMap lO,u.oneCell'=true:=fun u a=>by
 obtain ⟨x,_,h⟩:=xy.1 a; rw [qf.1 h]; rfl
theorem aD1 {s:State} (a:RightP s) {i:Nat} (e:i<5):(s.lv i).length<=1024:=by
 have g:=a.few;have c:=aEg s (show i+1<=5 by omega);have f:=aCa s i;rw [show tot s (i+1)=tot s i+(s.lv i).length from rfl] at c;omega
theorem aWi {a c:List Meta} {C:Meta->Prop} (h:∀ m∈a,C m) (e:(a++c)[k]? = some m) (f:k<a.length):C m:=by
 grind
theorem aUv {c a:List Meta} {C:Meta->Prop} (h:∀ m∈a,C m) (e:(c++a)[k]? = some m) (f:c.length<=k):C m:=by
 grind
def oS (T e:Nat):PanicEntry:={ v:=.iface T (.agg #[.int .i64 (e:Int)]),recovered:=false }
def xF (T e:Nat):PanicEntry:={ v:=.iface T (.agg #[.int .i64 (e:Int)]),recovered:=true }
def srT (P:Program) (T:TypeId):Bool:=match P.underlying T with | some (.struct _)=>true | _=>false
section
variable {dr:Bool} {mc:Md} {P:Program} {n:Fm} {l:List Oper} {K:aG→PM→aB→Prop} {i:Nat} {σ:List Nat} {ρ:aG} {G:PM} {μ:aB}
variable {d t:Nat} {p:String} {af:Array Edge}
theorem mkI {T:TypeId} {x:Operand} {v:Value} (f:nth l i=some ⟨some d,.makeInterface T x,t,p,af,none⟩) (c:srT P T=true) (e:Ev ρ true x v)
  (h:Wo dr mc P n l K σ ((d,true,.iface T v) :: ρ) G μ):Wo dr mc P n l K (i :: σ) ρ G μ:=by
 refine .read (v:=.iface T v) f (.inl rfl) .no (fun _ a w g _=>?_) h;have j:a.eval x=v:=e.eval g rfl;unfold srT at c;split at c
 ·simp_all[execOp,Instr.makeInterface,run_underlying]
 cases c
theorem tA {S T:TypeId} {x:Operand} {v:Value} (j:nth l i=some ⟨some d,.typeAssert x S T false,t,p,af,none⟩) (e:srT P T=true) (f:Ev ρ true x (.iface T v))
  (h:Wo dr mc P n l K σ ((d,true,v) :: ρ) G μ):Wo dr mc P n l K (i :: σ) ρ G μ:=by
 refine .act (μ₁:=[]) (μ₂:=μ) (post:=fun m c u=>m=G∧c=[]∧u=v) j (.inl rfl) .no (.refl _) (fun a w k g=>.inl ?_) ?_
 ·have q:a.eval x=.iface T v:=f.eval k rfl;refine ⟨v,w,G,[],.inl ?_,gR (Sat.left (μ:=[]) g),rfl,rfl,rfl⟩;unfold srT at e;split at e
  ·simp_all[execOp,Instr.typeAssert,run_underlying]
  cases e
 simp_all[bT]
end
theorem aDr {P:Program} {fn:Func} {a:Array Value} {R:Ending->World->Prop} (c:∀ e w,¬ R e w):∀ (ds:List Deferred) (u:FrameMode) (w:World),¬ Leaves P fn a R ds u w
 | [],u,w,h=>by
  cases u with
  | run=>exact h
  | returning=>obtain ⟨v,_,h⟩:=h; simp_all
  | panicking ch=>exact c _ _ h
 | d :: ds,u,w,h=>by
  obtain ⟨_,m,j,f,g,_,_,i⟩:=h;obtain ⟨e,l,k,n,h,_⟩:=i { (default:Frame) with mode:=u } [] rfl;cases e with
  | returned v=>exact aDr c ds _ _ h
  | panicked ch=>exact aDr c ds _ _ h
  | outgrown=>exact c _ _ h
theorem bDC {P:Program} {fn:Func} {n:Nat} {G1:PM} {K0:List Nat} {w0 w:World} {c:Code} {ρ:aG} {I:Act->World->Prop} {a:Act} {Q:Exit->Act->World->Prop} (h:Wk (cx0 P fn n G K0 w0 (fun _ _ _=>False) (fun _ _ _=>False)) c [.lp I] ρ G1 μ) (j:Ag (sX n fun _ _ _=>False) ρ a) (ht:Tr G K0 w0 G1 μ w) (i:∀ a w,I a w->Q .normal a w):c.wp P Q a w:=by
 refine wp_mono (h.out a w j ht) fun e m k f=>?_;have g:∀ e w,¬ RR (fun _ _ _=>False) (fun _ _ _=>False) G K0 w0 e w:=by
  simp_all[RR]
 cases e with
 | normal=>exact i _ _ f
 | ret=>exact (aDr g _ _ _ f).elim
 | panic ch=>exact (aDr g _ _ _ f).elim
 | outgrown=>exact (g _ _ f).elim
 | exit id=>trivial
 | goto l=>trivial
def flP (P:Program) (T f:Nat):Option Nat :=
 match P.underlying T with
 | some (.struct fs)=>match fs[f]? with
  | some fl=>match P.underlying fl.type with
   | some (.struct _) | some (.array _ _)=>none
   | some _=>some fl.offset
   | none=>none
  | none=>none
 | _=>none
def mpT (P:Program) (T:Nat):Bool:=match P.underlying T with | some (.map _ _)=>true | _=>false
theorem aXA {P:Program} (h:mpT P T=true):∃ k e,P.underlying T=some (.map k e):=by
 grind[mpT]
section
variable {dr:Bool} {mc:Md} {P:Program} {n:Fm} {l:List Oper} {K:aG→PM→aB→Prop} {i:Nat} {σ:List Nat} {ρ:aG} {G:PM} {μ:aB}
variable {d t:Nat} {p:String} {af:Array Edge} {g:Option (Nat×Bool)} {c:Bool}
theorem rg0 {b clk:Nat} {x:Operand} {es:List FE} (y:nth l i=some ⟨some d,.range T x,t,p,af,none⟩) (C:mpT P T=true) (q:Ev ρ true x (.map (some b))) (f:∀ w,Sat G μ w->w.heap[b]? = some (mO es clk)) (h:∀ bi,Wo dr mc P n l K σ ((d,true,.pointer (some ⟨bi,0,none⟩)) :: ρ) G (.blk bi (jJ b clk clk []) :: μ)):Wo dr mc P n l K (i :: σ) ρ G μ:=by
 refine .act (μ₁:=[]) (μ₂:=μ) (post:=fun m g v=>∃ bi,m=G∧g=[.blk bi (jJ b clk clk [])]∧v=.pointer (some ⟨bi,0,none⟩)) y (.inl rfl) .no (.refl _) (fun a w A r=>.inl ?_) ?_
 ·have c:Sat G μ w:=by simp_all
  have H:w.heap[b]? = some (mO es clk):=f w c;obtain ⟨F,e,D⟩:=aXA C;have j:(getObj b).run P w=.ok (.map (es.map mE).toArray clk) w:=by simp_all[getObj,Sem.run,mO]
  have E:Tr G (keys []) w G (.blk w.heap.size (.mapIter (some b) clk #[] clk) :: []) (w.alloc (.mapIter (some b) clk #[] clk)):=(gR (Sat.left (μ:=[]) r)).alloc _;exact ⟨.pointer (some ⟨w.heap.size,0,none⟩),w.alloc (.mapIter (some b) clk #[] clk),G,[_],.inl (by simp [execOp,q.eval A rfl,Instr.range,Sem.run_bind,run_underlying D,j]),E,w.heap.size,rfl,rfl,rfl⟩
 rintro v m k _ ⟨b,rfl,rfl,rfl⟩;exact h b
end
theorem aXs {o:Option FE} (h:zN [] [] o):o=none:=by
 cases o<;>simp_all[zN]
theorem aCu {A B ν μ₂:aB} (h:MSub A ν) (e:MSub B μ₂) (hm:μ.Perm (ν++μ₂)):MSub (A++B) μ:=by
 obtain ⟨r,c⟩:=h;obtain ⟨q,a⟩:=e;refine ⟨r++q,hm.trans ((c.append a).trans ?_)⟩;grind[List.Perm.append_left,List.Perm.append_right,wn]
def aBX (P:Program) (T be TI:Nat) (D:Nat->Prop) (post:PM->aB->Value->Prop) (rs:List ResultVar) (vs:Nat->List Value):List PanicEntry->aG->PM->aB->Prop:=fun ch ρ G μ =>
 ∃ e x μ' ν,ch=[oS T e]∧D e∧μ.Perm (.blk be (cl [x] TI) :: μ')∧MSub ν μ'∧∀ G2,PM.le G G2->Rs P ρ G2 (.blk be (cl [.int .i64 (e:Int)] TI) :: μ') rs (vs e)∧post G2 ν (eV (vs e))
theorem aJ0 {X:Cx} {q:DQ} {g TI:Nat} {D:Nat->Prop} {l:List ResultVar} {vs:Nat->List Value} (Q:dW X.P q.f=true) (O:X.fn.results=l.toArray) (N:X.n.ds=[]) (I:∀ w G e x,D e->Sat G [.blk g (cl [x] TI)] w->CallsD X.P q.f (q.args++q.vc).toArray (.panicking [oS T e]) w (fun r A y=>(∃ v,r=.returned v)∧A=.panicking [xF T e]∧∃ j,PM.le G j∧Tr G (keys [.blk g (cl [x] TI)]) w j [.blk g (cl [.int .i64 (e:Int)] TI)] y)) :
  ∀ t k G μ a w,aBX X.P T g TI D X.post l vs t k G μ->Ag ⟨X.n.n,q.d :: X.n.ds,aBX X.P T g TI D X.post l vs⟩ k a->Tr X.G0 X.K0 X.w0 G μ w->Leaves X.P X.fn a.tmps (RR X.post X.die X.G0 X.K0 X.w0) a.defers (.panicking t) w:=by
 rintro t k G μ a w ⟨e,x,c,ν,rfl,K,H,m,J⟩ C E;rw [C.defers,N];have i:Tr X.G0 X.K0 X.w0 G ([.blk g (cl [x] TI)]++c) w:=E.perm H;refine leaves_cons (by simp) (f:=q.f) (args:=(q.args++q.vc).toArray) (by grind[invoke,aAn]) ((I w G e x K i.sat.left).mono ?_);rintro r A y ⟨⟨v,rfl⟩,rfl,j,p,M⟩;have h:=i.step M;show Leaves X.P X.fn a.tmps _ [] (settle (.panicking [xF T e])) _;have F:settle (.panicking [xF T e])=.returning:=by rfl
 rw [F];obtain ⟨S,L⟩:=J j p;exact ⟨_,aEV (by simp_all) C h.sat,.inl ⟨_,j,ν,rfl,m.tr (Tr.left (μ:=c) (ν:=[.blk g (cl [.int .i64 (e:Int)] TI)]) (h.perm (wn (l₁:=[_]) (l₂:=c)))),L⟩⟩
theorem aE4 {X:Cx} {k:List KI} {ρ:aG} {C:Nat} {l:List Oper} (a:List Nat) (j:Nat) (q:DQ) (T c TI:Nat) (D:Nat->Prop) {m:List ResultVar} (vs:Nat->List Value) (t:dW X.P q.f=true) (p:X.fn.results=m.toArray) (A:X.n.ds=[]) (y:∀ w G e x,D e->Sat G [.blk c (cl [x] TI)] w->CallsD X.P q.f (q.args++q.vc).toArray (.panicking [oS T e]) w (fun r u' w'=>(∃ v,r=.returned v)∧u'=.panicking [xF T e]∧∃ G',PM.le G G'∧Tr G (keys [.blk c (cl [x] TI)]) w G' [.blk c (cl [.int .i64 (e:Int)] TI)] w')) (g:List.range l.length=a++[j]) (i:jP X.n l=true) (h:Wo false ⟨false,false⟩ X.P X.n l (fun ρ G μ=>DefOp X.P X.n l j q.d ρ∧We (X.dfs q.d (aBX X.P T c TI D X.post m vs) (aJ0 t p A y)) .normal k ρ G μ) a ρ G μ):Wk X (.region C l.toArray false) k ρ G μ :=
 Wk.defers a j q.d _ (aJ0 t p A y) g i h
theorem aMk {s:State} (e:RightP s) (a:Int) (lo c:ByteArray):(mH s a lo c).length<=1024:=by
 unfold mH;split
 ·grind[aD1]
 simp
theorem aYZ {s:State} {o:Opts} {turn:Int} {j:Job} (h:lC s o turn=(j,true)):j.low.length<=1024∧j.high.length<=1024:=by
 unfold lC at h;split at h
 ·rename_i e;have l:=oN e.2;split at h
  ·rename_i c a;obtain rfl:=(Prod.mk.inj h).1;obtain ⟨k,_,g,f,rfl⟩:=aHA a;grind[uT,aMk,aGb,aD1,aGa,jO]
  ·split at h
   ·rename_i c a;obtain rfl:=(Prod.mk.inj h).1;obtain ⟨k,_,g,f,rfl⟩:=aHB a;by_cases i:k=0
    ·rw [aG2 i];simp_all[uT,aD1,aMk,jO,rH]
    simp_all[aG1,uT]
   grind
 grind
theorem aVk {s:State} {o:Opts} {turn:Int} {j:Job} (ht:0<=turn) (h:lC s o turn=(j,true)):∃ (why:Int) (jl jt:Nat) (c a:List Meta),j=⟨why,(jl:Int),(jt:Int),nums c,nums a⟩∧jl<5∧jt<5∧0<c.length∧(∀ m∈c,m∈s.lv jl)∧(∀ m∈a,m∈s.lv jt)∧c.length<=1024∧a.length<=1024:=by
 obtain ⟨_,c,a,f⟩:=aYY ht h;obtain ⟨g,e⟩:=aYZ h;have q:=f.l0; have p:=f.l5; have n:=f.t0; have l:=f.t5; have k:=f.low; have i:=f.high;rw [k,uT] at g;rw [i,uT] at e;refine ⟨j.why,j.level.toNat,j.to.toNat,c,a,?_,om,om,f.ne,f.lowIn,f.highIn,g,e⟩;cases j with | mk why level to low high =>
 grind
theorem MSub.left {ν a:aB} (h:MSub ν μ):MSub ν (μ++a):=by
 obtain ⟨r,h⟩:=h;exact ⟨r++a,by grind[List.Perm.append_right]⟩
theorem aJz {P:Program} {TI e:Nat} {D:Nat->Prop} {post:PM->aB->Value->Prop} {k:List ResultVar} {vs:Nat->List Value} {l:List PanicEntry} {ρ f:aG} {g μ₁ μ₂ c ν:aB} {x:Value} (hd:l=[oS T e]) (r:D e) (p:∀ i,cO f i=cO ρ i) (hm:g.Perm (μ₁++μ₂)) (ht:MTake μ₂ (.blk j (cl [x] TI)) c) (m:MSub ν μ₁) (q:∀ a,PM.le G a->Rs P ρ a (.blk j (cl [.int .i64 (e:Int)] TI) :: (μ₁++c)) k (vs e)) (n:∀ a,PM.le G a->post a ν (eV (vs e))):aBX P T j TI D post k vs l f G g :=
 ⟨e,x,μ₁++c,ν,hd,r,hm.trans ((List.Perm.append_left μ₁ ht.perm).trans xj),m.left,fun a h=>⟨(q a h).congr p,n a h⟩⟩
def xO (q n:BitVec 64):Bool:=((((n.toNat:Int) == 0)||decide ((n.toNat:Int) > 1000))||((q.toNat:Int) == 0))||decide ((q.toNat:Int) > ((72057594037927935#64-n+1#64).toNat:Int))
def iS (q:BitVec 64) (l:List Opn):Bool := !xO q (qh 64 ((l.length:Nat):Int))&&l.all fun o=>cM (oZ q o)
theorem aRU {m:Nat} (hm:m<18446744073709551616) (h:xO q (BitVec.ofInt 64 ((m:Nat):Int))=false):0<m∧m<=1000∧0<q.toNat∧q.toNat+m<=72057594037927936:=by
 have e:(qh 64 ((m:Nat):Int)).toNat=m:=by simp_all
 unfold xO at h;grind
theorem aRV {m:Nat} (c:0<m) (h1:m<=1000) (a:0<q.toNat) (h2:q.toNat+m<=72057594037927936):xO q (BitVec.ofInt 64 ((m:Nat):Int))=false:=by
 have e:(qh 64 ((m:Nat):Int)).toNat=m:=by grind
 have f:(72057594037927935#64-qh 64 ((m:Nat):Int)+1#64).toNat=72057594037927936-m:=by
  grind
 unfold xO;grind
structure Opn.may (o:Opn):Prop where
 kind:o.kind=1#8∨(o.kind=0#8∧o.value.toList=[])
 user:o.user.size≤1024
 value:o.value.size≤65536
theorem aNH {o:Opn}:cM (oZ q o)=true↔o.may∧q.toNat<=72057594037927935:=by
 unfold cM oZ;simp only [dP];constructor
 ·rintro ⟨⟨⟨f,e⟩,a⟩,c⟩;refine ⟨⟨?_,om,om⟩,a⟩;grind
 rintro ⟨⟨f,e,a⟩,c⟩;grind
theorem yV {l:List Opn} (a:l.length<18446744073709551616):iS q l=true↔0<l.length∧l.length<=1000∧0<q.toNat∧q.toNat+l.length<=72057594037927936∧∀ o∈l,o.may:=by
 unfold iS;rw [Bool.and_eq_true,Bool.not_eq_true',List.all_eq_true];grind[aRU,aNH,aRV]
def rJ (o:Opn):List Y:=[o.kind]++gL (yb o.user)++(if o.kind=1#8 then gL (yb o.value) else [])
def aFo (q:BitVec 64) (l:List Opn):List Y:=cY q 8++bV l.length++l.flatMap rJ
theorem aEb {s:ByteArray} (h:s.size<=1000000):(gL (yb s)).length<=s.size+3:=by
 have:=aCF 3 (yb s).length (by grind[bZ]) dc;grind[gL,bZ]
theorem aX4 {o:Opn} (h:o.may):(rJ o).length<=o.user.size+o.value.size+7:=by
 have c:=aEb (s:=o.user) (by have:=h.user; omega);have a:=aEb (s:=o.value) (by have:=h.value; omega);grind[rJ]
theorem aG4:∀ {l:List Opn},(∀ o∈l,o.may)->(l.flatMap rJ).length<=cX l+7*l.length
 | [],_=>by simp
 | o :: r,h=>by
  have:=aG4 fun x a=>h x (qo _ a);have c:=aX4 (h o (ql ..));rw [xp,qa,cX,List.length_cons]; omega
theorem aTy {l:List Opn} (h:∀ o∈l,o.may) (a:l.length<=1000000):(aFo q l).length<=11+cX l+7*l.length:=by
 have e:=aG4 h;have c:=aCF 3 l.length om dc;grind[aFo,kI]
theorem aMg {l:List Opn} {o:Opn} (h:l[k]? = some o):(l.take k).flatMap rJ++rJ o=(l.take (k+1)).flatMap rJ:=by
 simp_all[wg]
theorem aHn {l:List Opn} (h:∀ o∈l,o.may):cX l<=66560*l.length:=by
 induction l with
 | nil=>trivial
 | cons a r ih =>
  have:=ih fun o e=>h o (qo _ e);have c:=h a (ql ..);have g:=c.user; have f:=c.value;grind[cX]
theorem aT0 {l:List Opn} (a:∀ o∈l,o.may) (e:l.length<=1000):(cY q 8++bV l.length++(l.take k).flatMap rJ).length<=11+66567*l.length:=by
 have i:=aG4 (l:=l.take k) (fun o c=>a o (xf c));have h:=aHn (l:=l.take k) (fun o c=>a o (xf c));have g:(l.take k).length<=l.length:=by grind
 have f:=aCF 3 l.length om dc;grind[kI]
theorem aK6 {b:Bool} (h:(decide (((q >>> j).toNat:Int) > 0)&&b)=true):j<64∧(q >>> (j+1)).toNat<(q >>> j).toNat:=by
 simp only [dP,BitVec.toNat_ushiftRight,Nat.shiftRight_eq_div_pow] at h ⊢;have c:0<q.toNat / 2^j:=by omega
 have e:=q.isLt;refine ⟨?_,by rw [Nat.pow_succ,←Nat.div_div_eq_div_mul]; omega⟩;rcases Nat.lt_or_ge j 64 with a | a
 ·exact a
 have:2^64<=2^j:=Nat.pow_le_pow_right dc a;rw [Nat.div_eq_of_lt om] at c; omega
theorem aVh (h1:∀ w∈ws,w.ops.length<=1000):(jn ws).length<=1000*ws.length:=by
 induction ws with
 | nil=>trivial
 | cons a r ih =>
  grind[jn]
theorem aXx {m:Nat} (h:m<18446744073709551616):(BitVec.ofInt 64 ((m:Nat):Int)).toNat=m:=by
 simp_all
theorem aIm {a:Y} (h:(a.toNat:Int)=1):a=1#8:=BitVec.eq_of_toNat_eq (by grind)
theorem aIn {a:Y} (h:¬ (a.toNat:Int)=1):¬ a=1#8:=fun e=>h (by simp_all)
theorem aM0 {xs:List Nd} {o:List Nat} {a:Nat->Nat} (h:Skp xs o a) {e:Ent} (c:∀ i∈o,¬ ((cV xs i).user=e.user∧(cV xs i).seq=e.seq)) :
  bR xs (jD xs e.user e.seq o a 0) 0=0∨¬ ((cV xs (bR xs (jD xs e.user e.seq o a 0) 0)).user=e.user∧(cV xs (bR xs (jD xs e.user e.seq o a 0) 0)).seq=e.seq):=by
 have k:(gX xs e.user e.seq o).filter (fun i=>decide (0<a i))=gX xs e.user e.seq o:=List.filter_eq_self.2 fun i f=>decide_eq_true (h.h1 i (zQ f).1).1;have j:jD xs e.user e.seq o a 0=hY 0 (gX xs e.user e.seq o):=by grind[jD]
 have h1:=h.chn0;rw [← z8 (p:=fun i=>fA (cV xs i) e.user e.seq) (l:=o)] at h1;have g:=Chn.hd (Chn.drop (s:=gX xs e.user e.seq o) h1);rw [j,g];cases hd:o.dropWhile (fun i=>fA (cV xs i) e.user e.seq) with
 | nil=>simp
 | cons i r =>
  grind[qaG]
structure NowI (hist:List Ent) (xs:List Nd) (o:List Nat) (hgt:Nat→Nat) (sz:Nat):Prop where
 skp:Skp xs o hgt
 cnt:8*o.length≤sz
 szl:sz≤1000000000
 len:o.length≤1900
 sub:∀ e∈gB xs o,e∈hist
theorem NowI.nil {hist:List Ent}:NowI hist [Nd.z] [] (fun _=>0) 0:=⟨Skp.nil,qd _,dc,dc,fun e a=>absurd a qj⟩
theorem aVG {e:Ent} {l:List Ent}:(wE e l).length=l.length+1:=by
 unfold wE;have:=congrArg wm (z8 (p:=fun x=>dH x e) (l:=l));grind
theorem aVH {e x:Ent} {l:List Ent} (h:x∈wE e l):x=e∨x∈l:=by
 grind[wE,qaG]
theorem NowI.put_len {hist:List Ent} {xs:List Nd} {o:List Nat} {c:Nat->Nat} {sz:Nat} (h:NowI hist xs o c sz) {e:Ent} (j:∀ x∈hist,x.seq≠e.seq):(pC xs e o).length=o.length+1:=by
 have a:∀ i∈o,¬ ((cV xs i).user=e.user∧(cV xs i).seq=e.seq):=fun i f g=>j _ (h.sub _ (yk f)) g.2;obtain ⟨_,b⟩:=h.skp.put (e:=e) (ht:=1) om om a;have:=congrArg wm b;grind[aAF,aVG]
theorem NowI.put {hist:List Ent} {xs:List Nd} {o:List Nat} {c:Nat->Nat} {sz:Nat} (h:NowI hist xs o c sz) {e:Ent} {ht:Nat} (h1:1<=ht) (k:∀ x∈hist,x.seq≠e.seq) (q:o.length<1900) (p:sz<=900000000) (m:e.user.size+e.value.size<=100000) :
  NowI (hist++[e]) (iP (jD xs e.user e.seq o c) xs.length (xs++[(e,fun _=>0)]) (min ht 12)) (pC xs e o) (fun i=>if i=xs.length then min ht 12 else c i) (sz+(e.user.size+e.value.size+8)):=by
 have j:∀ i∈o,¬ ((cV xs i).user=e.user∧(cV xs i).seq=e.seq):=fun i l n=>k _ (h.sub _ (yk l)) n.2;obtain ⟨a,b⟩:=h.skp.put (e:=e) (ht:=min ht 12) om om j;have g:=h.put_len k;refine ⟨a,by rw [g]; have:=h.cnt; omega,om,om,fun x f=>?_⟩;rw [b] at f;rcases aVH f with rfl | f
 ·simp
 exact List.mem_append_left _ (h.sub x f)
def WaitR (G:PM) (T:Nat) (hist:List Ent) (d:Db):Prop:=∀ bw,d.wt=some bw->∃ (h:Sh) (nw:List Nd) (sz:Value) (o:List Nat) (hgt:Nat->Nat),PB G bw (cl [h.val nw.length,sz] T)∧SlR G 16 Nd.cells h nw∧Skp nw o hgt∧nw.length<=2000∧(∀ e∈gB nw o,e∈hist)∧d.ol.h.kind=1#8∧d.ol.h.num.toNat≠d.lg.h.num.toNat
theorem WaitR.mono {G g:PM} {T:Nat} {hist:List Ent} {d:Db} (h:WaitR G T hist d) (e:PM.le G g):WaitR g T hist d:=fun bw j=>by
 obtain ⟨s,nw,i,o,f,a,b,c⟩:=h bw j;exact ⟨s,nw,i,o,f,a.mono e,b.mono e,c⟩
theorem WaitR.more {hist new:List Ent} {d:Db} (h:WaitR G T hist d):WaitR G T (hist++new) d:=fun bw e=>by
 obtain ⟨s,nw,g,o,f,a,b,c,k,j,i⟩:=h bw e;grind
theorem WaitR.same {hist:List Ent} {d a:Db} (h:WaitR G T hist d) (c:a.wt=d.wt) (e:a.ol=d.ol) (f:a.lg.h=d.lg.h):WaitR G T hist a:=fun bw g=>by rw [e,f]; exact h bw (c▸g)
theorem WaitR.no {hist:List Ent} {d:Db} (h:d.wt=none):WaitR G T hist d:=fun bw a=>by simp_all
theorem WkI.more {G:PM} {d:Db} {F:List Fi} {clk:Nat} {hist new:List Ent} (h:WkI G d F clk hist):WkI G d F clk (hist++new) :=
 ⟨h.dk,h.fil,h.st,h.right,h.tabs.more,h.nx,h.free,h.gens,h.lk,h.mk3,h.lgp,h.mnp,h.blk,h.evy,h.tbl,h.nums,h.lgl⟩
theorem WkI.stp {G g:PM} {d:Db} {F e:List Fi} {clk j t nw:Nat} {hist:List Ent} (h:WkI G d F clk hist) (a:PM.le G g) (c:Stp F e [] t nw) (r:DkR e j) (hF:FilesR g e):WkI g d e j hist:=by
 refine ⟨r,hF,h.st.mono a,h.right,fun i p m l=>((h.tabs i p m l).mono a).stp c (fun x f=>absurd f qj) (fun x f=>absurd f qj),h.nx,fun n k=>c.gone n (h.free n k),h.gens,h.lk,h.mk3,fun q=>c.oth _ nC (h.lgp q),c.oth _ qA h.mnp,h.blk,h.evy,h.tbl,h.nums,h.lgl⟩
theorem WkI.over {d:Db} {F:List Fi} {clk:Nat} {hist:List Ent} (h:WkI G d F clk hist) {sf:Bool} {c:Nat} (a:d.next.toNat+1<9223372036854775808) :
  WkI G { d with ol:={ d.lg with safe:=sf },wt:=some d.now,now:=c,lg:=⟨⟨1#8,0#8,0#64,d.ep,d.next⟩,0#64,false⟩,next:=d.next+1#64 } F clk hist:=by
 have e:(d.next+1#64).toNat=d.next.toNat+1:=aAf (k:=1) om;refine ⟨h.dk,h.fil,h.st,h.right,h.tabs,?_,fun n a=>h.free n ?_,h.gens,rfl,h.mk3,fun q=>?_,h.mnp,h.blk,h.evy,h.tbl,h.nums,?_⟩
 ·have:=h.nx; grind
 ·grind
 ·simp_all
 grind
theorem WkI.log {d:Db} {F:List Fi} {clk:Nat} {hist:List Ent} (h:WkI G d F clk hist) {n:BitVec 64} {sf:Bool} (a:(aM (nG 1 d.lg.h.num.toNat) F).isSome=true):WkI G { d with lg:={ d.lg with n:=n,safe:=sf } } F clk hist :=
 ⟨h.dk,h.fil,h.st,h.right,h.tabs,h.nx,h.free,h.gens,h.lk,h.mk3,fun _=>a,h.mnp,h.blk,h.evy,h.tbl,h.nums,h.lgl⟩
theorem WkI.seq {G:PM} {d:Db} {F:List Fi} {clk:Nat} {hist:List Ent} (h:WkI G d F clk hist) {q:BitVec 64}:WkI G { d with seq:=q } F clk hist :=
 ⟨h.dk,h.fil,h.st,h.right,h.tabs,h.nx,h.free,h.gens,h.lk,h.mk3,h.lgp,h.mnp,h.blk,h.evy,h.tbl,h.nums,h.lgl⟩
theorem aPl (b:Db) (f:Fl):put b.cells 67 f.cells=Db.cells { b with ol:=f }:=rfl
theorem aPn (b:Db) (w:Nat):b.cells.set 82 (pt w)=Db.cells { b with wt:=some w }:=rfl
theorem aPk (b:Db) (w:Nat):b.cells.set 81 (pt w)=Db.cells { b with now:=w }:=rfl
theorem aTO {P:Program} {TI e:Nat} {D:Nat->Prop} {post:PM->aB->Value->Prop} {l:List ResultVar} {vs:Nat->List Value} {m:List PanicEntry} {ρ f:aG} {g μ₁ μ₂ a A B:aB} {x:Value} (hd:m=[oS T e]) (t:D e) (q:∀ i,cO f i=cO ρ i) (hm:g.Perm (μ₁++μ₂)) (ht:MTake μ₂ (.blk k (cl [x] TI)) a) (n:MSub A μ₁) (j:MSub B a) (r:∀ c,PM.le G c->Rs P ρ c (.blk k (cl [.int .i64 (e:Int)] TI) :: (μ₁++a)) l (vs e)) (p:∀ c,PM.le G c->post c (A++B) (eV (vs e))):aBX P T k TI D post l vs m f G g :=
 ⟨e,x,μ₁++a,A++B,hd,t,hm.trans ((List.Perm.append_left μ₁ ht.perm).trans xj),aCu n j (.refl _),fun c h=>⟨(r c h).congr q,p c h⟩⟩
theorem aWM {root:Nat->Y} {h:Hd} {n:BitVec 64} {p L:List Y} {e:Int} (g:p.length<=40000) (c:(L,e)=mZ root h n p):e=0∧0<L.length∧L.length<=42400:=by
 have f:e=0:=by unfold mZ at c; grind
 subst f;obtain ⟨a,b,_⟩:=aGV c;omega
theorem aRy:q+1#64=BitVec.ofNat 64 (q.toNat+1):=by
 rfl
theorem bAK (h:0<(q+1#64).toNat):(q+1#64).toNat=q.toNat+1:=by
 rw [qaH] at h ⊢;have:=q.isLt;grind
structure TurnR (d d':Db):Prop where
 root:d'.root=d.root
 o:d'.o=d.o
 seq:d'.seq=d.seq
 held:d'.held=d.held
 flt:d'.flt=d.flt
 cls:d'.cls=d.cls
 nx:d.next.toNat≤d'.next.toNat∧d'.next.toNat≤d.next.toNat+2000
theorem TurnR.refl {d:Db}:TurnR d d:=⟨rfl,rfl,rfl,rfl,rfl,rfl,qd _,wz _ _⟩
structure SmW (d d':Db) (n:Nat):Prop where
 root:d'.root=d.root
 o:d'.o=d.o
 seq:d'.seq.toNat=d.seq.toNat+n
 held:d'.held=d.held
 flt:d'.flt=d.flt
 cls:d'.cls=d.cls
 nx:d.next.toNat≤d'.next.toNat∧d'.next.toNat≤d.next.toNat+2000
theorem bCQ (d:Db) (sz:Nat):(sz:Int)<d.o.mem∨(∃ bw,d.wt=some bw∧d.o.mem<=(sz:Int))∨(d.wt=none∧d.o.mem<=(sz:Int)):=by
 rcases Classical.em ((sz:Int)<d.o.mem) with h | h
 ·omega
 ·cases e:d.wt<;>simp_all
theorem aT8 {hist:List Ent} {l:List Opn} {e:Ent} (n:∀ x∈hist,x.seq.toNat<=j) (p:j+l.length<=72057594037927936) (m:(eY j l)[k]? = some e):(∀ x∈hist++(eY j l).take k,x.seq≠e.seq):=by
 have g:k<(eY j l).length:=(xb.1 m).1;rw [uM] at g;have a:∀ (i:Nat) (x:Ent),i<l.length->(eY j l)[i]? = some x->x.seq.toNat=j+i+1:=fun i x h f=>by
  obtain ⟨y,c⟩ : ∃ y,l[i]? = some y:=⟨_,wi h⟩;rw [aBe c] at f;grind[oZ]
 grind[vx]
theorem aU8 {p:α->Bool}:cZ p []<0:=by simp_all[cZ]
theorem aU9 {p:α->Bool} {w:α} (h:p w=false):cZ p [w]<0:=by
 simp_all[cZ]
theorem aVD {p:α->Bool} {l:List α} (h:l.any p=true):0<=cZ p l:=by
 grind[cZ]
theorem aD9 {i h g f e c a:aB} {q p n m l k j:Res} (h1:MTake μ q i) (h2:MTake i p h) (h3:MTake h n g) (w:MTake g m f) (v:MTake f l e) (t:MTake e k c) (r:MTake c j a):μ.Perm ([q,p,n,m,l,k,j]++a):=h1.perm.trans ((aXG h2 h3 w v t r).cons _)
theorem Ct.frame {P:Program} {f:FuncId} {args:Array Value} {Q:PM->aB->Value->Prop} (h:Ct P f args G μ Q) (ν:aB) :
  Ct P f args G (μ++ν) (fun c μ' u=>∃ a,Q c a u∧μ'=a++ν):=by
 intro w g;refine (h w g.left).mono ?_;rintro e k ⟨u,c,a,rfl,i,j⟩;exact ⟨u,c,a++ν,rfl,(gR g).step i,a,j,rfl⟩
theorem Ct.outG {P:Program} {f:FuncId} {args:Array Value} {Q j:PM->aB->Value->Prop} (h:Ct P f args G μ Q) (l:∀ c μ' u,PM.le G c->Q c μ' u->∃ a,μ'.Perm a∧j c a u):Ct P f args G μ j:=by
 intro w i;refine (h w i).mono ?_;rintro e q ⟨u,c,k,rfl,g,n⟩;obtain ⟨a,m,p⟩:=l _ _ _ (g.mono i.apart) n;exact ⟨u,c,a,rfl,g.perm m,p⟩
theorem aPg {enc:α->List Value} {sz E:Nat} {P:Program} {ν:aB} {f:FuncId} {args:Array Value} {xs:List α} (c:∀ x∈xs,(enc x).length=sz) (h:Ct P f args G μ (fun _ a u=>∃ n:aB,(∃ v:Value,n=[rS sz enc v E xs]∧u=v)∧a=ν++n)) :
  Ct P f args G μ (fun g a u=>∃ s:Sh,SlR g sz enc s xs∧a=ν∧u=s.val xs.length):=by
 intro w j;refine (h w j).mono ?_;rintro e q ⟨u,g,a,rfl,i,n,⟨v,rfl,rfl⟩,rfl⟩;obtain ⟨p,s,r,m,l,k⟩:=(i.perm wn).frzS c;exact ⟨_,p,ν,rfl,k,s,l,rfl,m⟩
theorem aWc {P:Program} {f:FuncId} {args:Array Value} {enc:α->List Value} {sz E:Nat} {v z:Value} {xs:List α} {Q:aB->Value->Prop} (i:∀ x∈xs,(enc x).length=sz) (h:∀ (s:Sh) (c:PM),PM.le G c->SlR c sz enc s xs->PB c k (cl [z,s.val xs.length] T)->Ct P f args c [] (fun _ a u=>Q a u)) :
  Ct P f args G [.blk k (cl [z,v] T),rS sz enc v E xs] (fun _ a u=>∃ n,Q n u∧a=[.blk k (cl [z,v] T),rS sz enc v E xs]++n) :=
 (kK (Q:=fun l u=>∃ n,Q n u∧l=rS sz enc v E xs :: n) fun y e r=>(sC (Q:=Q) i fun s c g p q=>h s c (e.trans g) q (by rw [← p]; exact r.mono g)).mono
  fun t a u ⟨n,m,j⟩=>⟨n,j,m⟩).mono fun t a u ⟨l,m,n,j,w⟩=>⟨n,j,by simp_all⟩
theorem aXH {j i h g f e c a:aB} {t r q p n m l k:Res} (h1:MTake μ t j) (h2:MTake j r i) (h3:MTake i q h) (A:MTake h p g) (y:MTake g n f) (x:MTake f m e) (w:MTake e l c) (v:MTake c k a):μ.Perm ([t,r,q,p,n,m,l,k]++a):=h1.perm.trans ((aD9 h2 h3 A y x w v).cons _)
theorem aGq {k j i h g f e c a:aB} {w v t r q p n m l:Res} (h1:MTake μ w k) (h2:MTake k v j) (h3:MTake j t i) (E:MTake i r h) (D:MTake h q g) (C:MTake g p f) (A:MTake f n e) (y:MTake e m c) (x:MTake c l a):μ.Perm ([w,v,t,r,q,p,n,m,l]++a):=h1.perm.trans ((aXH h2 h3 E D C A y x).cons _)
theorem aPU (l:List Wtg):∀ u∈l.flatMap Wtg.cells,u.oneCell'=true:=fun u a=>by
 obtain ⟨x,_,h⟩:=xy.1 a; exact x.one u h
def lW (c:Int) (w:Wtg):Bool:=decide ((w.c:Int)=c)
def qM (c:Int) (ws:List Wtg) (l:List Opn):Int:=if c<0∨8<=c∨iS 1#64 l=false then 1 else if 0<=cZ (lW c) ws then 3 else 0
theorem bBF {c:Int} {l:List Opn} (h:c<0∨8<=c∨iS 1#64 l=false):qM c ws l=1:=if_pos h
theorem aOG {c:Int} {l:List Opn} (h:¬ (c<0∨8<=c∨iS 1#64 l=false)) (h2:0<=cZ (lW c) ws):qM c ws l=3:=by simp_all[qM]
theorem aHj {c:Int} {l:List Opn} (h:¬ (c<0∨8<=c∨iS 1#64 l=false)) (h2:¬ 0<=cZ (lW c) ws):qM c ws l=0:=by simp_all[qM,if_neg]
theorem aOE {c:Int} {l:List Opn} (h:(decide (c<0)||decide (c>=8) || !iS 1#64 l)=false):¬ (c<0∨8<=c∨iS 1#64 l=false):=by
 simp_all
theorem bBH {c:Int} {l:List Opn} (h:(decide (c<0)||decide (c>=8) || !iS 1#64 l)=true):c<0∨8<=c∨iS 1#64 l=false:=by
 grind
theorem bBG {c:Int} {l:List Opn} (h:¬ (c<0∨8<=c∨iS 1#64 l=false)):∃ m:Nat,c=m∧m<8∧iS 1#64 l=true:=by
 obtain ⟨m,rfl⟩:=Int.eq_ofNat_of_zero_le (a:=c) om;grind
theorem aVA {p:α->Bool} {l:List α} (h:0<=cZ p l):∃ k x,cZ p l=((k:Nat):Int)∧l[k]? = some x∧p x=true:=by
 unfold cZ at h ⊢;cases e:l.findIdx? p with
 | none=>simp_all
 | some i =>
  obtain ⟨c,a,_⟩:=xu.1 e;grind
theorem aVB {p:α->Bool} {l:List α} (h:∀ x∈l,p x=false):cZ p l<0:=by
 have:=aGH (p:=p) (l:=l);grind
theorem aVC {p:α->Bool} {l:List α} (h:¬ 0<=cZ p l):∀ x∈l,p x=false:=fun x a=>by
 grind[cZ]
structure DbS where
 d:Db
 F:List Fi
 clk:Nat
 done:Nat
 mrk:BitVec 64
 hist:List Ent
 vn:Value
 xs:List Nd
 o:List Nat
 hgt:Nat→Nat
 sz:Nat
structure DbS.Ok (G:PM) (T:Nat) (s:DbS):Prop where
 wk:WkI G s.d s.F s.clk s.hist
 wt:WaitR G T s.hist s.d
 now:NowI s.hist s.xs s.o s.hgt s.sz
 vn:s.vn.oneCell'=true
 hi:HistI s.hist
 sq:∀ e∈s.hist,e.seq.toNat≤s.d.seq.toNat
 mem:s.d.o.mem≤256
 fc:s.d.flt=0∧s.d.cls=false
theorem DbS.Ok.mono {G c:PM} {T:Nat} {s:DbS} (h:s.Ok G T) (a:PM.le G c):s.Ok c T:=⟨h.wk.mono a,h.wt.mono a,h.now,h.vn,h.hi,h.sq,h.mem,h.fc⟩
structure DbS.Up (s s':DbS) (q z f:Nat):Prop where
 seq:s'.d.seq.toNat≤s.d.seq.toNat+q
 size:aZ s'.F≤aZ s.F+z
 cnt:s'.F.length≤s.F.length+f
 done:s'.done≤s.done+10000
 mrk:s'.mrk.toNat≤s.mrk.toNat+1
 nx:s'.d.next.toNat≤s.d.next.toNat+2000
theorem DbS.Up.refl {s:DbS} {q z f:Nat}:s.Up s q z f:=⟨wz _ _,wz _ _,wz _ _,wz _ _,wz _ _,wz _ _⟩
structure DbS.Room (s:DbS) (room z:Nat):Prop where
 done:s.done≤30000000
 cnt:s.F.length+2000<100000
 nx:s.d.next.toNat+2000<9223372036854775807
 mrk:s.mrk.toNat≤900
 size:z+aZ s.F≤room
theorem aGn {a b:BitVec 64} (h:b=a∨b=a+1#64) (c:a.toNat<=900):b.toNat<=a.toNat+1:=by
 grind
structure DbS.Wr (s s':DbS) (st:Bool) (l:List Opn):Prop where
 same:st=true→s'=s∧s.d.wt≠none
 hist:st=false→s'.hist=s.hist++eY s.d.seq.toNat l
 up:s.Up s' l.length 100000 1
def rmG (n:Int):Int:=if (if (1048576:Int)<n then 1048576 else n) > 0 then (if (1048576:Int)<n then 1048576 else n) else 0
structure ComR (s s':DbS) (ws:List Wtg) (n:Int) (k:Nat) (e:Int):Prop where
 er:(e=0∧(0<k∨ws=[]))∨(e=230∧k=0∧ws≠[]∧s.d.wt≠none)
 stop:e=0→k<ws.length→∃ w,ws[k]? = some w∧(rmG n-((8*(jn (ws.take k)).length+cX (jn (ws.take k)):Nat):Int)<((8*w.ops.length+cX w.ops:Nat):Int)∨1000<(jn (ws.take k)).length+w.ops.length)
 same:k=0→s'=s
 kw:k≤ws.length
 hist:s'.hist=s.hist++eY s.d.seq.toNat (jn (ws.take k))
 up:s.Up s' (jn (ws.take k)).length 100000 1
theorem aDn (a b:List Wtg):jn (a++b)=jn a++jn b:=List.flatMap_append ..
theorem aAv:∀ a b:List Opn,cX (a++b)=cX a+cX b
 | [],b=>(Nat.zero_add _).symm
 | o :: r,b=>by rw [List.cons_append,cX,cX,aAv]; omega
theorem aBw (ws:List Wtg) (k:Nat):(jn (ws.take k)).length+(jn (ws.drop k)).length=(jn ws).length∧cX (jn (ws.take k))+cX (jn (ws.drop k))=cX (jn ws):=by
 rw [← qa,←aAv,←aDn,qx]; omega
theorem bBX {w:Wtg} (h:w∈ws):cX w.ops<=cX (jn ws):=by
 obtain ⟨a,b,rfl⟩:=List.append_of_mem h;grind[aAv,jn]
theorem aLH (h:0<k) (c:k<=ws.length) (a:∀ w∈ws,0<w.ops.length):0<(jn (ws.take k)).length:=by
 cases ws with
 | nil=>simp_all
 | cons w r =>
  obtain ⟨j,rfl⟩ : ∃ j,k=j+1:=⟨k-1,om⟩;grind[jn]
theorem aVj (h:k=0):(jn (ws.take k)).length=0:=by grind[jn]
theorem aGN {w:Wtg} (h:ws[k]? = some w):(jn (ws.take (k+1))).length=(jn (ws.take k)).length+w.ops.length:=by
 rw [← aGM h,qa]
theorem aVi {w:Wtg} (h:ws[k]? = some w):cX (jn (ws.take (k+1)))=cX (jn (ws.take k))+cX w.ops:=by
 rw [← aGM h,aAv]
theorem aH8:∀ {l:List Opn} {j:Nat},cC (eY j l)=cX l
 | [],_=>rfl
 | o :: r,j=>by rw [eY,cC,cX,aH8]; rfl
theorem aUC {l:List Opn} {e:Ent} (f:e∈eY j l) (g:j+l.length<=72057594037927936):e.seq.toNat<=j+l.length:=by
 obtain ⟨i,c⟩:=vx.1 f;have a:i<l.length:=by grind[uM]
 rw [aBe (wi a)] at c;grind[oZ]
theorem aUB {l:List Opn} (h:∀ o∈l,o.may) (g:j+l.length<=72057594037927935):∀ e∈eY j l,cM e=true:=fun e f=>by
 obtain ⟨i,c⟩:=vx.1 f;have a:i<l.length:=by grind[uM]
 rw [aBe (wi a)] at c;grind[aNH]
theorem HistI.more {hist:List Ent} (h:HistI hist) {l:List Opn} (hm:∀ o∈l,o.may) (g:j+l.length<=72057594037927935) (f:hist.length+l.length<=20000) (c:cC hist+cX l<=20000):HistI (hist++eY j l):=by
 refine ⟨fun e a=>?_,?_,?_⟩
 ·rcases qv.1 a with a | a
  ·exact h.ok e a
  grind[aUB]
 ·simp_all[uM]
 simp_all[qQ,aH8]
theorem bE1 (h:q.toNat+1<18446744073709551616):(q+1#64).toNat=q.toNat+1:=by
 simp_all
theorem aZX {l:List Opn} (c:0<l.length) (a:l.length<=1000) (hm:∀ o∈l,o.may) (e:q.toNat<=1000000):iS (q+1#64) l=true :=
 (yV om).2 ⟨c,a,by grind,by grind,hm⟩
def rL (m:Y):Opts:=⟨((m.toNat+1:Nat):Int),200,2,2000,50,4,10⟩
theorem aCI (m:Y):nI (rL m)=true:=by
 have:=m.isLt;unfold nI rY rL;grind
theorem aTS (n:Nat):6<=(fV n).length:=by
 have a:∀ m:Nat,∀ {n:Nat} {acc:List Y},n+(6-acc.length)<=m->6<=(lN n acc).length:=by
  intro m;induction m with
  | zero=>grind[xR]
  | succ m ih =>
   grind[xS]
 exact a _ (qd _)
theorem aXd:sH (cW 4 0):=fun n h=>by
 have a:=congrArg ByteArray.size h;rw [sz4] at a;have:10<=(nG 2 n).size:=by
  show 10<=(aV (yb (aV (fV n))++yb ⟨#[46,116,97,98]⟩)).size;have c:(⟨#[46,116,97,98]⟩ : ByteArray).size=4:=rfl;simp_all[fS,bZ,aTS]
 omega
theorem aUS {F:List Fi} {bd t e f:Nat} {root:Nat->Y} {m:Y} (j:DkR F 3) (hF:FilesR G F) (g:F.map Fi.nm=[cW 3 0,cW 4 0]):WkI G (zI bd t root (rL m) 1#64 e f) F 3 []:=by
 obtain ⟨a,c,rfl,l,k⟩ : ∃ a c,F=[a,c]∧a.nm=cW 3 0∧c.nm=cW 4 0:=by
  cases F with
  | nil=>cases g
  | cons a r =>
   cases r with
   | nil=>grind
   | cons c r =>
    cases r with
    | nil=>grind
    | cons _ _=>grind
 refine ⟨j,hF,aHg,aNG dc dc,fun i v m h=>absurd h qj,(by show (2:Int)<=((2#64:BitVec 64).toNat:Int); decide),fun n _=>?_,fun _ _=>rfl,rfl,rfl,fun q=>absurd (show 0<(0#64:BitVec 64).toNat from q) dc,?_,rfl,rfl,rfl,aN7 aOx aOy,(by show (1#64:BitVec 64).toNat<(2#64:BitVec 64).toNat; decide)⟩
 ·have p:a.nm≠nG 2 n:=by rw [l,aL6 dc]; exact qA n
  have w:c.nm≠nG 2 n:=by rw [k]; exact aXd n
  simp_all[aM]
 have p:a.nm=nG 3 0:=by simp_all[aL6]
 show (aM (nG 3 0) [a,c]).isSome=true;simp_all[aM]
structure DbS.First (s:DbS):Prop where
 hist:s.hist=[]
 seq:s.d.seq=0#64
 wt:s.d.wt=none
 size:aZ s.F≤2000
 cnt:s.F.length=2
 done:s.done=5
 mrk:s.mrk=1#64
 nx:s.d.next=2#64
structure Deed where
 kind:Y
 cl:Int
 sh:Sh
 ops:List Opn
 sy:Bool
 most:Int
def Deed.cells (a:Deed):List Value:=[V a.kind,.int .i64 a.cl,a.sh.val a.ops.length,.bool a.sy,.int .i64 a.most]
theorem Deed.len (a:Deed):a.cells.length=5:=rfl
theorem Deed.one (a:Deed):∀ u∈a.cells,u.oneCell'=true:=by
 intro u c;simp only [Deed.cells,qg,qj,or_false] at c;rcases c with rfl|rfl|rfl|rfl|rfl<;>rfl
def AllAc (G:PM) (l:List Deed):Prop:=∀ a∈l,SlR G 3 Opn.cells a.sh a.ops∧a.ops.length<=100000000000000
theorem AllAc.mono {G f:PM} {l:List Deed} (h:AllAc G l) (c:PM.le G f):AllAc f l:=fun a e=>⟨(h a e).1.mono c,(h a e).2⟩
def mL (l:List Deed):Nat:=(l.map fun a=>cX a.ops).sum
theorem aCb {l:List Deed} {a:Deed} (h:l[k]? = some a):mL (l.take (k+1))=mL (l.take k)+cX a.ops:=by
 simp_all[wg,mL]
structure FewI (l:List Deed):Prop where
 cnt:l.length≤50
 ops:∀ a∈l,a.ops.length≤400
 txt:mL l≤10000
theorem bCV {l:List Deed}:mL (l.take k)<=mL l:=by
 have:=congrArg mL (qx k l);grind[mL]
theorem aMM:∀ {n:Nat} {l:List Nat},l.Nodup->(∀ x∈l,x<n)->l.length<=n
 | 0,[],_,_=>Nat.le_refl _
 | 0,x :: _,_,h=>absurd (h x (List.mem_cons_self ..)) (Nat.not_lt_zero _)
 | n+1,l,hd,h=>by
  have h1:=aMM (n:=n) (l:=l.erase n) (hd.erase n) fun x c=>by
   have:=(hd.mem_erase_iff.1 c);have:=h x this.2;omega
  have e:=List.length_erase (a:=n) (l:=l);split at e<;>omega
structure SubR (G:PM) (c:Int) (ws ws':List Wtg) (l:List Opn) (e:Int):Prop where
 er:(e≠0∧ws'=ws)∨(e=0∧∃ (m:Nat) (s:Sh) (y:Bool),c=m∧m<8∧iS 1#64 l=true∧cZ (lW c) ws<0∧SlR G 3 Opn.cells s l∧ws'=ws++[⟨m,s,l,y⟩])
structure LawI (G:PM) (T:Nat) (acts:List Deed) (q w:Nat) (s:DbS) (ws:List Wtg):Prop where
 ok:s.Ok G T
 all:AllW G ws
 nd:(ws.map Wtg.c).Nodup
 cl:∀ x∈ws,x.c<8
 wk:∀ x∈ws,0<x.ops.length∧x.ops.length≤400∧∀ o∈x.ops,o.may
 few:s.hist.length+(jn ws).length≤400*q
 txt:cC s.hist+cX (jn ws)≤mL (acts.take (q+w))
 seq:s.d.seq.toNat≤s.hist.length
 done:s.done≤100+10000*w
 cnt:s.F.length≤10+1900*w
 nx:s.d.next.toNat≤10+2000*w
 mrk:s.mrk.toNat≤1+w
 size:aZ s.F≤2000+270000*w+69600*(q*w)
theorem LawI.mono {G c:PM} {T:Nat} {acts:List Deed} {q w:Nat} {s:DbS} {ws:List Wtg} (h:LawI G T acts q w s ws) (a:PM.le G c):LawI c T acts q w s ws :=
 ⟨h.ok.mono a,h.all.mono a,h.nd,h.cl,h.wk,h.few,h.txt,h.seq,h.done,h.cnt,h.nx,h.mrk,h.size⟩
theorem LawI.first {acts:List Deed} {s:DbS} (h:s.Ok G T) (a:s.First):LawI G T acts 0 0 s [] :=
 ⟨h,AllW.nil,xq,(fun x c=>absurd c qj),(fun x c=>absurd c qj),by rw [a.hist]; trivial,by rw [a.hist]; exact qr _,by rw [a.seq]; simp,by rw [a.done]; decide,by rw [a.cnt]; decide,by rw [a.nx]; decide,by rw [a.mrk]; decide,by have:=a.size; omega⟩
section
variable {G G':PM} {T:Nat} {acts:List Deed} {q w:Nat} {s s':DbS} {ws ws':List Wtg} {a:Deed}
theorem LawI.len (h:LawI G T acts q w s ws):ws.length<=8:=by
 have:=aMM h.nd fun x c=>by obtain ⟨y,a,rfl⟩:=qi.1 c; exact h.cl y a
 simp_all
theorem q_w {q w:Nat} (h:q+w<=50):q*w<=625:=by
 have:∀ q:Fin 51,∀ w:Fin 51,q.1+w.1<=50->q.1*w.1<=625:=by decide
 exact this ⟨q,om⟩ ⟨w,om⟩ h
theorem LawI.sub (h:LawI G T acts q w s ws) (hF:FewI acts) (k:acts[q+w]? = some a) {c:Int} {e:Int} (t:SubR G c ws ws' a.ops e):LawI G T acts (q+1) w s ws':=by
 have C:=qn k;have K:=hF.ops a C;have j:=aCb k;have n:q+1+w=q+w+1:=by omega
 have i:aZ s.F<=2000+270000*w+69600*((q+1)*w):=wh h.size (Nat.add_le_add_left (Nat.mul_le_mul_left _ (Nat.mul_le_mul_right _ (Nat.le_succ q))) _);rcases t.er with ⟨_,rfl⟩ | ⟨_,m,p,y,rfl,A,v,L,g,rfl⟩
 ·exact ⟨h.ok,h.all,h.nd,h.cl,h.wk,by have:=h.few; omega,by rw [n,j]; exact wh h.txt (wz _ _),h.seq,h.done,h.cnt,h.nx,h.mrk,i⟩
 obtain ⟨I,H,_,_,E⟩:=(yV om).1 v;have l:jn (ws++[⟨m,p,a.ops,y⟩])=jn ws++a.ops:=by rw [aDn]; show _++(a.ops++[])=_; simp
 refine ⟨h.ok,h.all.snoc g,?_,fun x f=>?_,fun x f=>?_,?_,?_,h.seq,h.done,h.cnt,h.nx,h.mrk,i⟩
 ·rw [List.map_append,List.nodup_append];refine ⟨h.nd,by simp,fun x f z r=>?_⟩;obtain ⟨D,J,rfl⟩:=qi.1 f;grind[aVC,lW]
 ·rcases qv.1 f with f | f
  ·exact h.cl x f
  simp_all
 ·rcases qv.1 f with f | f
  ·exact h.wk x f
  simp_all
 ·rw [l,qa]; have:=h.few; omega
 rw [n,j,l,aAv]; have:=h.txt; omega
theorem aAz {a b c m w:Nat} (h:a<=b+k) (h2:b<=c+m*w) (h3:k<=m):a<=c+m*(w+1):=by
 grind
theorem LawI.com (h:LawI G T acts q w s ws) (hF:FewI acts) (j:q+w<acts.length) (i:s'.Ok G' T) (f:PM.le G G') {n:Int} {e:Int} (g:ComR s s' ws n k e):LawI G' T acts q (w+1) s' (ws.drop k):=by
 have m:=aBw ws k;have c:∀ x∈ws.drop k,x∈ws:=fun x a=>(kn k ws).subset a;have l:mL (acts.take (q+w))<=mL (acts.take (q+(w+1))):=by
  rw [← yi,aCb (wi j)]; omega
 have r:s'.hist.length=s.hist.length+(jn (ws.take k)).length:=by rw [g.hist,qa,uM]
 have p:cC s'.hist=cC s.hist+cX (jn (ws.take k)):=by rw [g.hist,qQ,aH8]
 have u:=g.up;refine ⟨i,fun x a=>h.all.mono f x (c x a),?_,fun x a=>h.cl x (c x a),fun x a=>h.wk x (c x a),?_,?_,?_,?_,?_,?_,?_,?_⟩
 ·rw [List.map_drop]; exact h.nd.sublist (kn k _)
 ·have:=h.few; omega
 ·have:=h.txt; omega
 ·have:=u.seq; have:=h.seq; omega
 ·exact aAz u.done h.done dc
 ·exact aAz u.cnt h.cnt dc
 ·exact aAz u.nx h.nx dc
 ·have:=u.mrk; have:=h.mrk; omega
 have:=u.size; have:=h.size;grind
theorem LawI.can (h:LawI G T acts q w s ws) (g:q+w<acts.length):LawI G T acts q (w+1) s (ws.take k++ws.drop (k+1)):=by
 have f:(ws.take k++ws.drop (k+1)).Sublist ws:=by
  grind[qx]
 have c:∀ x∈ws.take k++ws.drop (k+1),x∈ws:=fun x a=>f.subset a;have i:mL (acts.take (q+w))<=mL (acts.take (q+(w+1))):=by
  rw [← yi,aCb (wi g)]; omega
 have j:=aBw ws k;have e:=aBw (ws.drop k) 1;rw [yg] at e;have m:(jn (ws.take k++ws.drop (k+1))).length=(jn (ws.take k)).length+(jn (ws.drop (k+1))).length:=by rw [aDn,qa]
 have l:cX (jn (ws.take k++ws.drop (k+1)))=cX (jn (ws.take k))+cX (jn (ws.drop (k+1))):=by rw [aDn,aAv]
 refine ⟨h.ok,fun x a=>h.all x (c x a),h.nd.sublist (f.map _),fun x a=>h.cl x (c x a),fun x a=>h.wk x (c x a),?_,?_,h.seq,?_,?_,?_,?_,?_⟩
 ·have:=h.few; omega
 ·have:=h.txt; omega
 ·have:=h.done; omega
 ·have:=h.cnt; omega
 ·have:=h.nx; omega
 ·have:=h.mrk; omega
 have:=h.size;grind
theorem LawI.no (h:LawI G T acts q w s ws) (a:q+w<acts.length):LawI G T acts q (w+1) s ws:=by
 have c:=h.can a (k:=ws.length);simp_all[xt]
theorem LawI.work (h:LawI G T acts q w s ws) (g:q+w<acts.length) (f:s'.Ok G' T) (a:PM.le G G') (c:s'.hist=s.hist) (u:s.Up s' 0 (kQ s.hist.length+jX s.hist.length) 1900):LawI G' T acts q (w+1) s' ws:=by
 have e:mL (acts.take (q+w))<=mL (acts.take (q+(w+1))):=by
  rw [← yi,aCb (wi g)]; omega
 refine ⟨f,h.all.mono a,h.nd,h.cl,h.wk,by rw [c]; exact h.few,by rw [c]; exact wh h.txt e,by rw [c]; exact wh u.seq h.seq,?_,?_,?_,?_,?_⟩
 ·exact aAz u.done h.done dc
 ·exact aAz u.cnt h.cnt dc
 ·exact aAz u.nx h.nx dc
 ·have:=u.mrk; have:=h.mrk; omega
 have i:=u.size; have:=h.size; have:=h.few;unfold kQ jX at i;grind
theorem LawI.room (h:LawI G T acts q w s ws) (hF:FewI acts) (f:q+w<acts.length):s.Room 67108864 100000∧s.Room 67108864 (kQ s.hist.length+jX s.hist.length):=by
 have i:=hF.cnt;have g:q*w+q<=625:=by
  have:=q_w (q:=q) (w:=w+1) om;omega
 have hd:s.done<=30000000:=by have:=h.done; omega
 have e:s.F.length+2000<100000:=by have:=h.cnt; omega
 have a:s.d.next.toNat+2000<9223372036854775807:=by have:=h.nx; omega
 have c:s.mrk.toNat<=900:=by have:=h.mrk; omega
 have:=h.size; have:=h.few;exact ⟨⟨hd,e,a,c,om⟩,⟨hd,e,a,c,by grind[kQ,jX]⟩⟩
structure CanR (c:Int) (ws ws':List Wtg) (b:Bool):Prop where
 er:(b=true∧ws'.length+1=ws.length)∨(b=false∧ws'=ws)
 no:cZ (lW c) ws'<0
theorem CanR.eq {c:Int} {b:Bool} (h:CanR c ws ws' b):(b != (((ws'.map Wtg.c).length:Int) == ((ws.map Wtg.c).length:Int)-1))=false:=by
 rw [qm,qm];rcases h.er with ⟨rfl,a⟩ | ⟨rfl,a⟩
 ·grind
 grind
theorem LawI.canR (h:LawI G T acts q w s ws) {c:Int} {x:Wtg} (a:ws[k]? = some x) (i:(x.c:Int)=c):CanR c ws (ws.take k++ws.drop (k+1)) true:=by
 have g:k<ws.length:=(xb.1 a).1;refine ⟨.inl ⟨rfl,by grind⟩,aVB fun y f=>decide_eq_false fun e=>?_⟩;have j:ws=ws.take k++x :: ws.drop (k+1):=by
  grind[qx,List.drop_eq_getElem_cons]
 have hd:=h.nd;grind
theorem LawI.pre (h:LawI G T acts q w s ws) (hF:FewI acts) (a:q+w<acts.length):s.hist.length+(jn ws).length<=20000∧cC s.hist+cX (jn ws)<=20000∧s.d.seq.toNat<=1000000:=by
 have i:=hF.cnt;have g:=h.few; have f:=h.txt; have e:=h.seq; have c:=hF.txt; grind[bCV]
end
theorem rt1 {o:Opn} (h:o.may):iS 1#64 [o]=true :=
 (yV (by simp)).2 ⟨Nat.zero_lt_one,(by decide:1<=1000),dc,(by simp),fun x a=>by simp_all⟩
theorem aSd {s s':DbS} {n:Int} {e:Int} (h:ComR s s' [] n k e):k=0∧e=0∧s'=s:=by
 have a:k=0:=Nat.le_zero.1 h.kw;rcases h.er with ⟨c,_⟩ | ⟨_,_,f,_⟩
 ·exact ⟨a,c,h.same a⟩
 simp_all
theorem aSf {s s':DbS} {a b:Wtg} {e:Int} (h:ComR s s' [a,b] 100 k e) (l:s.d.wt=none) (q:a.ops.length=1) (p:b.ops.length=1) (za:cX a.ops<=2) (zb:cX b.ops<=2):k=2∧e=0:=by
 rcases h.er with ⟨f,j⟩ | ⟨_,_,_,r⟩
 ·refine ⟨?_,f⟩;have i:=h.kw;have g:k<=2:=i;have t:0<k:=j.resolve_right (by simp);refine Classical.byContradiction fun n=>?_;obtain rfl:k=1:=by omega
  obtain ⟨w,c,m⟩:=h.stop f (by simp);cases c;have x:jn ([a,b].take 1)=a.ops:=by simp_all[jn]
  have v:rmG 100=100:=rfl;grind
 simp_all
theorem bCS {c e:Int} {a:List Wtg} {l:List Opn} (h:SubR G c ws a l e) {L:List Nat} (g:L=(a.map Wtg.c).take (min (a.map Wtg.c).length (ws.map Wtg.c).length)) :
  ((((e == 0) != (((a.map Wtg.c).length:Int) == (((ws.map Wtg.c).length+1:Nat):Int)))||((e == 0)&&((((a.map Wtg.c).getD (ws.map Wtg.c).length 0:Nat):Int) != c))) || !decide (L=ws.map Wtg.c))=false:=by
 rcases h.er with ⟨f,rfl⟩ | ⟨rfl,m,s,y,rfl,_,_,_,_,rfl⟩
 ·grind
 simp_all
theorem bCR {s s':DbS} {n e:Int} (h:ComR s s' ws n k e) {L:List Nat} (j:L=(ws.map Wtg.c).drop ((ws.take k).map Wtg.c).length) :
  (((((e == 0)&&decide (((ws.map Wtg.c).length:Int) > 0))&&((((ws.take k).map Wtg.c).length:Int) == 0))||((e != 0)&&((e != 230)||decide ((((ws.take k).map Wtg.c).length:Int) > 0))))||(((((ws.take k).map Wtg.c).length+((ws.drop k).map Wtg.c).length:Nat):Int) != ((ws.map Wtg.c).length:Int)) || !decide ((ws.drop k).map Wtg.c=L))=false:=by
 have a:=h.kw;have i:((ws.take k).map Wtg.c).length=k:=by simp_all
 have g:k+((ws.drop k).map Wtg.c).length=(ws.map Wtg.c).length:=by simp_all
 have f:L=(ws.drop k).map Wtg.c:=by simp_all
 rw [i,g,f];rcases h.er with ⟨rfl,a|rfl⟩ | ⟨rfl,rfl,_,_⟩
 ·grind
 ·simp
 ·simp
theorem SubR.lt {c e:Int} {a:List Wtg} {l:List Opn} (h:SubR G c ws a l e) (f:e=0):(ws.map Wtg.c).length<(a.map Wtg.c).length:=by
 rcases h.er with ⟨g,_⟩ | ⟨_,m,s,y,_,_,_,_,_,rfl⟩
 ·omega
 simp
theorem aUn {l:List α} {z:α} (h:k<l.length):l[k]? = some (l.getD k z):=by
 simp_all
theorem aTZ {x:Nat} (h:((ws.take k).map Wtg.c)[j]? = some x):(ws.map Wtg.c)[j]? = some x:=by
 grind
def oU (l:List Opn):Deed:=⟨0,0,⟨none,0⟩,l,false,0⟩
end Go.Tan
namespace Go.Proofs.YtjkkbmdonbcccaaGreatDoor
open Go.Tan Go.Proofs.Tryz
instance:TTab prog:=⟨[(3,.i .i64),(57,.i .u64),(9,.s),(148,.sl 5 1 1),(5,.i .u8),(72,.sl 57 1 8),(301,.i .u32),(161,.st 4 [0,1,2,3]),(136,.st 40 [0,1,2,3,4,5,6,7,8]),(132,.sl 161 4 48),(146,.sl 9 1 16),(4,.b),(111,.sl 136 40 112),(41,.i .i64),(123,.st 85 [0,1,2,34,41,42,56,57,58,59,60,67,74,81,82,83,84]),(34,.p),(115,.st 14 [0,5,6,7,8,9]),(28,.sl 95 3 40),(81,.ar 32 32 5 1),(118,.st 5 [0,1,2,3,4]),(189,.st 11 [0,1,2,3,4,9,10]),(39,.st 6 [0,1,2,3,4,5]),(331,.p),(35,.p),(95,.st 3 [0,1,2]),(32,.p),(134,.sl 132 1 24),(405,.ar 16 16 301 1),(30,.st 5 [0,1,2,3,4]),(167,.sl 148 1 24),(96,.sl 100 3 40),(120,.st 7 [0,5,6]),(31,.sl 3 1 8),(68,.sl 64 3 40),(121,.p),(235,.i .u64),(71,.sl 76 2 32),(316,.sl 81 32 32),(204,.sl 252 16 144),(425,.st 10 [0,8,9]),(54,.sl 142 2 32),(145,.st 5 [0,1,2,3,4]),(85,.st 7 [0,1,2,3,4]),(64,.st 3 [0,1,2]),(150,.st 2 [0,1]),(100,.st 3 [0,1,2]),(112,.ar 5 5 111 1),(430,.i .u64),(252,.st 16 [0,4]),(433,.p),(44,.sl 48 2 16),(33,.p),(187,.sl 201 2 16),(382,.st 2 [0,1]),(348,.st 8 [0,5,6,7]),(22,.sl 30 5 56),(221,.st 3 [0,1,2]),(290,.st 23 [0,5,19,20,21,22]),(48,.st 2 [0,1]),(206,.st 2 [0,1]),(366,.ar 64 64 5 1),(399,.st 74 [0,64,65,73]),(74,.st 2 [0,1]),(143,.o),(201,.st 2 [0,1]),(376,.st 4 [0,1,2,3]),(36,.p),(37,.p),(70,.st 1 [0]),(142,.st 2 [0,1]),(438,.st 2 [0,1]),(125,.st 5 [0,1,2,3,4]),(239,.st 64 [0,32]),(249,.ar 12 12 3 1),(242,.ar 12 12 5 1),(156,.st 2 [0,1]),(423,.ar 8 8 301 1),(98,.st 2 [0,1]),(83,.st 3 [0,1,2]),(113,.ar 5 5 57 1),(80,.ar 32 32 5 1),(53,.sl 28 1 24),(318,.st 67 [0,64,65,66]),(335,.st 34 [0,1,2]),(76,.st 2 [0,1]),(458,.ar 64 64 301 1),(158,.st 2 [0]),(231,.st 1 [0]),(278,.sl 335 34 72),(280,.st 67 [0,64,65,66]),(302,.ar 16 16 5 1),(412,.p),(436,.p),(390,.i .i64),(182,.sl 41 1 8),(194,.p),(276,.p),(241,.ar 12 12 5 1),(407,.sl 301 1 4),(24,.p),(180,.st 1 [0]),(116,.o),(21,.i .i32),(315,.p),(440,.sl 439 1 8),(439,.p),(229,.p),(236,.ar 3 3 57 1),(294,.p),(352,.p)],355,[0,1,2,333,334,335,336,337,338,339,340,341,342,343,344,345,346,347,348,349,350,351,352,353],by kernel_rfl,by kernel_rfl⟩
variable {ys:List Y} {T:Nat} {G:PM} {v:Value}
set_option maxRecDepth 100000
theorem bD1:prog.cellsOf 301=1:=by kernel_rfl
theorem bD3:prog.cellsOf 458=64:=by kernel_rfl
theorem aP3:prog.cellsOf 95=3:=by kernel_rfl
theorem aP1:prog.cellsOf 5=1:=by kernel_rfl
theorem aP2:prog.cellsOf 9=1:=by kernel_rfl
theorem bDz:prog.bytesOf 95=40:=by kernel_rfl
theorem aP0:prog.cellsOf 30=5:=by kernel_rfl
theorem aPz:prog.cellsOf 3=1:=by kernel_rfl
theorem bD0:prog.cellsOf 28=1:=by kernel_rfl
theorem bD2:prog.cellsOf 4=1:=by kernel_rfl
theorem bDy:prog.bytesOf 30=56:=by kernel_rfl
theorem gC:prog.globalNamed "tantalus/sha.constants" = some 0:=by kernel_rfl
theorem gCT:(prog.globals[0]?).map (·.type)=some 458:=by kernel_rfl
def aLL:List Int:=[1116352408,1899447441,3049323471,3921009573,961987163,1508970993,2453635748,2870763221,3624381080,310598401,607225278,1426881987,1925078388,2162078206,2614888103,3248222580,3835390401,4022224774,264347078,604807628,770255983,1249150122,1555081692,1996064986,2554220882,2821834349,2952996808,3210313671,3336571891,3584528711,113926993,338241895,666307205,773529912,1294757372,1396182291,1695183700,1986661051,2177026350,2456956037,2730485921,2820302411,3259730800,3345764771,3516065817,3600352804,4094571909,275423344,430227734,506948616,659060556,883997877,958139571,1322822218,1537002063,1747873779,1955562222,2024104815,2227730452,2361852424,2428436474,2756734187,3204031479,3329325298]
theorem aVp:∀ j,j<64->aLL.getD j 0=((kW j).toNat:Int):=by decide
theorem bBb {W:World} {rest:List (String×DataW Unit)} (h:laidMet prog (("tantalus/sha.constants",Rows.laid_tantalus_sha_constants) :: rest) W):RdNP (fun b=>W.heap[b]?) 0 0 (wa 64 kW) :=
 bBd (Lib.tabIs_of_head (zs:=aLL) (rest:=rest) gC gCT Tryz.underlying458 Tryz.underlying301 bD1 bD3 h) gC rfl aVp
def aVo:Array Value:=#[.int .u32 1116352408,.int .u32 1899447441,.int .u32 3049323471,.int .u32 3921009573,.int .u32 961987163,.int .u32 1508970993,.int .u32 2453635748,.int .u32 2870763221,.int .u32 3624381080,.int .u32 310598401,.int .u32 607225278,.int .u32 1426881987,.int .u32 1925078388,.int .u32 2162078206,.int .u32 2614888103,.int .u32 3248222580,.int .u32 3835390401,.int .u32 4022224774,.int .u32 264347078,.int .u32 604807628,.int .u32 770255983,.int .u32 1249150122,.int .u32 1555081692,.int .u32 1996064986,.int .u32 2554220882,.int .u32 2821834349,.int .u32 2952996808,.int .u32 3210313671,.int .u32 3336571891,.int .u32 3584528711,.int .u32 113926993,.int .u32 338241895,.int .u32 666307205,.int .u32 773529912,.int .u32 1294757372,.int .u32 1396182291,.int .u32 1695183700,.int .u32 1986661051,.int .u32 2177026350,.int .u32 2456956037,.int .u32 2730485921,.int .u32 2820302411,.int .u32 3259730800,.int .u32 3345764771,.int .u32 3516065817,.int .u32 3600352804,.int .u32 4094571909,.int .u32 275423344,.int .u32 430227734,.int .u32 506948616,.int .u32 659060556,.int .u32 883997877,.int .u32 958139571,.int .u32 1322822218,.int .u32 1537002063,.int .u32 1747873779,.int .u32 1955562222,.int .u32 2024104815,.int .u32 2227730452,.int .u32 2361852424,.int .u32 2428436474,.int .u32 2756734187,.int .u32 3204031479,.int .u32 3329325298]
def setO:Obj->Obj
 | .cells _ t frozen=>.cells aVo t frozen
 | o=>o
noncomputable def aGS (os:Os):World :=
 { World.holding prog os ⟨#[], #[],[]⟩ with heap:=(World.holding prog os ⟨#[], #[],[]⟩).heap.modify 0 setO }
section
variable {H:Type} {R:Nat} {enc:TypeId×Value→H} {W:World} {cs:List Value}
theorem bAm (f:cs.length=5) {a b c d e:Value} (h:(cs.drop 0).take 1=[a]) (h1:(cs.drop 1).take 1=[b]) (h2:(cs.drop 2).take 1=[c]) (h3:(cs.drop 3).take 1=[d]) (g:(cs.drop 4).take 1=[e]):cs=[a,b,c,d,e]:=by
 match cs,f with
 | [p,q,r,s,t],_=>simp_all
theorem bAl (e:cs.length=3) {a b c:Value} (f:(cs.drop 0).take 1=[a]) (h1:(cs.drop 1).take 1=[b]) (h2:(cs.drop 2).take 1=[c]):cs=[a,b,c]:=by
 match cs,e with
 | [p,q,r],_=>simp_all
theorem aX5 (h:Rg R enc prog W 95 cs):∃ o:Opn,cs=o.cells∧True:=by
 have e:=h.len Tryz.underlying95;rw [aP3] at e;obtain ⟨a,i⟩:=(h.fld Tryz.underlying95 0 5 0 rfl aP1).uw rfl Tryz.underlying5;obtain ⟨b,g,_⟩:=(h.fld Tryz.underlying95 1 9 1 rfl aP2).str Tryz.underlying9;obtain ⟨c,f,_⟩:=(h.fld Tryz.underlying95 2 9 2 rfl aP2).str Tryz.underlying9;exact ⟨⟨a,b,c⟩,bAl e i g f,trivial⟩
theorem aYA (g:R<=140737488351232) (h:Rg R enc prog W 28 cs):∃ (hd:Sh) (l:List Opn),cs=[hd.val l.length]∧SlR (fun b=>W.heap[b]?) 3 Opn.cells hd l∧l.length<=100000000000000:=by
 obtain ⟨hd,l,c,a,i,_⟩:=h.sl Opn.cells (fun _=>True) Tryz.underlying28 aP3 dc bDz (fun f e=>aX5 e);exact ⟨hd,l,c,a,by have:=a.le; omega⟩
theorem aTB (m:R<=140737488351232) (h:Rg R enc prog W 30 cs):∃ a:Deed,cs=a.cells∧(SlR (fun b=>W.heap[b]?) 3 Opn.cells a.sh a.ops∧a.ops.length<=100000000000000):=by
 have c:=h.len Tryz.underlying30;rw [aP0] at c;obtain ⟨a,k⟩:=(h.fld Tryz.underlying30 0 5 0 rfl aP1).uw rfl Tryz.underlying5;obtain ⟨b,j,_⟩:=(h.fld Tryz.underlying30 1 3 1 rfl aPz).int Tryz.underlying3;obtain ⟨hd,l,i,s1,f⟩:=aYA m (h.fld Tryz.underlying30 2 28 2 rfl bD0);obtain ⟨d,eT⟩:=(h.fld Tryz.underlying30 3 4 3 rfl bD2).bool Tryz.underlying4;obtain ⟨e,g,_⟩:=(h.fld Tryz.underlying30 4 3 4 rfl aPz).int Tryz.underlying3;exact ⟨⟨a,b,hd,l,d,e⟩,bAm c k j i eT g,s1,f⟩
theorem aTC (e:R<=140737488351232) (h:Rg R enc prog W 22 cs):∃ (hd:Sh) (l:List Deed),cs=[hd.val l.length]∧SlR (fun b=>W.heap[b]?) 5 Deed.cells hd l∧AllAc (fun b=>W.heap[b]?) l∧l.length<=100000000000000:=by
 obtain ⟨hd,l,g,c,k,f⟩:=h.sl Deed.cells (fun a=>SlR (fun b=>W.heap[b]?) 3 Opn.cells a.sh a.ops∧a.ops.length<=100000000000000) Tryz.underlying22 aP0 dc bDy (fun j i=>aTB e i);exact ⟨hd,l,g,c,f,by have:=c.le; omega⟩
theorem aMd {u:Value} (h:v.cells.toList=[u]) (a:u.oneCell'=true) (e:∀ c,v≠.agg c):v=u:=by
 simp_all[Value.cells]
theorem bAa {t e:TypeId} {a:Nat} {u:Value} (ht:prog.underlying t=some (.slice e)) (h:Value.okWide prog W .any a t v) (g:v.cells.toList=[u]) (f:u.oneCell'=true):v=u:=by
 refine aMd g f fun c i=>?_;simp_all[Value.okWide,Cell.okWide,Cell.ok]
theorem aVR {t:TypeId} {k:IntKind} {a:Nat} {u:Value} (ht:prog.underlying t=some (.int k)) (h:Value.okWide prog W .any a t v) (f:v.cells.toList=[u]) (e:u.oneCell'=true):v=u:=by
 refine aMd f e fun c g=>?_;simp_all[Value.okWide,Cell.okWide,Cell.ok]
end
theorem bBz:ownKnob prog.godebug=none:=by kernel_rfl
theorem aOe:laidOutB prog=true:=by kernel_rfl
theorem bB0:mapsRowed prog=true:=by kernel_rfl
theorem bBy:(Rows.groupTurnsRow.plainKeys == prog.plainKeys)=true:=by kernel_rfl
theorem bBx:prog.stopsHeard=true:=by kernel_rfl
theorem bBw:prog.mayEnter=true:=by kernel_rfl
theorem tab {a b:Bool} (h:a=true) (k:b=true):(a&&b)=true:=by simp_all
theorem yX (x:W) (k:Int) (G:PM):Ct prog 247 ([U x,.int .i64 k]:List Value).toArray G [] (fun _ μ' u=>μ'=[]∧u=U (aNP x k)):=by
 refine aE func247 ntmps247 fun e c=>?_;refine zg 17 ?_;refine lw (k:=.u32) rfl .no rfl (.u rfl) (.u rfl) (fun _=>xk _) (zg 2 ?_);refine bw (k:=.u64) (a:=32#64) rfl .no rfl (.u rfl) (.u rfl) rfl (pG (k:=.u32) rfl .no (.u rfl) (.u rfl) (fun _=>xk _) ?_);refine zg 5 ?_;refine aH ?_;exact ⟨rfl,rfl⟩
theorem aB7 (a b c d:W) (G:PM):Ct prog 281 ([U a,U b,U c,U d]:List Value).toArray G [] (fun _ μ' u=>μ'=[]∧u=aW4 (aAc a b c d)):=by
 refine aE func281 ntmps281 fun f e=>?_;refine zg 21 ?_;refine aL rfl (yX _ _ _) (zg 16 ?_);refine aL rfl (yX _ _ _) (zg 16 ?_);refine aL rfl (yX _ _ _) (zg 16 ?_);refine aL rfl (yX _ _ _) (zg 16 ?_);refine aH ?_;exact ⟨rfl,rfl⟩
theorem aO:prog.follows .mixedOrders=true:=by kernel_rfl
theorem zJ:fM prog 366=some (ba 64 (fun _=>0#8)):=by kernel_rfl
theorem bDu:dC prog 405 [0,1,2,3]=some ([.int .u32 0,.int .u32 0,.int .u32 0,.int .u32 0,.int .u32 0,.int .u32 0,.int .u32 0,.int .u32 0,.int .u32 0,.int .u32 0,.int .u32 0,.int .u32 0,.int .u32 0,.int .u32 0,.int .u32 0,.int .u32 0],[(0,1),(1,1),(2,1),(3,1)]):=by kernel_rfl
theorem aQD:fM prog 405=some ([.int .u32 0,.int .u32 0,.int .u32 0,.int .u32 0,.int .u32 0,.int .u32 0,.int .u32 0,.int .u32 0,.int .u32 0,.int .u32 0,.int .u32 0,.int .u32 0,.int .u32 0,.int .u32 0,.int .u32 0,.int .u32 0]):=by kernel_rfl
theorem aPM (y:Nat->W) (f:Nat->Y) (m l p off n cap e:Nat) (T w:TypeId) (G:PM) (hm:off+n<=m) (A:4*n<=e) (H:n<=1000):Ct prog 280 ([(Sh.mk (some ⟨l,off,none⟩) cap).val n,(Sh.mk (some ⟨p,0,none⟩) e).val e]:List Value).toArray G ([.blk l (cl (wa m y) T),.blk p (cl (ba e f) w)]:aB) (fun G' μ' u=>μ'=[.blk l (cl (wa m (nL y f off n)) T),.blk p (cl (ba e f) w)]∧u=.tuple #[]):=by
 refine aE func280 ntmps280 fun F x=>?_;refine zg 8 ?_;refine Wk.lop (α:=Nat) (fun i=>[(8,true,.int .i64 (i:Int))]) (fun i=>[.blk l (cl (wa m (nL y f off i)) T)])
  (fun i E=>i<=n) (fun i=>n-i) 0 [(0,true,_),(1,true,_),(7,true,_)] [.blk p _]
  es
  dD ?_ ?_
 ·show 0<=n; omega
 intro i L D r g j;try dsimp only at j r ⊢
 have I:i<=n:=j;refine zg 6 ?_;refine .cond rfl (fun v=>?_) (fun v=>?_)
 ·try simp only [bW] at v
  refine zg 16 ?_;refine Wk.lop (α:=Nat) (fun c=>[(5,true,.int .i64 (3-(c:Int)))]) (fun c=>[.blk l (cl (wa m (bM (nL y f off i) (off+i) (rT (nL y f off i (off+i)) f i c))) T)])
   (fun c E=>c<=4) (fun c=>4-c) 0 [(0,true,_),(1,true,_),(4,true,_),(7,true,_),(8,true,_)] [.blk p _]
   es
   (mS .here bDI bJ) ?_ ?_
  ·show 0<=4; omega
  intro c K C q a h;try dsimp only at h q ⊢
  have J:c<=4:=h;refine zg 7 ?_;refine .cond rfl (fun t=>?_) (fun t=>?_)
  ·try simp only [bW] at t
   refine zg 4 ?_;refine aY (mc:=⟨false,false⟩) [0,1,2,3,4,5,6,7,8,9,10,11,12,13,14,15,16,17] aO kr (zg 4 ?_);refine lS rfl om om rfl ?_;refine aP rfl (Rd.own .here (dV (off+i) (by show off+_*1=off+i; omega) om)) ?_;refine lw (k:=.u32) rfl .no rfl (.u rfl) (.u rfl) (fun _=>dc) (zg 5 ?_);refine lS rfl om om rfl ?_;refine aP rfl (Rd.own aC (iX (4*i+(3-c)) (by show 0+_*1=_; omega) om)) (zg 2 ?_);refine lS rfl om om rfl ?_;refine cB rfl .here (by rw [dB]; show off+_*1<m; omega) (fG _ (by show off+_*1=off+i; omega)) (zg 8 ?_);refine We.lpo (c+1) ?_ ?_ ?_ ?_ ?_
   ·exact (bE rfl (congrArg _ om) es)
   ·exact (mS .here (bDJ (by rw [aA0]; rfl)) bJ)
   ·first|omega|(dsimp only; omega)
   ·exact a
   show c+1<=4; omega
  try simp only [bW] at t
  refine zg 10 ?_;refine We.lpo (i+1) ?_ ?_ ?_ ?_ ?_
  ·exact es
  ·exact (mS .here (bDH om) bJ)
  ·first|omega|(dsimp only; omega)
  ·exact g.trans a
  show i+1<=n; omega
 try simp only [bW] at v
 refine zg 5 ?_;refine aR dD ?_;obtain rfl:i=n:=by omega
 exact ⟨rfl,rfl⟩
theorem aPd (f a:Nat->Y) (e:W) (G:PM):Ct prog 243 ([.agg (ba 32 f).toArray,.agg (ba 12 a).toArray,U e]:List Value).toArray G [] (fun _ μ' u=>μ'=[]∧u=.agg (ba 64 (uG f a e)).toArray):=by
 refine aE func243 ntmps243 fun Z O=>?_;refine zg 2 ?_;refine bF rfl ?_; intro b3;refine bF rfl ?_; intro b4;refine al rfl zJ fun y=>zg 4 ?_;refine bC rfl .no bDu (.cons (.u rfl) rfl (.cons (.u rfl) rfl (.cons (.u rfl) rfl (.cons (.u rfl) rfl .nil)))) rfl ?_;refine al rfl aQD fun j=>zg 4 ?_;refine aY (mc:=⟨true,false⟩) [0,1,2] aO kr ?_;refine sab rfl .no (zr rfl) (.u rfl) (.u rfl) (.u rfl) (fun _=>dc) (fun _=>dc) (fun _=>dc) (fun _=>dc) ?_;refine rQ rfl .no (zr rfl) (.u rfl) (aJ rfl (aOc .here aF) (aPM (x0) f 16 j b3 4 8 12 32 405 80 _ dc dc dc) ?_);rintro u X A H ⟨rfl,rfl⟩;simp only [bT,ww,qu,aHW,aHX];refine zg 6 ?_;refine cB rfl .here (by rw [dB]; decide) (fG 12 rfl) (zg 3 ?_);refine aY (mc:=⟨true,false⟩) [0,1,2] aO kr ?_;refine sal rfl .no (zr rfl) (.u rfl) (.u rfl) (fun _=>dc) (fun _=>dc) ?_;refine rQ rfl .no (zr rfl) (.u rfl) (aJ rfl (aOc .here aF) (aPM (bM (x1 f 8) 12 e) a 16 j b4 13 3 3 12 405 241 _ dc dc dc) ?_);rintro u X A H ⟨rfl,rfl⟩;simp only [bT,ww,qu,aHW,aHX];refine zg 5 ?_;refine al rfl aQD ?_; intro w;refine dF rfl .here rfl (zF _ _) (zg 9 ?_);refine Wk.lop (α:=Nat) (fun r=>[(24,true,.int .i64 (r:Int))]) (fun r=>[.blk w (cl (wa 16 (yY (x2 f a e 3) r)) 405)])
  (fun r M=>r<=10) (fun r=>10-r) 0 [(6,true,_),(7,true,_),(8,true,_)] [.blk j _,.blk b4 _,.blk b3 _,.blk y _]
  es
  yM ?_ ?_
 ·show 0<=10; omega
 intro r N0 T F m v;try dsimp only at v F ⊢
 have hr:r<=10:=v;refine zg 6 ?_;refine .cond rfl (fun L=>?_) (fun L=>?_)
 ·try simp only [bW] at L
  refine zg 11 ?_;refine Wk.lop (α:=Nat) (fun q=>[(26,true,.int .i64 (q:Int))]) (fun q=>[.blk w (cl (wa 16 (aDG (yY (x2 f a e 3) r) q)) 405)])
   (fun q M=>q<=4) (fun q=>4-q) 0 [(6,true,_),(7,true,_),(8,true,_),(24,true,_)] [.blk j _,.blk b4 _,.blk b3 _,.blk y _]
   es
   yM ?_ ?_
  ·show 0<=4; omega
  intro q N1 S E h t;try dsimp only at t E ⊢
  have hq:q<=4:=t;refine zg 6 ?_;refine .cond rfl (fun K=>?_) (fun K=>?_)
  ·try simp only [bW] at K
   refine zg 10 ?_;refine aY (mc:=⟨false,false⟩) [0,1,2,3,4,5,6,7,8,9,10,11,12,13,14,15,16,17,18,19,20,21,22,23,24,25,26,27,28,29,30,31,32,33,34,35] aO kr (zg 9 ?_);refine aP rfl (Rd.own .here (dV q om om)) (zg 3 ?_);refine aP rfl (Rd.own .here (dV (4+q) om om)) (zg 3 ?_);refine aP rfl (Rd.own .here (dV (8+q) om om)) (zg 3 ?_);refine aP rfl (Rd.own .here (dV (12+q) om om)) ?_;refine aL rfl (aB7 _ _ _ _ _) (zg 6 ?_);refine cB rfl .here (by rw [dB]; omega) (fG q om) (zg 1 ?_);refine cB rfl .here (by rw [dB]; omega) (fG (4+q) om) (zg 1 ?_);refine cB rfl .here (by rw [dB]; omega) (fG (8+q) om) (zg 1 ?_);refine cB rfl .here (by rw [dB]; omega) (fG (12+q) om) (zg 7 ?_);refine We.lpo (q+1) ?_ ?_ ?_ ?_ ?_
   ·exact es
   ·exact yM
   ·first|omega|(dsimp only; omega)
   ·exact h
   show q+1<=4; omega
  try simp only [bW] at K
  refine zg 7 ?_;obtain rfl:q=4:=by omega
  simp only [aJf (yY (x2 f a e 3) r) 4 (qd 4)];refine zg 1 ?_;refine aP rfl (Rd.own .here (dV 0 rfl dc)) (zg 1 ?_);refine aP rfl (Rd.own .here (dV 5 rfl dc)) (zg 1 ?_);refine aP rfl (Rd.own .here (dV 10 rfl dc)) (zg 1 ?_);refine aP rfl (Rd.own .here (dV 15 rfl dc)) ?_;refine aL rfl (aB7 _ _ _ _ _) (zg 6 ?_);refine cB rfl .here (by rw [dB]; decide) (fG 0 rfl) (zg 1 ?_);refine cB rfl .here (by rw [dB]; decide) (fG 5 rfl) (zg 1 ?_);refine cB rfl .here (by rw [dB]; decide) (fG 10 rfl) (zg 1 ?_);refine cB rfl .here (by rw [dB]; decide) (fG 15 rfl) (zg 5 ?_);refine aP rfl (Rd.own .here (dV 1 rfl dc)) (zg 1 ?_);refine aP rfl (Rd.own .here (dV 6 rfl dc)) (zg 1 ?_);refine aP rfl (Rd.own .here (dV 11 rfl dc)) (zg 1 ?_);refine aP rfl (Rd.own .here (dV 12 rfl dc)) ?_;refine aL rfl (aB7 _ _ _ _ _) (zg 6 ?_);refine cB rfl .here (by rw [dB]; decide) (fG 1 rfl) (zg 1 ?_);refine cB rfl .here (by rw [dB]; decide) (fG 6 rfl) (zg 1 ?_);refine cB rfl .here (by rw [dB]; decide) (fG 11 rfl) (zg 1 ?_);refine cB rfl .here (by rw [dB]; decide) (fG 12 rfl) (zg 5 ?_);refine aP rfl (Rd.own .here (dV 2 rfl dc)) (zg 1 ?_);refine aP rfl (Rd.own .here (dV 7 rfl dc)) (zg 1 ?_);refine aP rfl (Rd.own .here (dV 8 rfl dc)) (zg 1 ?_);refine aP rfl (Rd.own .here (dV 13 rfl dc)) ?_;refine aL rfl (aB7 _ _ _ _ _) (zg 6 ?_);refine cB rfl .here (by rw [dB]; decide) (fG 2 rfl) (zg 1 ?_);refine cB rfl .here (by rw [dB]; decide) (fG 7 rfl) (zg 1 ?_);refine cB rfl .here (by rw [dB]; decide) (fG 8 rfl) (zg 1 ?_);refine cB rfl .here (by rw [dB]; decide) (fG 13 rfl) (zg 4 ?_);refine aP rfl (Rd.own .here (dV 3 rfl dc)) (zg 1 ?_);refine aP rfl (Rd.own .here (dV 4 rfl dc)) (zg 1 ?_);refine aP rfl (Rd.own .here (dV 9 rfl dc)) (zg 1 ?_);refine aP rfl (Rd.own .here (dV 14 rfl dc)) ?_;refine aL rfl (aB7 _ _ _ _ _) (zg 6 ?_);refine cB rfl .here (by rw [dB]; decide) (fG 3 rfl) (zg 1 ?_);refine cB rfl .here (by rw [dB]; decide) (fG 4 rfl) (zg 1 ?_);refine cB rfl .here (by rw [dB]; decide) (fG 9 rfl) (zg 1 ?_);refine cB rfl .here (by rw [dB]; decide) (fG 14 rfl) (zg 7 ?_);refine We.lpo (r+1) ?_ ?_ ?_ ?_ ?_
  ·exact es
  ·exact (mS .here (congrArg (fun z=>Res.blk w (cl (wa 16 z) 405)) (aTN (aBT (yY (x2 f a e 3) r) 4))) tI)
  ·first|omega|(dsimp only; omega)
  ·exact m.trans h
  show r+1<=10; omega
 try simp only [bW] at L
 refine zg 7 ?_;obtain rfl:r=10:=by omega
 refine al rfl zJ fun x=>zg 9 ?_;refine Wk.lop (α:=Nat) (fun i=>[(135,true,.int .i64 (i:Int))]) (fun i=>[.blk x (cl (ba 64 (jL (uG f a e) (4*i))) 366)])
  (fun i M=>i<=16) (fun i=>16-i) 0 [(6,true,_),(7,true,_),(8,true,_),(10,true,_)] [.blk w _,.blk j _,.blk b4 _,.blk b3 _,.blk y _]
  es
  ms6 ?_ ?_
 ·show 0<=16; omega
 intro i N2 Q D l p;try dsimp only at p D ⊢
 have N:i<=16:=p;refine zg 6 ?_;refine .cond rfl (fun J=>?_) (fun J=>?_)
 ·try simp only [bW] at J
  refine zg 11 ?_;refine aY (mc:=⟨false,false⟩) [0,1,2,3,4,5,6,7] aO kr (zg 2 ?_);refine aP rfl (Rd.own aC (dV i om om)) (zg 2 ?_);refine aP rfl (Rd.own aF (dV i om om)) (zg 10 ?_);refine Wk.lop (α:=Nat) (fun c=>[(12,true,U (aDB f a e i >>> (8*c))),(145,true,.int .i64 (c:Int))]) (fun c=>[.blk x (cl (ba 64 (jL (uG f a e) (4*i+c))) 366)])
   (fun c M=>c<=4) (fun c=>4-c) 0 [(6,true,_),(7,true,_),(8,true,_),(10,true,_),(11,true,_),(135,true,_)] [.blk w _,.blk j _,.blk b4 _,.blk b3 _,.blk y _]
   (bE rfl bAW es)
   ms6 ?_ ?_
  ·show 0<=4; omega
  intro c N3 P C g n;try dsimp only at n C ⊢
  have hc:c<=4:=n;refine zg 6 ?_;refine .cond rfl (fun I=>?_) (fun I=>?_)
  ·try simp only [bW] at I
   refine zg 19 ?_;refine cB rfl .here (by rw [cF]; omega) (mU (4*i+c) om) (zg 4 ?_);refine pG (k:=.u32) rfl .no (.u rfl) (.u rfl) (fun _=>dc) (zg 8 ?_);refine We.lpo (c+1) ?_ ?_ ?_ ?_ ?_
   ·exact (bE rfl bAV es)
   ·exact (mS .here (aYE om) yM)
   ·first|omega|(dsimp only; omega)
   ·exact g
   show c+1<=4; omega
  try simp only [bW] at I
  refine zg 10 ?_;obtain rfl:c=4:=by omega
  refine We.lpo (i+1) ?_ ?_ ?_ ?_ ?_
  ·exact es
  ·exact ms6
  ·first|omega|(dsimp only; omega)
  ·exact l.trans g
  show i+1<=16; omega
 try simp only [bW] at J
 refine zg 12 ?_;refine jH ?_;obtain rfl:i=16:=by omega
 exact ⟨rfl,by rw [mT (fun i N=>(nE (uG f a e) N).symm)]; rfl⟩
theorem bEO:fM prog 458=some (wa 64 (fun _=>0#32)):=by kernel_rfl
theorem aPy:dC prog 423 [0,1,2,3,4,5,6,7]=some ([.int .u32 0,.int .u32 0,.int .u32 0,.int .u32 0,.int .u32 0,.int .u32 0,.int .u32 0,.int .u32 0],[(0,1),(1,1),(2,1),(3,1),(4,1),(5,1),(6,1),(7,1)]):=by kernel_rfl
theorem tR (x:W) (k:Nat) (G:PM) (a:k∈[2,6,7,11,13,17,18,19,22,25]):Ct prog 330 ([U x,.int .i64 (k:Int)]:List Value).toArray G [] (fun _ μ' u=>μ'=[]∧u=U (qG x k)):=by
 refine aE func330 ntmps330 fun f c=>?_;have e:k<=31:=by simp only [qg,qj,or_false] at a; omega
 refine zg 9 ?_;refine ng rfl .no (.u rfl) (fun _=>bL om om) ?_;refine aL rfl (yX _ _ _) (zg 4 ?_);refine aH ?_;exact ⟨rfl,by rw [← aZf a]; rfl⟩
set_option maxHeartbeats 1000000 in
theorem aFF (s:Nat->W) (xs:List Y) (h:Sh) (O nn:Value) (L:Nat) (G:PM) (P:SlR G 1 aK h xs) (l:RdNP G 0 0 (wa 64 kW)) (hl:64<=xs.length):Ct prog 323 ([.pointer (some ⟨L,0,none⟩),h.val xs.length]:List Value).toArray G [.blk L (cl (wa 8 s++[O,nn]) 425)] (fun _ μ' u=>μ'=[.blk L (cl (wa 8 (uZ s (fun i=>xs.getD i 0))++[O,nn]) 425)]∧u=.tuple #[]):=by
 refine aE func323 ntmps323 fun w0 a2=>?_;refine zg 2 ?_;refine al rfl bEO fun b4=>zg 9 ?_;refine lop (α:=Nat×(Nat->W)) (fun a=>[(24,true,.int .i64 (a.1:Int))]) (fun a=>[.blk b4 (cl (wa 64 a.2) 458)]) (fun a M=>(a.1<=16)∧(a.2=rW (fun i=>xs.getD i 0) a.1)) (fun a=>16-a.1) (0,fun _=>0#32) [(0,true,_),(1,true,_),(4,true,_)] [_] ?_;rintro ⟨k,y⟩ N0 c7 Z A H; dsimp only at H Z ⊢;obtain ⟨hk,J⟩:=H;refine bB A P l fun P l=>?_;refine zg 6 ?_;refine cz rfl (fun c1=>?_) fun c1=>?_
 ·refine zg 18 ?_;refine kS ((4*k)) (((4*k)+4)) rfl .no (zl rfl) P (.u rfl) (.u rfl) (.u rfl) om om om om ?_;intro a7 a0 K p g;have p:=p rfl;refine zg 5 ?_;refine lop (α:=Nat×(Nat->W)) (fun a=>[(35,true,.int .i64 (a.1:Int))]) (fun a=>[.blk b4 (cl (wa 64 a.2) 458)]) (fun a M=>(a.1<=4)∧(a.2=bM y k (shB (fun i=>xs.getD i 0) k a.1))) (fun a=>4-a.1) (0,y) [(0,true,_),(1,true,_),(4,true,_),(5,true,_),(24,true,_),(33,true,_),(34,true,_)] [_] ?_ (hF:=⟨fd,by (try dsimp only)<;>(rw [J]; exact (bCl _ (qd k)).symm)⟩);rintro ⟨c,N⟩ N1 c6 X w F; dsimp only at F X ⊢;obtain ⟨hc,I⟩:=F;refine bB w l g fun l g=>?_;refine zg 6 ?_;refine cz rfl (fun c2=>?_) fun c2=>?_
  ·refine zg 6 ?_;refine cK rfl g c ?_;refine aP rfl ((g.yat (c) om om).rd) (zg 7 ?_);refine aP rfl (Rd.own .here (by first|exact dV (k) om om|exact iX (k) om om|exact jN (k) om om|rfl)) ?_;refine lw (k:=.u32) rfl .no rfl (.u rfl) (.u rfl) (fun _=>dc) (zg 4 ?_);refine cB rfl .here (by first|decide|(simp only [dB,cF,cA]; omega)) (by first|exact fG (k) om|exact mU (k) om|exact vD (k) om om|rfl) (zg 7 ?_);exact lpo (c+1,bM N k (N k <<< Int.toNat 8 ||| BitVec.setWidth 32 (a0.getD c 0))) (hF:=⟨fd,by (try dsimp only)<;>(rw [I,aA0,aH0,shB,K,aUm om]; rfl)⟩)
  refine zg 10 ?_;exact lpo (k+1,N) (hF:=⟨fd,by (try dsimp only)<;>(obtain rfl:c=4:=om; rw [I,J,bAP]; rfl)⟩)
 refine zg 7 ?_;obtain rfl:k=16:=by omega
 refine zg 5 ?_;refine lop (α:=Nat×(Nat->W)) (fun a=>[(8,true,.int .i64 ((16+a.1:Nat):Int))]) (fun a=>[.blk b4 (cl (wa 64 a.2) 458)]) (fun a M=>(a.1<=48)∧(a.2=qJ (fun i=>xs.getD i 0) a.1)) (fun a=>48-a.1) (0,_) [(0,true,_),(4,true,_)] [_] ?_;rintro ⟨e,y⟩ N2 c0 T t E; dsimp only at E T ⊢;obtain ⟨a5,J⟩:=E;have l:=l.mono t;refine zg 7 ?_;refine cz rfl (fun c3=>?_) fun c3=>?_
 ·refine zg 5 ?_;refine aY (mc:=⟨false,false⟩) [0,1,2,3,4,5,6,7,8,9] aO kr (zg 1 ?_);refine cJ (((1+e):Nat):Int) rfl om (bL om om) (zg 1 ?_);refine aP rfl (Rd.own .here (by first|exact dV ((1+e)) om om|exact iX ((1+e)) om om|exact jN ((1+e)) om om|rfl)) (zg 1 ?_);refine cJ (((14+e):Nat):Int) rfl om (bL om om) (zg 1 ?_);refine aP rfl (Rd.own .here (by first|exact dV ((14+e)) om om|exact iX ((14+e)) om om|exact jN ((14+e)) om om|rfl)) (zg 4 ?_);refine aY (mc:=⟨false,false⟩) [0,1,2,3,4,5,6,7,8,9,10,12,15,16,19,21,24,25,11,13,14,17,18,20,22,23,26,27,28,29] aO kr (zg 2 ?_);refine cJ ((e:Nat):Int) rfl om (bL om om) (zg 1 ?_);refine aP rfl (Rd.own .here (by first|exact dV (e) om om|exact iX (e) om om|exact jN (e) om om|rfl)) (zg 1 ?_);refine cJ (((9+e):Nat):Int) rfl om (bL om om) (zg 1 ?_);refine aP rfl (Rd.own .here (by first|exact dV ((9+e)) om om|exact iX ((9+e)) om om|exact jN ((9+e)) om om|rfl)) (zg 4 ?_);refine pG (k:=.u32) rfl .no (.u rfl) (.u rfl) (fun _=>dc) (zg 3 ?_);refine pG (k:=.u32) rfl .no (.u rfl) (.u rfl) (fun _=>dc) ?_;refine aL rfl (tR _ 7 _ dc) ?_;refine aL rfl (tR _ 18 _ dc) (zg 3 ?_);refine aL rfl (tR _ 17 _ dc) ?_;refine aL rfl (tR _ 19 _ dc) (zg 4 ?_);refine cB rfl .here (by first|decide|(simp only [dB,cF,cA]; omega)) (by first|exact fG (((16+e:Nat))) om|exact mU (((16+e:Nat))) om|exact vD (((16+e:Nat))) om om|rfl) (zg 8 ?_);refine We.lpo (e+1,_) (bE rfl (by first|rfl|exact cQ om) es) dD ?_ ?_ ?_
  ·first|omega|(dsimp only; omega)
  ·exact t
  refine ⟨?_,?_⟩
  ·(try dsimp only)<;>(first|omega|rfl|assumption|(simp; done))
  (try dsimp only)<;>(rw [J]; rfl)
 refine zg 6 ?_;obtain rfl:e=48:=by omega
 refine aY (mc:=⟨false,false⟩) [0,1,2,3,4,5,6,7,8,9,10,11,12,13,14,15,16,17,18,19,20,21,22,23,24,25,26,27,28,29,30,31,32,33,34,35,36,37,38,39,40,41,42,43,44,45,46,47] aO kr (zg 4 ?_);refine aP rfl (Rd.own aC (by first|exact dV (0) om om|exact iX (0) om om|exact jN (0) om om|rfl)) (zg 4 ?_);refine aP rfl (Rd.own aC (by first|exact dV (1) om om|exact iX (1) om om|exact jN (1) om om|rfl)) (zg 4 ?_);refine aP rfl (Rd.own aC (by first|exact dV (2) om om|exact iX (2) om om|exact jN (2) om om|rfl)) (zg 4 ?_);refine aP rfl (Rd.own aC (by first|exact dV (3) om om|exact iX (3) om om|exact jN (3) om om|rfl)) (zg 4 ?_);refine aP rfl (Rd.own aC (by first|exact dV (4) om om|exact iX (4) om om|exact jN (4) om om|rfl)) (zg 4 ?_);refine aP rfl (Rd.own aC (by first|exact dV (5) om om|exact iX (5) om om|exact jN (5) om om|rfl)) (zg 4 ?_);refine aP rfl (Rd.own aC (by first|exact dV (6) om om|exact iX (6) om om|exact jN (6) om om|rfl)) (zg 4 ?_);refine aP rfl (Rd.own aC (by first|exact dV (7) om om|exact iX (7) om om|exact jN (7) om om|rfl)) (zg 17 ?_);refine lop (α:=Nat×(Nat->W)) (fun a=>[(11,true,U (a.2 0)),(12,true,U (a.2 1)),(13,true,U (a.2 2)),(14,true,U (a.2 3)),(15,true,U (a.2 4)),(16,true,U (a.2 5)),(17,true,U (a.2 6)),(18,true,U (a.2 7)),(131,true,.int .i64 (a.1:Int))]) (fun _=>[]) (fun a M=>(a.1<=64)∧(a.2=aEX y s a.1)) (fun a=>64-a.1) (0,s) [(0,true,_),(4,true,_)] [_,_] ?_;rintro ⟨q,x⟩ N3 b9 S v D; dsimp only at D S ⊢;obtain ⟨a4,ex⟩:=D;have l:=l.mono v;refine zg 6 ?_;refine cz rfl (fun c4=>?_) fun c4=>?_
 ·refine zg 11 ?_;refine aY (mc:=⟨false,false⟩) [0,1,3,6,10,11,12,13,14,15,16,18,19,20,22,23,24,2,4,5,7,8,9,17,21,25,26] aO kr (zg 13 ?_);refine aP rfl ((l.wat (q) om om).rd) (zg 2 ?_);refine aP rfl (Rd.own .here (by first|exact dV (q) om om|exact iX (q) om om|exact jN (q) om om|rfl)) ?_;refine aL rfl (tR _ 6 _ dc) ?_;refine aL rfl (tR _ 11 _ dc) (zg 1 ?_);refine aL rfl (tR _ 25 _ dc) (zg 11 ?_);refine aL rfl (tR _ 2 _ dc) (zg 1 ?_);refine aL rfl (tR _ 13 _ dc) (zg 2 ?_);refine aL rfl (tR _ 22 _ dc) (zg 42 ?_);exact lpo (q+1,aNL x (kW q) (y q)) (hF:=⟨fd,by (try dsimp only)<;>(rw [ex]; rfl)⟩)
 refine zg 6 ?_;obtain rfl:q=64:=by omega
 refine zg 9 ?_;refine fU (wa 8 x) rfl .no aPy (.cons (.u rfl) rfl (.cons (.u rfl) rfl (.cons (.u rfl) rfl (.cons (.u rfl) rfl (.cons (.u rfl) rfl (.cons (.u rfl) rfl (.cons (.u rfl) rfl (.cons (.u rfl) rfl .nil)))))))) rfl (by simp [oB,put,wa,List.range_succ]) (zg 4 ?_);refine lop (α:=Nat×(Nat->W)) (fun a=>[(200,true,.int .i64 (a.1:Int))]) (fun a=>[.blk L (cl (wa 8 a.2++[O,nn]) 425)]) (fun a M=>(a.1<=8)∧(a.2=fun i=>if i<a.1 then s i+x i else s i)) (fun a=>8-a.1) (0,s) [(0,true,_),(199,true,_)] [_] ?_ (hF:=⟨fd,by (try dsimp only)<;>(funext i; simp)⟩);rintro ⟨m,z⟩ N4 b8 Q r C; dsimp only at C Q ⊢;obtain ⟨a3,ez⟩:=C;have l:=l.mono r;refine zg 6 ?_;refine cz rfl (fun c5=>?_) fun c5=>?_
 ·refine zg 7 ?_;refine ix rfl .no (zr rfl) (za rfl) (.u rfl) (.u rfl) om om (fun _=>aEl (n:=8) (y:=x) (j:=m) om) (zg 4 ?_);refine aY (mc:=⟨false,false⟩) [0,1,2,3,4,5,6,7,8,9,10,11] aO kr (zg 5 ?_);refine aP rfl (Rd.own .here (by first|exact dV (m) om om|exact iX (m) om om|exact jN (m) om om|rfl)) (zg 5 ?_);refine cB rfl .here (by first|decide|(simp only [dB,cF,cA]; omega)) (by first|exact fG (m) om|exact mU (m) om|exact vD (m) om om|rfl) (zg 7 ?_);refine We.lpo (m+1,_) (bE rfl (by first|rfl|exact cQ om) es) dD ?_ ?_ ?_
  ·first|omega|(dsimp only; omega)
  ·exact r
  refine ⟨?_,?_⟩
  ·(try dsimp only)<;>(first|omega|rfl|assumption|(simp; done))
  (try dsimp only)<;>(rw [ez]; exact bCk)
 refine zg 5 ?_;refine aR bJ ?_;obtain rfl:m=8:=by omega
 refine ⟨?_,rfl⟩;rw [ez,ex,J,bCu (f:=fun i=>if i<8 then s i+aEX (qJ (fun i=>xs.getD i 0) 48) s 64 i else s i) (f':=uZ s (fun i=>xs.getD i 0)) (fun i hi=>by rw [if_pos hi]; rfl)]
theorem bH:(prog.info? 5).bind (·.zero)=some (.int .u8 0):=by kernel_rfl
theorem aRl (s:Nat->W) (xs:List Y) (v e nn:Value) (c:Nat) (G:PM) (k:RdNP G 0 0 (wa 64 kW)) (j:64<=xs.length):Ct prog 323 ([.pointer (some ⟨c,0,none⟩),v]:List Value).toArray G [rB v 5 xs,.blk c (cl (wa 8 s++[e,nn]) 425)] (fun _ μ' u=>∃ ν,μ'=rB v 5 xs :: ν∧ν=[.blk c (cl (wa 8 (uZ s (fun i=>xs.getD i 0))++[e,nn]) 425)]∧u=.tuple #[]) :=
 aA8 (fun h l a f g=>by subst f; exact aFF _ _ _ _ _ _ _ g (k.mono a) j)
theorem aCW {y:Nat->W} {a b:Value}:(wa 8 y++[a,b]).set 8 v=wa 8 y++[v,b]:=aPE rfl
theorem aCX {y:Nat->W} {a b:Value}:(wa 8 y++[a,b]).set 9 v=wa 8 y++[a,v]:=aPE rfl
theorem aHh {zs:List Y} {j m b:Nat} {a:Value} (c:zs.length / 64=j) (hm:m=zs.length):Res.blk b (cl (wa 8 (iC zs j)++[a,.int .i64 (m:Int)]) T)=.blk b (cl (kB zs a) T):=by
 subst c; subst hm; rfl
theorem aM2 {zs L:List Y} {j b:Nat} {a nn:Value} (c:L=zs.drop (64*j)) (h:64<=L.length):Res.blk b (cl (wa 8 (uZ (iC zs j) (fun i=>L.getD i 0))++[a,nn]) T)=.blk b (cl (wa 8 (iC zs (j+1))++[a,nn]) T):=by
 grind[iC,aHZ,aC5]
theorem aYv {xs L:List Y} {b k:Nat} {a nn:Value} (c:L=fZ xs++ys.take k) (f:k=min (64-(fZ xs).length) ys.length) (h:64<=L.length):Res.blk b (cl (wa 8 (uZ (iC xs (xs.length / 64)) (fun i=>L.getD i 0))++[a,nn]) T)=.blk b (cl (wa 8 (iC (xs++ys) (xs.length / 64+1))++[a,nn]) T):=by
 have e:=aAj xs;rw [c,qa,qp] at h;rw [iC,aHb om,aHZ (b':=aC5 (xs++ys) (xs.length / 64))];intro i g;rw [c,aC5];simp only [List.getD_eq_getElem?_getD,List.getElem?_append,List.getElem?_take,e];by_cases j:i<xs.length%64
 ·grind[fZ]
 grind
theorem aYx {xs L:List Y} (a:L=fZ xs++ys.take (min (64-(fZ xs).length) ys.length)) (h:L.length<64):L=fZ (xs++ys)∧(xs++ys).length / 64=xs.length / 64∧iC (xs++ys) (xs.length / 64)=iC xs (xs.length / 64):=by
 have c:=aAj xs;rw [a,qa,qp] at h;have e:(xs++ys).length / 64=xs.length / 64:=by grind
 grind[aHb,fZ]
theorem aYt {xs:List Y} (h:64<=(fZ xs).length+ys.length):ys.drop (min (64-(fZ xs).length) ys.length)=(xs++ys).drop (64*(xs.length / 64+1)):=by
 have a:=aAj xs;rw [List.drop_append,xt (show xs.length<=64*(xs.length / 64+1) by omega),qu];grind
theorem aYu {xs:List Y} (h:(fZ xs).length=0):ys=(xs++ys).drop (64*(xs.length / 64)):=by
 grind[aAj,List.drop_left]
theorem aYz {xs:List Y} {b:Nat} {a nn:Value} (h:(fZ xs).length=0):Res.blk b (cl (wa 8 (iC xs (xs.length / 64))++[a,nn]) T)=.blk b (cl (wa 8 (iC (xs++ys) (xs.length / 64))++[a,nn]) T):=by
 grind[aHb]
theorem aHF (xs ys:List Y) (h:Sh) (vp:Value) (P:Nat) (G:PM) (p:SlR G 1 aK h ys) (f:RdNP G 0 0 (wa 64 kW)) (hl:xs.length+ys.length<=4611686018427387904):Ct prog 298 ([.pointer (some ⟨P,0,none⟩),h.val ys.length]:List Value).toArray G [.blk P (cl (kB xs vp) 425),rB vp 5 (fZ xs)] (fun _ μ' u=>∃ vp',μ'=[.blk P (cl (kB (xs++ys) vp') 425),rB vp' 5 (fZ (xs++ys))]∧u=.tuple #[]):=by
 refine aE func298 ntmps298 fun w0 b5=>?_;have hr:=aAj xs;refine zg 11 ?_;refine cB rfl .here (by first|decide|(simp only [kB,dB,cF,cA]; omega)) (by first|exact aCW|exact aCX) (zg 9 ?_);refine lr rfl .no (zn rfl) (.u rfl) aC (zg 3 ?_);refine cz rfl (fun c1=>?_) fun c1=>?_
 ·refine zg 6 ?_;refine lr rfl .no (zn rfl) (.u rfl) aC ?_;refine cJ (((64-(fZ xs).length):Nat):Int) rfl om (bL om om) (zg 2 ?_);refine rD ((64-(fZ xs).length)) (ys.length) rfl .no (.u rfl) (.u rfl) om om (zg 4 ?_);refine aY (mc:=⟨false,false⟩) [0,1,2,3,4,5,6,7,8,9,10,11] aO kr (zg 7 ?_);refine kE ((min (64-(fZ xs).length) ys.length)) rfl .no (zl rfl) p (.u rfl) (.u rfl) om om ?_;intro b8 a2 v t F;have t:=t rfl;refine dO rfl (zl rfl) bH (.u rfl) (.u rfl) aC F.sc (by (try simp only [cA,bY]); omega) ?_;intro T Q a7 n;have a8:Q.length=(fZ xs).length+a2.length:=by rw [n,qa]
  refine zg 2 ?_;refine dE rfl .here aC (by first|decide|(simp only [kB,dB,cF,cA]; omega)) (by first|exact aCW|exact aCX) (zg 6 ?_);refine kD ((min (64-(fZ xs).length) ys.length)) rfl .no (zl rfl) p (.u rfl) (.u rfl) om om ?_;intro b7 d0 O r i;have r:=r rfl;refine zg 10 ?_;refine lr rfl .no (zn rfl) (.u rfl) aC (zg 3 ?_);refine cz rfl (fun c2=>?_) fun c2=>?_
  ·refine zg 1 ?_;refine aR dD ?_;obtain ⟨e1,e2,e3⟩:=aYx (n.trans (by rw [v])) om;exact ⟨T,by rw [← e1,←e3,aHh e2 (by simp)],rfl⟩
  refine zg 9 ?_;refine aJ rfl (dS aC .here) (aRl _ Q _ _ _ _ _ f om) ?_;rintro _ d6 a5 J ⟨_,rfl,rfl,rfl⟩;refine aW J p f i fun p f i=>?_;refine zg 6 ?_;refine cB rfl aC (by first|decide|(simp only [kB,dB,cF,cA]; omega)) (by first|exact aCW|exact aCX) (zg 1 ?_);refine oR 5 (zg 3 ?_);refine lop (α:=Nat×Sh×List Y×Value) (fun a=>[(1,true,a.2.1.val a.2.2.1.length)]) (fun a=>[.blk P (cl (wa 8 (iC (xs++ys) a.1)++[a.2.2.2,.int .i64 ((xs.length+ys.length:Nat):Int)]) 425)]) (fun a Gl=>(64*a.1<=xs.length+ys.length)∧(a.2.2.1=(xs++ys).drop (64*a.1))∧(SlR Gl 1 aK a.2.1 a.2.2.1)) (fun a=>a.2.2.1.length) (xs.length / 64+1,_,_,_) [(0,true,_)] [_] ?_ (hM:=(mS aC (aYv (n.trans (by rw [v])) rfl om) bJ)) (hF:=⟨fd,by (try dsimp only)<;>(rw [O]; exact aYt om),i⟩);rintro ⟨j,h',L,S⟩ N0 d5 Z I M; dsimp only at M Z ⊢;obtain ⟨hj,q,k⟩:=M;refine bB I p f fun p f=>?_;have lL:L.length=xs.length+ys.length-64*j:=by rw [q]; simp
  refine zg 8 ?_;refine cz rfl (fun c3=>?_) fun c3=>?_
  ·refine zg 7 ?_;refine aJ rfl (bI .here) (aFF _ L h' _ _ _ _ k f om) ?_;rintro _ a4 C l ⟨rfl,rfl⟩;refine aW l p f k fun p f k=>?_;refine zg 5 ?_;refine kD (64) rfl .no (zl rfl) k (.u rfl) (.u rfl) om om ?_;intro x A m c g;have c:=c rfl;refine zg 2 ?_;exact lpo (j+1,x,A,S) (hM:=(mS .here (aM2 q om) bJ)) (hF:=⟨fd,by (try dsimp only)<;>(rw [m,q,yg]; congr 1),g⟩)
  refine zg 7 ?_;refine qT rfl (zl rfl) fun a1=>zg 1 ?_;refine vT rfl (zl rfl) bH (.u rfl) (.u rfl) .here k.sc (by (try simp only [cA,bY]); omega) ?_;intro w y _ D e;have E:y.length=L.length:=by rw [e]
  refine zg 2 ?_;refine dE rfl .here aC (by first|decide|(simp only [kB,dB,cF,cA]; omega)) (by first|exact aCW|exact aCX) (zg 2 ?_);refine aR dD ?_;have N:(xs++ys).length / 64=j:=by rw [qa]; omega
  exact ⟨w,by rw [aHh N (by simp),e,q,fZ,N],rfl⟩
 refine zg 4 ?_;refine lop (α:=Nat×Sh×List Y×Value) (fun a=>[(1,true,a.2.1.val a.2.2.1.length)]) (fun a=>[.blk P (cl (wa 8 (iC (xs++ys) a.1)++[a.2.2.2,.int .i64 ((xs.length+ys.length:Nat):Int)]) 425)]) (fun a Gl=>(64*a.1<=xs.length+ys.length)∧(a.2.2.1=(xs++ys).drop (64*a.1))∧(SlR Gl 1 aK a.2.1 a.2.2.1)) (fun a=>a.2.2.1.length) (xs.length / 64,_,_,_) [(0,true,_)] [_] ?_ (hM:=(mS .here (aYz om) bJ)) (hF:=⟨fd,aYu om,p⟩);rintro ⟨j,h',L,S⟩ N1 d4 X H K; dsimp only at K X ⊢;obtain ⟨hj,q,k⟩:=K;have f:=f.mono H;have lL:L.length=xs.length+ys.length-64*j:=by rw [q]; simp
 refine zg 8 ?_;refine cz rfl (fun c4=>?_) fun c4=>?_
 ·refine zg 7 ?_;refine aJ rfl (bI .here) (aFF _ L h' _ _ _ _ k f om) ?_;rintro _ a4 C l ⟨rfl,rfl⟩;refine bB l f k fun f k=>?_;refine zg 5 ?_;refine kD (64) rfl .no (zl rfl) k (.u rfl) (.u rfl) om om ?_;intro x A m c g;have c:=c rfl;refine zg 2 ?_;exact lpo (j+1,x,A,S) (hM:=(mS .here (aM2 q om) bJ)) (hF:=⟨fd,by (try dsimp only)<;>(rw [m,q,yg]; congr 1),g⟩)
 refine zg 7 ?_;refine qT rfl (zl rfl) fun a1=>zg 1 ?_;refine vT rfl (zl rfl) bH (.u rfl) (.u rfl) .here k.sc (by (try simp only [cA,bY]); omega) ?_;intro w y _ D e;have E:y.length=L.length:=by rw [e]
 refine zg 2 ?_;refine dE rfl .here aC (by first|decide|(simp only [kB,dB,cF,cA]; omega)) (by first|exact aCW|exact aCX) (zg 2 ?_);refine aR dD ?_;have N:(xs++ys).length / 64=j:=by rw [qa]; omega
 exact ⟨w,by rw [aHh N (by simp),e,q,fZ,N],rfl⟩
theorem aEv:fM prog 425=some ([.int .u32 0,.int .u32 0,.int .u32 0,.int .u32 0,.int .u32 0,.int .u32 0,.int .u32 0,.int .u32 0,.slice none 0 0,.int .i64 0]):=by kernel_rfl
theorem bDv:dC prog 425 [0]=some ([.int .u32 0,.int .u32 0,.int .u32 0,.int .u32 0,.int .u32 0,.int .u32 0,.int .u32 0,.int .u32 0,.slice none 0 0,.int .i64 0],[(0,8)]):=by kernel_rfl
theorem kX:fM prog 81=some (ba 32 (fun _=>0#8)):=by kernel_rfl
theorem bDw:dC prog 425 [0,1,2]=some ([.int .u32 0,.int .u32 0,.int .u32 0,.int .u32 0,.int .u32 0,.int .u32 0,.int .u32 0,.int .u32 0,.slice none 0 0,.int .i64 0],[(0,8),(8,1),(9,1)]):=by kernel_rfl
theorem aFC (G:PM):Ct prog 297 ([]:List Value).toArray G [] (fun _ μ' u=>μ'=[]∧u=.agg (kB [] (.slice none 0 0)).toArray):=by
 refine aE func297 ntmps297 fun c a=>?_;refine zg 2 ?_;refine al rfl aEv fun b0=>zg 4 ?_;refine fU (wa 8 ivW) rfl .no aPy (.cons (.u rfl) rfl (.cons (.u rfl) rfl (.cons (.u rfl) rfl (.cons (.u rfl) rfl (.cons (.u rfl) rfl (.cons (.u rfl) rfl (.cons (.u rfl) rfl (.cons (.u rfl) rfl .nil)))))))) rfl (by rfl) ?_;refine fU (kB [] (.slice none 0 0)) rfl .no bDv (.cons (.u rfl) rfl .nil) rfl (by rfl) ?_;refine dF rfl .here (by rfl) (uU (zF _ _) (qC rfl rfl)) (zg 3 ?_);refine jH ?_;exact ⟨rfl,rfl⟩
theorem aQT (G:PM):Ct prog 283 ([]:List Value).toArray G [] (fun _ μ' u=>∃ b,μ'=[.blk b (cl (kB [] (.slice none 0 0)) 425),rB (.slice none 0 0) 5 (fZ [])]∧u=.pointer (some ⟨b,0,none⟩)):=by
 refine aE func283 ntmps283 fun c a=>?_;refine zg 7 ?_;refine aL rfl (aFC _) ?_;refine al rfl aEv ?_; intro b1;refine dF rfl .here (by rfl) (uU (zF _ _) (qC rfl rfl)) (zg 6 ?_);refine oR 5 (zg 2 ?_);refine aR (mS aC rfl bJ) ?_;exact ⟨_,rfl,rfl⟩
theorem aIr (xs ys:List Y) (h:Sh) (g:Value) (f:Nat) (G:PM) (a:SlR G 1 aK h ys) (c:RdNP G 0 0 (wa 64 kW)) (l:xs.length+ys.length<=4611686018427387904):Ct prog 284 ([.pointer (some ⟨f,0,none⟩),h.val ys.length]:List Value).toArray G [.blk f (cl (kB xs g) 425),rB g 5 (fZ xs)] (fun _ μ' u=>∃ vp',μ'=[.blk f (cl (kB (xs++ys) vp') 425),rB vp' 5 (fZ (xs++ys))]∧u=.tuple #[]):=by
 refine aE func284 ntmps284 fun m k=>?_;refine zg 10 ?_;refine aJ rfl (dS .here .here) (aHF _ _ _ _ _ _ a c l) ?_;rintro _ n i e ⟨j,rfl,rfl⟩;refine bB e a c fun a c=>?_;refine zg 2 ?_;refine aR dD ?_;exact ⟨j,rfl,rfl⟩
theorem bA0 {xs:List Y} {a:Value}:((kB xs a).drop 0).take 8=wa 8 (iC xs (xs.length / 64)):=by
 rfl
theorem bAw {zs:List Value} {xs:List Y} (h:zs.length=10):oB zs [(0,8),(8,1),(9,1)] [wa 8 (iC xs (xs.length / 64)),[v],[.int .i64 (xs.length:Int)]]=kB xs v:=by
 match zs,h with
 | [a,b,c,d,e,f,g,h,i,j],_=>rfl
theorem aWa {n q:Nat} (h:q<8):aGW n q=((BitVec.ofInt 64 (n:Int)*8#64) >>> (56-8*(q:Int)).toNat).setWidth 8:=by
 rw [show (56-8*(q:Int)).toNat=56-8*q by omega]; rfl
theorem aIe (xs:List Y) (N:Value) (bs:Nat) (G:PM) (c:RdNP G 0 0 (wa 64 kW)) (hl:xs.length<=1152921504606846976):Ct prog 285 ([.pointer (some ⟨bs,0,none⟩)]:List Value).toArray G [.blk bs (cl (kB xs N) 425),rB N 5 (fZ xs)] (fun _ μ' u=>μ'=[.blk bs (cl (kB xs N) 425),rB N 5 (fZ xs)]∧u=.agg (ba 32 (oO xs)).toArray):=by
 refine aE func285 ntmps285 fun w0 c9=>?_;have hr:=aAj xs;have hz:tY xs.length=(119-xs.length%64)%64:=rfl;refine zg 2 ?_;refine al rfl kX fun b2=>zg 4 ?_;refine aL rfl (aFC _) ?_;refine al rfl aEv ?_; intro b3;refine dF rfl .here (by rfl) (uU (zF _ _) (qC rfl rfl)) (zg 10 ?_);refine vE aX ?_; intro c7 c5 J a7 x; subst J;refine aY (mc:=⟨false,true⟩) [0,1,2,3,5,6,7,8,10,11,12,13,4,9,14,15] aO kr (zg 3 ?_);refine aT rfl (RdN.part (n:=8) (cs':=wa 8 (iC xs (xs.length / 64))) aF (bA0)) (by first|exact qE|exact qL|rfl) (zg 8 ?_);refine qT rfl (zl rfl) ?_; intro e1;refine vT rfl (zl rfl) bH (.u rfl) (.u rfl) .here (vN dK x) (by (try simp only [cA,bY]); omega) ?_;intro S a2 _ h p;have b6:a2.length=(fZ xs).length:=by rw [p]
 refine fU (kB xs S) rfl .no bDw (.cons (.u rfl) rfl (.cons (.u rfl) (uF h) (.cons (.u rfl) rfl .nil))) rfl (bAw rfl) ?_;refine dF rfl aC (by rfl) (uU (zF _ _) (qC h rfl)) (zg 3 ?_);subst p;refine zg 10 ?_;refine mkY (1) (72) rfl (zl rfl) bH (.u rfl) (.u rfl) (by first|rfl|omega) (by first|rfl|omega) om om ?_; intro e0;have a8:(xl (1) (0#8:Y)).length=1:=zy;refine zg 6 ?_;refine eA rfl om om ?_;refine s1r (z:=128#8) rfl (.u rfl) (.u rfl) (zs rfl) .here om fun a1 g O=>zg 4 ?_;refine lop (α:=Nat×Value×List Y) (fun a=>[(5,true,a.2.1)]) (fun a=>[rB a.2.1 5 a.2.2]) (fun a Gl=>(a.1<=tY xs.length)∧(a.2.2=128#8 :: xl a.1 0#8)) (fun a=>tY xs.length-a.1) (0,_,_) [(2,true,_),(3,true,_),(4,true,_)] [_,_,_,_,_] ?_ (hF:=⟨qr _,by (try dsimp only)<;>(rw [g]; rfl)⟩);rintro ⟨j,v,L⟩ N0 e4 Z D I; dsimp only at I Z ⊢;obtain ⟨hj,w⟩:=I;have c:=c.mono D;have lL:L.length=j+1:=by rw [w]; simp
 have hz:tY xs.length=(119-xs.length%64)%64:=rfl;refine zg 6 ?_;refine lr rfl .no (zn rfl) (.u rfl) .here (zg 1 ?_);refine rmn ((xs.length+L.length)) (64) rfl .no (.u rfl) (.u rfl) om om (fun _=>by first|decide|omega) (zg 3 ?_);refine cz rfl (fun c1=>?_) fun c1=>?_
 ·refine zg 5 ?_;refine Go.Tan.b1 rfl (zl rfl) bH (.u rfl) rfl rfl dc ?_; intro d9;refine dO rfl (zl rfl) bH (.u rfl) (.u rfl) aC (Sc.one (y:=0#8) .here) (by show _+1<=_; omega) ?_;intro Q M a6 m;have b5:M.length=L.length+1:=by rw [m,qa]; first|rfl | simp [bY]
  refine zg 3 ?_;exact lpo (j+1,Q,M) (hm:=by (try dsimp only); omega) (hF:=⟨fd,by (try dsimp only)<;>(rw [m,w,ww,←List.replicate_succ'])⟩)
 refine zg 12 ?_;refine lop (α:=Nat×Value×List Y) (fun a=>[(5,true,a.2.1),(6,true,.int .i64 (56-8*(a.1:Int)))]) (fun a=>[rB a.2.1 5 a.2.2]) (fun a Gl=>(a.1<=8)∧(a.2.2=(128#8 :: xl (tY xs.length) 0#8)++wH xs.length a.1)) (fun a=>8-a.1) (0,_,_) [(2,true,_),(3,true,_),(4,true,_)] [_,_,_,_,_] ?_ (hF:=⟨fd,by (try dsimp only)<;>(rw [w,show j=tY xs.length by omega]; simp [wH])⟩);rintro ⟨q,v,L⟩ N1 e3 X C H; dsimp only at H X ⊢;obtain ⟨hq,w⟩:=H;have c:=c.mono C;have lL:L.length=tY xs.length+1+q:=by rw [w]; simp [aLZ]; omega
 refine zg 7 ?_;refine cz rfl (fun c2=>?_) fun c2=>?_
 ·refine zg 8 ?_;refine pG (k:=.u64) rfl .no (.u rfl) (.u rfl) om (zg 1 ?_);refine Go.Tan.b1 rfl (zl rfl) bH (.u rfl) rfl rfl dc ?_; intro d8;refine dO rfl (zl rfl) bH (.u rfl) (.u rfl) aC (Sc.one .here) (by show _+1<=_; omega) ?_;intro P K a5 l;have a9:K.length=L.length+1:=by rw [l,qa]; first|rfl | simp [bY]
  refine zg 9 ?_;exact lpo (q+1,P,K) (hF:=⟨fd,by (try dsimp only)<;>(rw [l,w,aWZ,←qk,aWa om]; rfl)⟩)
 refine zg 6 ?_;have e8:L=aCZ xs.length:=by rw [w,show q=8 by omega]; rfl
 subst e8;have lt:=bBj xs.length;have hz:tY xs.length=(119-xs.length%64)%64:=rfl;refine lJ .here ?_; intro a3 c0 e t r; subst t;have c:=c.mono e;refine zg 2 ?_;refine aJ rfl (dS .here .here) (aHF xs (aCZ xs.length) _ _ _ _ r c om) ?_;rintro _ e5 a4 E ⟨vq,rfl,rfl⟩;have c:=c.mono E;refine zg 4 ?_;refine al rfl kX fun b7=>zg 9 ?_;refine lop (α:=Nat×(Nat->Y)) (fun a=>[(57,true,.int .i64 (a.1:Int))]) (fun a=>[.blk b7 (cl (ba 32 a.2) 81)]) (fun a Gl=>(a.1<=32)∧(a.2=jL (oO xs) a.1)) (fun a=>32-a.1) (0,fun _=>0#8) [(2,true,_),(3,true,_),(7,true,_)] [_,_,_,_,_] ?_;rintro ⟨i,f⟩ N2 e2 T A F; dsimp only at F T ⊢;obtain ⟨hi,ef⟩:=F;have c:=c.mono A;refine zg 6 ?_;refine cz rfl (fun c3=>?_) fun c3=>?_
 ·refine zg 13 ?_;refine qun (i) (4) rfl .no (.u rfl) (.u rfl) om om (fun _=>by first|decide|omega) om (zg 2 ?_);refine aP rfl (Rd.own aC (by first|exact dV ((i / 4)) om om|exact iX ((i / 4)) om om|exact jN ((i / 4)) om om|rfl)) (zg 1 ?_);refine rmn (i) (4) rfl .no (.u rfl) (.u rfl) om om (fun _=>by first|decide|omega) (zg 1 ?_);refine cJ (((24-8*(i%4)):Nat):Int) rfl om (bL om om) ?_;refine pG (k:=.u32) rfl .no (.u rfl) (.u rfl) om (zg 2 ?_);refine cB rfl .here (by first|decide|(simp only [dB,cF,cA]; omega)) (by first|exact fG (i) om|exact mU (i) om|exact vD (i) om om|rfl) (zg 7 ?_);exact lpo (i+1,bM f i (oO xs i)) (hF:=⟨fd,by (try dsimp only)<;>(rw [ef]; rfl)⟩)
 refine zg 12 ?_;refine fMc (mS dK rfl (mS dK rfl mN)) ?_;obtain rfl:i=32:=by omega
 exact ⟨rfl,by rw [ef,mT (fun i hi=>(nE (oO xs) hi).symm)]; rfl⟩
theorem aBC:cI prog 148=some (5,1,1):=by kernel_rfl
theorem bEM:iU prog 5=some 1:=by kernel_rfl
theorem nV (xs:List Y) (h:Sh) (n:BitVec 64) (a:Nat) (G:PM) (E:SlR G 1 aK h xs) (M:xs.length<=140737488351232) (hm:a<=8):Ct prog 78 ([h.val xs.length,uv .u64 n,.int .i64 (a:Int)]:List Value).toArray G [] (PR 5 (fun L=>L=xs++cY n a)):=by
 refine aE func78 ntmps78 fun J D=>?_;refine zg 7 ?_;refine qT rfl (zl rfl) fun O=>zg 1 ?_;refine vT rfl (zl rfl) bH (.u rfl) (.u rfl) .here E.sc (by (try simp only [cA,bY]); omega) ?_;intro C q _ t f;have x:q.length=xs.length:=by rw [f]
 refine zg 7 ?_;refine rD (a) (8) rfl .no (.u rfl) (.u rfl) om om ?_;refine yK (0) ((min a 8)) rfl .no (.u rfl) (.u rfl) om om (zg 4 ?_);refine lop (α:=Nat×Value×List Y×BitVec 64) (fun c=>[(1,true,uv .u64 c.2.2.2),(7,true,c.2.1),(14,true,.int .i64 (c.1:Int))]) (fun c=>[rB c.2.1 5 c.2.2.1]) (fun c Q=>(c.1<=a)∧(c.2.2.1=xs++cY n c.1)∧(c.2.2.2=n >>> (8*c.1))) (fun c=>a-c.1) (0,_,_,n) [(13,true,_)] [] ?_ (hF:=⟨fd,by (try dsimp only)<;>(rw [f]; simp [cY]),by (try dsimp only)<;>(simp)⟩);rintro ⟨k,v,L,m⟩ P I l y g; dsimp only at g l ⊢;obtain ⟨N,p,A⟩:=g;have K:L.length=xs.length+k:=by rw [p]; simp [kI]
 refine zg 6 ?_;refine cz rfl (fun F=>?_) fun F=>?_
 ·refine zg 9 ?_;refine Go.Tan.b1 rfl (zl rfl) bH (.u rfl) rfl rfl dc ?_; intro H;refine dO rfl (zl rfl) bH (.u rfl) (.u rfl) aC (Sc.one .here) (by show _+1<=_; omega) ?_;intro j i r e;have w:i.length=L.length+1:=by rw [e,qa]; first|rfl | simp [bY]
  refine zg 5 ?_;refine pG (k:=.u64) rfl .no (.u rfl) (.u rfl) (fun _=>dc) (zg 8 ?_);exact lpo (k+1,j,i,m >>> 8) (hF:=⟨fd,by (try dsimp only)<;>(rw [e,p,A,aUW,qk]; rfl),by (try dsimp only)<;>(rw [A,←BitVec.shiftRight_add]; rfl)⟩)
 refine zg 12 ?_;refine aR bJ ?_;obtain rfl:k=a:=by omega
 exact ⟨L,p,rfl⟩
theorem aIE (l e:Nat->Y) (a:W) (h:Sh) (xs:List Y) (G:PM) (Z:SlR G 1 aK h xs) (hl:xs.length<=140737488351232):Ct prog 185 ([.agg (ba 32 l).toArray,.agg (ba 12 e).toArray,U a,h.val xs.length]:List Value).toArray G [] (PR 5 (fun L=>L=qV l e a xs)):=by
 refine aE func185 ntmps185 fun w0 X=>?_;refine zg 2 ?_;refine bF rfl ?_; intro b4;refine bF rfl fun b5=>zg 5 ?_;refine qT rfl (zl rfl) fun a3=>zg 1 ?_;refine vT rfl (zl rfl) bH (.u rfl) (.u rfl) .here Z.sc (by (try simp only [cA,bY]); omega) ?_;intro Q F _ H n;have I:F.length=xs.length:=by rw [n]
 refine zg 5 ?_;refine vE .here ?_; intro g f q p k; subst q;obtain rfl:=n.symm;refine zg 6 ?_;refine lop (α:=Nat×Sh×List Y) (fun c=>[(2,true,U (a+qb 32 c.1)),(10,true,c.2.1.val (xs.length-64*c.1))]) (fun c=>[rB (g.val xs.length) 5 c.2.2]) (fun c Gl=>(c.2.2.length=xs.length)∧(c.2.2=oE l e a xs (64*c.1))∧(64*c.1<xs.length->c.2.1.oa=some ⟨f,64*c.1,none⟩)∧(xs.length-64*c.1<=c.2.1.cap)) (fun c=>xs.length-64*c.1) (0,g,xs) [(4,true,_),(5,true,_),(9,true,_)] [_,_] ?_ (hE:=(bE rfl (by simp) es)) (hF:=⟨by (try dsimp only)<;>rfl,(aSn _ _ _ _).symm,k,p⟩);rintro ⟨j,r,L⟩ N0 a7 D K y; dsimp only at y D ⊢;obtain ⟨lL,M,hr,w⟩:=y;refine zg 8 ?_;refine cz rfl (fun c1=>?_) fun c1=>?_
 ·refine zg 5 ?_;have A:64*j<xs.length:=by omega
  have O:=k om;have N:=hr A;obtain ⟨so,sc⟩:=g;obtain ⟨ro,t⟩:=r;simp only at O N;subst O; subst N;refine zg 4 ?_;refine aL rfl (aPd _ _ _ _) ?_;refine al rfl zJ fun a4=>zg 7 ?_;refine rD ((xs.length-64*j)) (64) rfl .no (.u rfl) (.u rfl) om om (zg 11 ?_);refine lop (α:=Nat×List Y) (fun c=>[(31,true,.int .i64 (c.1:Int))]) (fun c=>[rB (Sh.val ⟨some ⟨f,0,none⟩,sc⟩ xs.length) 5 c.2]) (fun c Gl=>(c.1<=min (xs.length-64*j) 64)∧(c.2=oE l e a xs (64*j+c.1))) (fun c=>64-c.1) (0,L) [(2,true,_),(4,true,_),(5,true,_),(9,true,_),(10,true,_),(11,true,_),(12,true,_),(30,true,_)] [_,_,_] ?_ (hF:=⟨qr _,by (try dsimp only)<;>(rw [M]; rfl)⟩);rintro ⟨i,P⟩ N1 a6 C J x; dsimp only at x C ⊢;obtain ⟨hi,m⟩:=x;have T:P.length=xs.length:=by rw [m,aJl]
  refine zg 6 ?_;refine cz rfl (fun c2=>?_) fun c2=>?_
  ·refine zg 10 ?_;refine aY (mc:=⟨false,false⟩) [0,1,2,3,4,5,6,7,8,9] aO kr (zg 2 ?_);refine ih rfl .no aBC (.u rfl) (.u rfl) om om (fun _=>rfl) ?_;refine aP rfl (Rd.row .here (aLn (o:=64*j) (64*j+i) om om)) (zg 2 ?_);refine aP rfl (Rd.own aC (by first|exact dV (i) om om|exact iX (i) om om|exact jN (i) om om|rfl)) (zg 1 ?_);refine ih rfl .no aBC (.u rfl) (.u rfl) om om (fun _=>rfl) ?_;refine s1r rfl (.u rfl) (.u rfl) bEM .here (by show 64*j+_*1<_; omega) fun L9 E S=>zg 7 ?_;exact lpo (i+1,L9) (hF:=⟨fd,by (try dsimp only)<;>(rw [E,m,show (Sh.o ⟨some ⟨f,64*j,none⟩,t⟩+(i:Int).toNat*1)=64*j+i from (by show 64*j+_*1=_; omega)]; exact aSm (xs:=xs) (j:=j) (i:=i) om om)⟩)
  refine zg 8 ?_;refine sd rfl .no aBC (.u rfl) (.u rfl) om om (zg 9 ?_);exact lpo (j+1,Sh.cut ⟨some ⟨f,64*j,none⟩,t⟩ (min (xs.length-64*j) 64) 1,P) (hE:=(bE rfl (by show U (a+qb 32 j+1#32)=U (a+qb 32 (j+1)); rw [BitVec.add_assoc,←vw]) (bE rfl (congrArg (Sh.val _) om) es))) (hM:=(mS .here (by rfl) (mS aC rfl (mS aC rfl mN)))) (hF:=⟨by (try dsimp only)<;>(rw [m,aJl]),by (try dsimp only)<;>(rw [m]; exact aSo om),by (try dsimp only)<;>(intro h3; have v:xs.length-64*j<=t:=w; exact aSv om om),by (try dsimp only)<;>(show _<=t-_; have v:xs.length-64*j<=t:=w; omega)⟩)
 refine zg 12 ?_;refine aR bJ ?_;exact ⟨L,by rw [M,aSl om],rfl⟩
theorem aCQ (c:List (Sh×List Y)) (h:Sh) (G:PM) (g:SlP G h c) (f:RdNP G 0 0 (wa 64 kW)) (x:(dL c).length<=1152921504606846976) (H:c.length<=1000):Ct prog 255 ([h.val c.length]:List Value).toArray G [] (fun _ μ' u=>μ'=[]∧u=.agg (ba 32 (oO (dL c))).toArray):=by
 refine aE func255 ntmps255 fun E w=>?_;refine zg 2 ?_;refine al rfl kX fun b2=>zg 4 ?_;refine aL rfl (aFC _) ?_;refine al rfl aEv ?_; intro b3;refine dF rfl .here (by rfl) (uU (zF _ _) (qC rfl rfl)) (zg 1 ?_);refine oR 5 (zg 10 ?_);refine lop (α:=Nat×Value) (fun e=>[(9,true,.int .i64 (e.1:Int))]) (fun e=>[rB e.2 5 (fZ (dL (c.take e.1))),.blk b3 (cl (kB (dL (c.take e.1)) e.2) 425)]) (fun e K=>(e.1<=c.length)) (fun e=>c.length-e.1) (0,.slice none 0 0) [(2,true,_),(3,true,_),(7,true,_),(8,true,_)] [_] ?_ (hM:=(mS .here (by simp [fZ,dL]) dD));rintro ⟨k,F⟩ J A q j n; dsimp only at n q ⊢;have I:=n;refine bB j g f fun g f=>?_;refine zg 6 ?_;refine cz rfl (fun y=>?_) fun y=>?_
 ·refine zg 6 ?_;refine lS rfl om om (g.sl.nn (k:=k) om) ?_;obtain ⟨v,a⟩:=cN (k:=k) (xs:=c) om;have i:=g.get a;refine aP rfl ((g.at (k) om a).rd) (zg 5 ?_);refine aJ rfl (dS aC .here) (aHF _ _ _ _ _ _ i f (by have:=aFO a; omega)) ?_;rintro _ D t m ⟨p,rfl,rfl⟩;have f:=f.mono m;refine zg 7 ?_;exact lpo (k+1,p) (hM:=(mS aC (by rw [zX a]) (mS .here (by rw [zX a]) bJ)))
 refine zg 6 ?_;obtain rfl:k=c.length:=by omega
 rw [qy];refine zg 1 ?_;refine aJ rfl (dS aC .here) (aIe _ _ _ _ f x) ?_;rintro _ C r l ⟨rfl,rfl⟩;have f:=f.mono l;refine zg 4 ?_;refine jH ?_;exact ⟨rfl,rfl⟩
theorem pK:(prog.info? 148).bind (·.zero)=some (.slice none 0 0):=by kernel_rfl
theorem SlP.one {b:Nat} {h1:Sh} {a:List Y} (c:PM.le G (G.add b (cl [h1.val a.length] T))) (e:SlR G 1 aK h1 a):SlP (G.add b (cl [h1.val a.length] T)) ⟨some ⟨b,0,none⟩,1⟩ [(h1,a)] :=
 ⟨gQ (T:=T) (bP _ _ _) (fun _ _=>rfl) (by simp),fun p f=>by rw [qf.1 f]; exact e.mono c⟩
theorem SlP.two {b:Nat} {h1 h2:Sh} {e c:List Y} (a:PM.le G (G.add b (cl [h1.val e.length,h2.val c.length] T))) (h:SlR G 1 aK h1 e) (f:SlR G 1 aK h2 c):SlP (G.add b (cl [h1.val e.length,h2.val c.length] T)) ⟨some ⟨b,0,none⟩,2⟩ [(h1,e),(h2,c)] :=
 ⟨gQ (T:=T) (bP _ _ _) (fun _ _=>rfl) (by simp),fun p g=>by
  rcases qg.1 g with rfl | g
  ·exact h.mono a
  ·rw [qf.1 g]; exact f.mono a⟩
theorem SlP.four {b:Nat} {h1 h2 h3 c:Sh} {h g f e:List Y} (a:PM.le G (G.add b (cl [h1.val h.length,h2.val g.length,h3.val f.length,c.val e.length] T))) (m:SlR G 1 aK h1 h) (k:SlR G 1 aK h2 g) (j:SlR G 1 aK h3 f) (i:SlR G 1 aK c e) :
  SlP (G.add b (cl [h1.val h.length,h2.val g.length,h3.val f.length,c.val e.length] T)) ⟨some ⟨b,0,none⟩,4⟩ [(h1,h),(h2,g),(h3,f),(c,e)] :=
 ⟨gQ (T:=T) (bP _ _ _) (fun _ _=>rfl) (by simp),fun p l=>by
  simp only [qg,qj,or_false] at l;rcases l with rfl|rfl|rfl|rfl
  ·exact m.mono a
  ·exact k.mono a
  ·exact j.mono a
  ·exact i.mono a⟩
theorem bBI {b:Nat} {h1:Sh} {a:List Y} (c:PM.le G (G.add b (cl [h1.val a.length] T))) (e:SlR G 1 aK h1 a) (f:RdNP G 0 0 (wa 64 kW)) (g:a.length<=1152921504606846976):Ct prog 255 ([.slice (some ⟨b,0,none⟩) 1 1]:List Value).toArray (G.add b (cl [h1.val a.length] T)) [] (fun _ μ' u=>μ'=[]∧u=.agg (ba 32 (oO a)).toArray):=by
 have h:=aCQ _ _ _ (SlP.one c e) (f.mono c) (by simp_all[dL]) (by simp);rw [show dL [(h1,a)]=a by simp [dL]] at h;exact h
theorem bBJ {b:Nat} {h1 h2:Sh} {c a:List Y} (e:PM.le G (G.add b (cl [h1.val c.length,h2.val a.length] T))) (g:SlR G 1 aK h1 c) (f:SlR G 1 aK h2 a) (i:RdNP G 0 0 (wa 64 kW)) (j:c.length+a.length<=1152921504606846976):Ct prog 255 ([.slice (some ⟨b,0,none⟩) 2 2]:List Value).toArray (G.add b (cl [h1.val c.length,h2.val a.length] T)) [] (fun _ μ' u=>μ'=[]∧u=.agg (ba 32 (oO (c++a))).toArray):=by
 have h:=aCQ _ _ _ (SlP.two e g f) (i.mono e) (by simp_all[dL]) (by simp);rw [show dL [(h1,c),(h2,a)]=c++a by simp [dL]] at h;exact h
theorem aEL {f g:Nat->Y} {k:Nat} {a b:Y} (c:f=jL g k) (h:b=g k):bM (bM f k a) k b=jL g (k+1):=by
 rw [aH0,c,h]; rfl
theorem aCJ {f g:Nat->Y} {k:Nat} {a:Y} (c:f=jL g k) (h:a=g k):bM f k a=jL g (k+1):=by
 rw [c,h]; rfl
theorem aYM (a:List Y) (h:Sh) (G:PM) (m:SlR G 1 aK h a) (t:RdNP G 0 0 (wa 64 kW)) (hl:a.length<=140737488351232):Ct prog 282 ([h.val a.length]:List Value).toArray G [] (fun _ μ' u=>μ'=[]∧u=.tuple #[.agg (ba 64 (gJ a 54#8)).toArray,.agg (ba 64 (gJ a 92#8)).toArray]):=by
 refine aE func282 ntmps282 fun w0 K=>?_;refine zg 2 ?_;refine al rfl zJ ?_; intro b2;refine al rfl zJ fun b3=>zg 10 ?_;refine cz rfl (fun S=>?_) fun S=>?_
 ·have l:yH a=aHa a:=by unfold yH; rw [if_pos om]
  refine zg 3 ?_;refine Go.Tan.b1 rfl (zl rfl) pK (.u rfl) rfl rfl dc ?_; intro T;refine cU rfl (Gp.add .here Gp.nil) (fun E hq=>bBI E m t om) ?_;refine al rfl kX fun b4=>zg 3 ?_;refine dN .here ?_; intro J r n;refine bB r m t fun m t=>?_;refine zg 1 ?_;refine kA rfl .no (zr rfl) (.u rfl) n (by first|exact pQ|exact nZ|exact app_r) fun M w D I j=>zg 2 ?_;have l:yH a=w:=by rw [l,D]; rfl
  refine zg 3 ?_;skip;refine zg 5 ?_;refine lop (α:=Nat×(Nat->Y)×(Nat->Y)) (fun c=>[(13,true,.int .i64 (c.1:Int))]) (fun c=>[.blk b3 (cl (ba 64 c.2.2) 366),.blk b2 (cl (ba 64 c.2.1) 366)]) (fun c Gl=>(c.1<=64)∧(c.2.1=jL (gJ a 54#8) c.1)∧(c.2.2=jL (gJ a 92#8) c.1)) (fun c=>64-c.1) (0,fun _=>0#8,fun _=>0#8) [(0,true,_),(2,true,_),(3,true,_)] [_] ?_;rintro ⟨k,f,v⟩ N0 Z H y C; dsimp only at C H ⊢;obtain ⟨L,p,g⟩:=C;refine bA y m t n j fun m t n j=>?_;refine zg 6 ?_;refine cz rfl (fun Q=>?_) fun Q=>?_
  ·refine zg 15 ?_;refine cB rfl aC (by first|decide|(simp only [dB,cF,cA]; omega)) (by first|exact mU (z:=54#8) (k) om|exact fG (z:=54#32) (k) om|rfl) (zg 1 ?_);refine cB rfl aC (by first|decide|(simp only [dB,cF,cA]; omega)) (by first|exact mU (z:=92#8) (k) om|exact fG (z:=92#32) (k) om|rfl) (zg 10 ?_);refine cz rfl (fun P=>?_) fun P=>?_
   ·refine zg 1 ?_;refine aY (mc:=⟨false,false⟩) [0,1,2,3,4,5,6,7,8,9] aO kr (zg 2 ?_);refine aP rfl (Rd.own aC (by first|exact dV (k) om om|exact iX (k) om om|exact jN (k) om om|rfl)) (zg 2 ?_);refine cK rfl j k ?_;refine aP rfl ((j.yat (k) om om).rd) (zg 2 ?_);refine cB rfl aC (by first|decide|(simp only [dB,cF,cA]; omega)) (by first|exact fG (k) om|exact mU (k) om|exact vD (k) om om|rfl) (zg 2 ?_);refine aY (mc:=⟨false,false⟩) [0,1,2,3,4,5,6,7,8,9] aO kr (zg 2 ?_);refine aP rfl (Rd.own aC (by first|exact dV (k) om om|exact iX (k) om om|exact jN (k) om om|rfl)) (zg 2 ?_);refine cK rfl j k ?_;refine aP rfl ((j.yat (k) om om).rd) (zg 2 ?_);refine cB rfl aC (by first|decide|(simp only [dB,cF,cA]; omega)) (by first|exact fG (k) om|exact mU (k) om|exact vD (k) om om|rfl) (zg 7 ?_);exact lpo (k+1,bM (bM f k 54#8) k (bM f k 54#8 k ^^^ w.getD k 0),bM (bM v k 92#8) k (bM v k 92#8 k ^^^ w.getD k 0)) (hF:=⟨fd,aEL p (by rw [aA0,gJ,l,if_pos om]),aEL g (by rw [aA0,gJ,l,if_pos om])⟩)
   refine zg 7 ?_;exact lpo (k+1,bM f k 54#8,bM v k 92#8) (hF:=⟨fd,aCJ p (by rw [gJ,l,if_neg om]),aCJ g (by rw [gJ,l,if_neg om])⟩)
  refine zg 6 ?_;refine aIo aO rfl ?_;refine WoT.n2 0 1 kr ?_ ?_
  ·refine zg 2 ?_;refine WoT.n2 1 2 kr ?_ ?_
   ·refine zg 2 ?_;refine WoT.n1 2 kr (zg 2 ?_);refine WoT.n1 3 kr (zg 2 ?_);refine WoT.last kr (zg 2 ?_);refine aAL ?_;obtain rfl:k=64:=by omega
    exact ⟨rfl,by rw [p,g,mT (fun i e=>nE (gJ a 54#8) e),mT (fun i e=>nE (gJ a 92#8) e)]; rfl⟩
   refine zg 2 ?_;refine WoT.n1 1 kr (zg 2 ?_);refine WoT.n1 3 kr (zg 2 ?_);refine WoT.last kr (zg 2 ?_);refine aAL ?_;obtain rfl:k=64:=by omega
   exact ⟨rfl,by rw [p,g,mT (fun i e=>nE (gJ a 54#8) e),mT (fun i e=>nE (gJ a 92#8) e)]; rfl⟩
  refine zg 2 ?_;refine WoT.n1 0 kr (zg 2 ?_);refine WoT.n1 2 kr (zg 2 ?_);refine WoT.n1 3 kr (zg 2 ?_);refine WoT.last kr (zg 2 ?_);refine aAL ?_;obtain rfl:k=64:=by omega
  exact ⟨rfl,by rw [p,g,mT (fun i e=>nE (gJ a 54#8) e),mT (fun i e=>nE (gJ a 92#8) e)]; rfl⟩
 have q:yH a=a:=by unfold yH; rw [if_neg om]
 refine zg 4 ?_;skip;refine zg 5 ?_;refine lop (α:=Nat×(Nat->Y)×(Nat->Y)) (fun c=>[(13,true,.int .i64 (c.1:Int))]) (fun c=>[.blk b3 (cl (ba 64 c.2.2) 366),.blk b2 (cl (ba 64 c.2.1) 366)]) (fun c Gl=>(c.1<=64)∧(c.2.1=jL (gJ a 54#8) c.1)∧(c.2.2=jL (gJ a 92#8) c.1)) (fun c=>64-c.1) (0,fun _=>0#8,fun _=>0#8) [(0,true,_),(2,true,_),(3,true,_)] [] ?_;rintro ⟨k,f,v⟩ N1 X F x A; dsimp only at A F ⊢;obtain ⟨L,p,g⟩:=A;refine bB x m t fun m t=>?_;refine zg 6 ?_;refine cz rfl (fun O=>?_) fun O=>?_
 ·refine zg 15 ?_;refine cB rfl aC (by first|decide|(simp only [dB,cF,cA]; omega)) (by first|exact mU (z:=54#8) (k) om|exact fG (z:=54#32) (k) om|rfl) (zg 1 ?_);refine cB rfl aC (by first|decide|(simp only [dB,cF,cA]; omega)) (by first|exact mU (z:=92#8) (k) om|exact fG (z:=92#32) (k) om|rfl) (zg 10 ?_);refine cz rfl (fun N=>?_) fun N=>?_
  ·refine zg 1 ?_;refine aY (mc:=⟨false,false⟩) [0,1,2,3,4,5,6,7,8,9] aO kr (zg 2 ?_);refine aP rfl (Rd.own aC (by first|exact dV (k) om om|exact iX (k) om om|exact jN (k) om om|rfl)) (zg 2 ?_);refine cK rfl m k ?_;refine aP rfl ((m.yat (k) om om).rd) (zg 2 ?_);refine cB rfl aC (by first|decide|(simp only [dB,cF,cA]; omega)) (by first|exact fG (k) om|exact mU (k) om|exact vD (k) om om|rfl) (zg 2 ?_);refine aY (mc:=⟨false,false⟩) [0,1,2,3,4,5,6,7,8,9] aO kr (zg 2 ?_);refine aP rfl (Rd.own aC (by first|exact dV (k) om om|exact iX (k) om om|exact jN (k) om om|rfl)) (zg 2 ?_);refine cK rfl m k ?_;refine aP rfl ((m.yat (k) om om).rd) (zg 2 ?_);refine cB rfl aC (by first|decide|(simp only [dB,cF,cA]; omega)) (by first|exact fG (k) om|exact mU (k) om|exact vD (k) om om|rfl) (zg 7 ?_);exact lpo (k+1,bM (bM f k 54#8) k (bM f k 54#8 k ^^^ a.getD k 0),bM (bM v k 92#8) k (bM v k 92#8 k ^^^ a.getD k 0)) (hF:=⟨fd,aEL p (by rw [aA0,gJ,q,if_pos om]),aEL g (by rw [aA0,gJ,q,if_pos om])⟩)
  refine zg 7 ?_;exact lpo (k+1,bM f k 54#8,bM v k 92#8) (hF:=⟨fd,aCJ p (by rw [gJ,q,if_neg om]),aCJ g (by rw [gJ,q,if_neg om])⟩)
 refine zg 6 ?_;refine aIo aO rfl ?_;refine WoT.n2 0 1 kr ?_ ?_
 ·refine zg 2 ?_;refine WoT.n2 1 2 kr ?_ ?_
  ·refine zg 2 ?_;refine WoT.n1 2 kr (zg 2 ?_);refine WoT.n1 3 kr (zg 2 ?_);refine WoT.last kr (zg 2 ?_);refine aAL ?_;obtain rfl:k=64:=by omega
   exact ⟨rfl,by rw [p,g,mT (fun i e=>nE (gJ a 54#8) e),mT (fun i e=>nE (gJ a 92#8) e)]; rfl⟩
  refine zg 2 ?_;refine WoT.n1 1 kr (zg 2 ?_);refine WoT.n1 3 kr (zg 2 ?_);refine WoT.last kr (zg 2 ?_);refine aAL ?_;obtain rfl:k=64:=by omega
  exact ⟨rfl,by rw [p,g,mT (fun i e=>nE (gJ a 54#8) e),mT (fun i e=>nE (gJ a 92#8) e)]; rfl⟩
 refine zg 2 ?_;refine WoT.n1 0 kr (zg 2 ?_);refine WoT.n1 2 kr (zg 2 ?_);refine WoT.n1 3 kr (zg 2 ?_);refine WoT.last kr (zg 2 ?_);refine aAL ?_;obtain rfl:k=64:=by omega
 exact ⟨rfl,by rw [p,g,mT (fun i e=>nE (gJ a 54#8) e),mT (fun i e=>nE (gJ a 92#8) e)]; rfl⟩
theorem aQA:fM prog 302=some (ba 16 (fun _=>0#8)):=by kernel_rfl
theorem bDX:xN prog 302 16=true:=by kernel_rfl
theorem aGe (l:List Y) (P:Sh) (i:List (Sh×List Y)) (h:Sh) (G:PM) (M:SlR G 1 aK P l) (g:SlP G h i) (e:RdNP G 0 0 (wa 64 kW)) (N:l.length<=140737488351232) (hl:(dL i).length<=1000000000000000) (hn:i.length<=1000):Ct prog 244 ([P.val l.length,h.val i.length]:List Value).toArray G [] (fun _ μ' u=>μ'=[]∧u=.agg (ba 32 (wM l (dL i))).toArray):=by
 refine aE func244 ntmps244 fun w0 a8=>?_;refine zg 2 ?_;refine al rfl kX fun b4=>zg 5 ?_;refine aL rfl (aYM _ _ _ M e N) (zg 3 ?_);refine al rfl zJ ?_; intro b5;refine al rfl zJ fun b6=>zg 5 ?_;refine dN aC ?_; intro a6 p a;refine bB p g e fun g e=>?_;refine dN .here ?_; intro a5 n c;refine aW n g e a fun g e a=>?_;refine zg 1 ?_;refine aQ rfl (aQT _) ?_;rintro _ c9 a1 D ⟨S,rfl,rfl⟩;refine bA D g e a c fun g e a c=>?_;refine zg 6 ?_;refine kA rfl .no (zr rfl) (.u rfl) a (by first|exact pQ|exact nZ|exact app_r) ?_; intro b8 J I a4 v;refine aJ rfl (dS .here .here) (aIr _ _ _ _ _ _ v e (by simp; omega)) ?_;rintro _ c8 a0 C ⟨K,rfl,rfl⟩;refine bA C g e a c fun g e a c=>?_;refine zg 11 ?_;refine lop (α:=Nat×Value) (fun j=>[(22,true,.int .i64 (j.1:Int))]) (fun j=>[.blk S (cl (kB (J++dL (i.take j.1)) j.2) 425),rB j.2 5 (fZ (J++dL (i.take j.1)))]) (fun j Gl=>(j.1<=i.length)) (fun j=>i.length-j.1) (0,K) [(4,true,_),(6,true,_),(7,true,_),(20,true,_),(21,true,_)] [_] ?_ (hM:=(mS .here (by simp [dL]) (mS .here (by simp [dL]) bJ)));rintro ⟨k,vq⟩ N0 c5 Q x E; dsimp only at E Q ⊢;have P:=E;refine bA x g e a c fun g e a c=>?_;refine zg 6 ?_;refine cz rfl (fun c1=>?_) fun c1=>?_
 ·refine zg 6 ?_;refine lS rfl om om (g.sl.nn (k:=k) om) ?_;obtain ⟨a7,f⟩:=cN (k:=k) (xs:=i) om;have w:=g.get f;refine aP rfl ((g.at (k) om f).rd) (zg 6 ?_);refine aJ rfl (dS .here .here) (aIr _ _ _ _ _ _ w e (by have:=aFO f; rw [qa]; omega)) ?_;rintro _ c7 Z A ⟨L,rfl,rfl⟩;refine aW A e a c fun e a c=>?_;refine zg 7 ?_;exact lpo (k+1,L) (hM:=(mS .here (by rw [zX f,qk]) (mS .here (by rw [zX f,qk]) bJ)))
 refine zg 6 ?_;obtain rfl:k=i.length:=by omega
 rw [qy];refine zg 2 ?_;refine aJ rfl (dS .here .here) (aIe _ _ _ _ e (by rw [qa]; omega)) ?_;rintro _ c6 X y ⟨rfl,rfl⟩;refine aW y e a c fun e a c=>?_;refine al rfl kX fun c2=>zg 4 ?_;refine dN .here ?_; intro T m q;refine aW m e a c fun e a c=>?_;refine aY (mc:=⟨false,false⟩) [0,1,2,3,4] aO kr ?_;refine kA rfl .no (zr rfl) (.u rfl) c (by first|exact pQ|exact nZ|exact app_r) ?_; intro b7 c4 H a3 t;refine kA rfl .no (zr rfl) (.u rfl) q (by first|exact pQ|exact nZ|exact app_r) ?_; intro a9 c3 F a2 r;refine Go.Tan.bN rfl (zl rfl) pK (Evp.cons (.u rfl) (Evp.cons (.u rfl) Evp.nil)) rfl dc (by simp [Value.oneCell',Sh.val]) ?_; intro c0;refine cU rfl (Gp.add .here Gp.nil) (fun O hq=>bBJ O t r e om) (zg 4 ?_);refine jH ?_;exact ⟨rfl,by rw [H,F,I]; rfl⟩
theorem aWs {b:Nat} {q h1 h2 h3 j:Sh} {a i g f e:List Y} (c:PM.le G (G.add b (cl [h1.val i.length,h2.val g.length,h3.val f.length,j.val e.length] T))) (k:SlR G 1 aK q a) (r:SlR G 1 aK h1 i) (n:SlR G 1 aK h2 g) (m:SlR G 1 aK h3 f) (l:SlR G 1 aK j e) (t:RdNP G 0 0 (wa 64 kW)) (p:a.length<=140737488351232) (v:i.length+g.length+f.length+e.length<=1000000000000000) :
  Ct prog 244 ([q.val a.length,.slice (some ⟨b,0,none⟩) 4 4]:List Value).toArray (G.add b (cl [h1.val i.length,h2.val g.length,h3.val f.length,j.val e.length] T)) [] (fun _ μ' u=>μ'=[]∧u=.agg (ba 32 (wM a (i++g++f++e))).toArray):=by
 have h:=aGe _ q _ _ _ (k.mono c) (SlP.four c r n m l) (t.mono c) p (by grind[dL]) (by simp);rw [show dL [(h1,i),(h2,g),(h3,f),(j,e)]=i++g++f++e by simp [dL]] at h;exact h
theorem aIg (enc q f:Nat->Y) (w:List Y) (H:Sh) (xs:List Y) (F:Sh) (G:PM) (e:SlR G 1 aK H w) (c:SlR G 1 aK F xs) (p:RdNP G 0 0 (wa 64 kW)) (L:w.length<=140737488351232) (hl:xs.length<=140737488355328):Ct prog 186 ([.agg (ba 32 enc++ba 32 q).toArray,.agg (ba 12 f).toArray,H.val w.length,F.val xs.length]:List Value).toArray G [] (fun _ μ' u=>μ'=[]∧u=.agg (ba 16 (aAw q f w xs)).toArray):=by
 refine aE func186 ntmps186 fun X K=>?_;refine zg 2 ?_;refine bF rfl ?_; intro b4;refine bF rfl ?_; intro b5;refine al rfl aQA fun b8=>zg 3 ?_;refine dN aF ?_; intro J m a;refine aW m e c p fun e c p=>?_;refine dN aC ?_; intro I l i;refine bA l e c p a fun e c p a=>?_;refine aY (mc:=⟨false,false⟩) [0,1,2,3,4,6,7,8,5,9,10,11,12] aO kr (zg 1 ?_);refine kA rfl .no (zr rfl) (.u rfl) a (by first|exact pQ|exact nZ|exact app_r) fun O S v E h=>zg 4 ?_;refine kA rfl .no (zr rfl) (.u rfl) i (by first|exact pQ|exact nZ|exact app_r) fun M Q t C g=>zg 1 ?_;refine aQ rfl (Ct.frzB (nV [] ⟨none,0⟩ _ 8 _ dG (by simp) dc)) ?_;rintro _ T A j ⟨N,y,k,rfl,rfl,r⟩;refine bA j e c p a fun e c p a=>?_;refine aW j i h g fun i h g=>?_;refine Go.Tan.bN rfl (zl rfl) pK (Evp.cons (.u rfl) (Evp.cons (.u rfl) (Evp.cons (.u rfl) (Evp.cons (.u rfl) Evp.nil)))) rfl dc (by simp [Value.oneCell',Sh.val]) ?_; intro P;have D:y.length=8:=by rw [k,qu]; exact kI _ 8
 refine cU rfl (Gp.add .here Gp.nil) (fun x Z=>aWs x h r e g c p om om) ?_;refine al rfl kX fun b9=>zg 5 ?_;refine sah rfl .no (zr rfl) (.u rfl) (.u rfl) (fun _=>by first|decide|omega) (fun _=>by first|decide|omega) ?_;refine sp rfl .no (zr rfl) (.u rfl) (fun _=>by first|decide|omega) ?_;refine aT rfl (RdN.part (n:=16) (cs':=ba 16 _) .here (aJL dc)) (by first|exact qE|exact qL|rfl) (zg 4 ?_);refine jH ?_;exact ⟨rfl,by rw [v,k,t]; rfl⟩
theorem bBh (enc c a:Nat->Y) (f:List Y) (i:Sh) (xs:List Y) (v:Value) (G:PM) (g:SlR G 1 aK i f) (n:RdNP G 0 0 (wa 64 kW)) (h:f.length<=140737488351232) (m:xs.length<=140737488355328):Ct prog 186 ([.agg (ba 32 enc++ba 32 c).toArray,.agg (ba 12 a).toArray,i.val f.length,v]:List Value).toArray G [rB v 5 xs] (fun _ μ' u=>∃ ν,μ'=rB v 5 xs :: ν∧ν=[]∧u=.agg (ba 16 (aAw c a f xs)).toArray) :=
 aA8 (fun j p e k l=>by subst k; exact aIg enc c a f i xs j p (g.mono e) l (n.mono e) h m)
theorem aIb (enc f a:Nat->Y) (l:List Y) (t:Sh) (xs:List Y) (p:Sh) (G:PM) (g:SlR G 1 aK t l) (q:SlR G 1 aK p xs) (i:RdNP G 0 0 (wa 64 kW)) (r:l.length<=140737488351232) (H:xs.length<=140737488351232):Ct prog 132 ([.agg (ba 32 enc++ba 32 f).toArray,.agg (ba 12 a).toArray,t.val l.length,p.val xs.length]:List Value).toArray G [] (PR 5 (fun L=>L=kR enc f a l xs)):=by
 refine aE func132 ntmps132 fun M F=>?_;have N:=zZ enc a 1#32 xs;refine zg 2 ?_;refine bF rfl ?_; intro b4;refine bF rfl fun O=>zg 6 ?_;refine aT rfl (RdN.part (n:=32) (cs':=ba 32 enc) aC (nZ)) (by first|exact qE|exact qL|rfl) (zg 2 ?_);refine aQ rfl (iJ (aIE enc a 1#32 p xs _ q H)) ?_;rintro E K w k ⟨h,y,c,rfl⟩;refine bB k g i fun g i=>?_;refine zg 5 ?_;have C:h.length=xs.length:=by rw [c,zZ]
 refine zg 4 ?_;refine aJ rfl (bI .here) (bBh enc f a l t h _ _ g i r (by rw [c,zZ]; omega)) ?_;rintro _ J v j ⟨_,rfl,rfl,rfl⟩;have i:=i.mono j;refine al rfl aQA fun I=>zg 6 ?_;refine rQ rfl .no (zr rfl) (.u rfl) (dO rfl (zl rfl) bH (.u rfl) (.u rfl) aC (Sc.arr .here) (by (try simp only [cA,bY]); omega) ?_);intro D m x e;have A:m.length=h.length+16:=by rw [e,qa]; first|rfl | simp [bY]
 refine zg 4 ?_;refine aR bJ ?_;exact ⟨m,by rw [e,c]; rfl,rfl⟩
theorem aQU (enc l a:Nat->Y) (w:List Y) (D:Sh) (xs:List Y) (K:Sh) (G:PM) (A:SlR G 1 aK D w) (p:SlR G 1 aK K xs) (E:RdNP G 0 0 (wa 64 kW)) (C:w.length<=140737488351232) (S:xs.length<=140737488351248):Ct prog 257 ([.agg (ba 32 enc++ba 32 l).toArray,.agg (ba 12 a).toArray,D.val w.length,K.val xs.length]:List Value).toArray G [] (fun _ μ' u=>∃ v L e,OpenR (rK enc l a w xs) L e∧μ'=[rB v 5 L]∧u=.tuple #[v,.int .i64 e]):=by
 refine aE func257 ntmps257 fun Q M=>?_;refine zg 2 ?_;refine bF rfl ?_; intro b4;refine bF rfl fun T=>zg 19 ?_;refine cz rfl (fun O=>?_) fun O=>?_
 ·refine zg 7 ?_;refine oR 5 ?_;refine aR bJ ?_;rw [aX9 om]; exact ⟨_,[],60,.inr ⟨rfl,rfl,rfl⟩,rfl,rfl⟩
 refine zg 6 ?_;refine kE ((xs.length-16)) rfl .no (zl rfl) p (.u rfl) (.u rfl) om om ?_;intro r x c h j;have h:=h rfl;refine zg 5 ?_;refine aY (mc:=⟨false,false⟩) [0,1,2,3,5,6,7,8,9,4,10] aO kr (zg 6 ?_);refine kD ((xs.length-16)) rfl .no (zl rfl) p (.u rfl) (.u rfl) om om ?_;intro N f k g i;have g:=g rfl;refine spS rfl .no (zr rfl) i (.u rfl) om dc ?_;refine aT rfl ((i.arr (m:=16) om).rd) (cF _ _) ?_;refine aL rfl (aIg enc l a w D x r _ A j E C om) ?_;refine nqB rfl .no bDX (.u rfl) (.u rfl) (zg 2 ?_);refine cz rfl (fun F=>?_) fun F=>?_
 ·refine zg 7 ?_;refine oR 5 ?_;refine aR bJ ?_;rw [aX7 om (by rw [← c,←k,←aEs f,show f.length=16 by omega]; exact F)]; exact ⟨_,[],60,.inr ⟨rfl,rfl,rfl⟩,rfl,rfl⟩
 refine zg 5 ?_;refine aT rfl (RdN.part (n:=32) (cs':=ba 32 enc) aC (nZ)) (by first|exact qE|exact qL|rfl) (zg 2 ?_);refine aQ rfl (iJ (aIE enc a 1#32 r x _ j om)) ?_;rintro y P I q ⟨H,J,t,rfl⟩;have E:=E.mono q;refine zg 5 ?_;refine aR bJ ?_;rw [aMe om (by rw [← c,←k,←aEs f,show f.length=16 by omega]; exact F),←c]; exact ⟨y,H,0,.inl ⟨by rw [t],rfl⟩,rfl,rfl⟩
theorem aP4:csT prog 148=true:=by kernel_rfl
theorem aMC (x:W) (G:PM):Ct prog 286 ([U x]:List Value).toArray G [] (fun _ μ' u=>μ'=[]∧u=U (sZ 4 x)):=by
 refine aE func286 ntmps286 fun m i=>?_;refine zg 12 ?_;refine lop (α:=Nat×W) (fun c=>[(0,true,U c.2),(3,true,.int .i64 (c.1:Int))]) (fun _=>[]) (fun c q=>(c.1<=4)∧(c.2=sZ c.1 x)) (fun c=>4-c.1) (0,x) [] [] ?_;rintro ⟨k,y⟩ p l f g e; dsimp only at e f ⊢;obtain ⟨n,h⟩:=e;refine zg 6 ?_;refine cz rfl (fun j=>?_) fun j=>?_
 ·refine zg 6 ?_;refine pG (k:=.u32) rfl .no (.u rfl) (.u rfl) (fun _=>dc) (zg 2 ?_);refine nw (k:=.u32) rfl .no rfl (.u rfl) ?_;refine bw (k:=.u32) (a:=2197175160#32) rfl .no rfl (.u rfl) (.u rfl) rfl (zg 9 ?_);exact lpo (k+1,aKy y) (hF:=⟨fd,by (try dsimp only)<;>(rw [h]; rfl)⟩)
 refine zg 12 ?_;refine aH ?_;obtain rfl:k=4:=by omega
 exact ⟨rfl,by rw [h]; rfl⟩
theorem aSr (a:W) (xs:List Y) (h:Sh) (G:PM) (g:SlR G 1 aK h xs) (p:xs.length<=9000000000000000000):Ct prog 248 ([U a,h.val xs.length]:List Value).toArray G [] (fun _ μ' u=>μ'=[]∧u=U (mW a xs)):=by
 refine aE func248 ntmps248 fun n j=>?_;refine zg 8 ?_;refine xw (k:=.u32) rfl .no rfl (.u rfl) (zg 12 ?_);refine lop (α:=Nat×W) (fun c=>[(5,true,U c.2),(12,true,.int .i64 (c.1:Int))]) (fun _=>[]) (fun c t=>(c.1<=xs.length)∧(c.2=(xs.take c.1).foldl aBU (~~~a))) (fun c=>xs.length-c.1) (0, ~~~a) [(10,true,_),(11,true,_)] [] ?_;rintro ⟨k,x⟩ r m i e f; dsimp only at f i ⊢;obtain ⟨q,ex⟩:=f;have g:=g.mono e;refine zg 6 ?_;refine cz rfl (fun l=>?_) fun l=>?_
 ·refine zg 6 ?_;refine cK rfl g k ?_;refine aP rfl ((g.yat (k) om om).rd) (zg 8 ?_);refine aL rfl (aMC _ _) ?_;refine aL rfl (aMC _ _) (zg 8 ?_);exact lpo (k+1,sZ 4 (sZ 4 (x ^^^ (xs.getD k 0).setWidth 32))) (hF:=⟨fd,by (try dsimp only)<;>(rw [aUb om,←ex,aUp]; rfl)⟩)
 refine zg 8 ?_;refine xw (k:=.u32) rfl .no rfl (.u rfl) (zg 4 ?_);refine aH ?_;obtain rfl:k=xs.length:=by omega
 exact ⟨rfl,by rw [ex,qy]; rfl⟩
theorem aJm (c:List (Sh×List Y)) (h:Sh) (G:PM) (f:SlP G h c) (v:(dL c).length<=9000000000000000000) (t:c.length<=1000):Ct prog 189 ([h.val c.length]:List Value).toArray G [] (fun _ μ' u=>μ'=[]∧u=U (mW 0#32 (dL c))):=by
 refine aE func189 ntmps189 fun r n=>?_;refine zg 19 ?_;refine lop (α:=Nat×W) (fun e=>[(3,true,U e.2),(8,true,.int .i64 (e.1:Int))]) (fun _=>[]) (fun e A=>(e.1<=c.length)∧(e.2=mW 0#32 (dL (c.take e.1)))) (fun e=>c.length-e.1) (0,0#32) [(6,true,_),(7,true,_)] [] ?_ (hF:=⟨fd,by (try dsimp only)<;>(simp [dL,aSt])⟩);rintro ⟨k,x⟩ y q m i j; dsimp only at j m ⊢;obtain ⟨w,ex⟩:=j;have f:=f.mono i;refine zg 6 ?_;refine cz rfl (fun p=>?_) fun p=>?_
 ·refine zg 6 ?_;refine cK rfl f.sl k ?_;obtain ⟨l,a⟩:=cN (k:=k) (xs:=c) om;have g:=f.get a;refine aP rfl ((f.at (k) om a).rd) (zg 6 ?_);refine aL rfl (aSr _ _ _ _ g (by have:=aFO a; omega)) (zg 8 ?_);exact lpo (k+1,mW x l.2) (hF:=⟨fd,by (try dsimp only)<;>(rw [ex,aSs,zX a])⟩)
 refine zg 12 ?_;refine aH ?_;obtain rfl:k=c.length:=by omega
 exact ⟨rfl,by rw [ex,qy]; rfl⟩
theorem aQS (x:W) (G:PM):Ct prog 188 ([U x]:List Value).toArray G [] (fun _ μ' u=>μ'=[]∧u=U (aGi x)):=by
 refine aE func188 ntmps188 fun c a=>?_;refine zg 8 ?_;refine aL rfl (yX _ _ _) (zg 5 ?_);refine aH ?_;exact ⟨rfl,rfl⟩
theorem aSq {a f e g:Nat} {kind:Y} {h:Sh} {p:List Y} (i:PM.le G ((G.add a (cl [V kind] e)).add f (cl [.slice (some ⟨a,0,none⟩) 1 1,h.val p.length] g))) (l:PM.le (G.add a (cl [V kind] e)) ((G.add a (cl [V kind] e)).add f (cl [.slice (some ⟨a,0,none⟩) 1 1,h.val p.length] g))) (k:SlR G 1 aK h p) (r:p.length<=1000000000000000) :
  Ct prog 189 ([.slice (some ⟨f,0,none⟩) 2 2]:List Value).toArray ((G.add a (cl [V kind] e)).add f (cl [.slice (some ⟨a,0,none⟩) 1 1,h.val p.length] g)) [] (fun _ μ' u=>μ'=[]∧u=U (mW 0#32 ([kind]++p))):=by
 have n:SlR (G.add a (cl [V kind] e)) 1 aK ⟨some ⟨a,0,none⟩,1⟩ [kind]:=gQ (T:=e) (bP _ _ _) (fun _ _=>rfl) (by simp);have m:SlP ((G.add a (cl [V kind] e)).add f (cl [.slice (some ⟨a,0,none⟩) 1 1,h.val p.length] g)) ⟨some ⟨f,0,none⟩,2⟩ [(⟨some ⟨a,0,none⟩,1⟩,[kind]),(h,p)] :=
  ⟨gQ (T:=g) (bP _ _ _) (fun _ _=>rfl) (by simp),fun q c=>by
   rcases qg.1 c with rfl | c
   ·exact n.mono l
   ·rw [qf.1 c]; exact k.mono i⟩
 have j:=aJm _ _ _ m (by grind[dL]) (by simp);rw [show dL [((⟨some ⟨a,0,none⟩,1⟩ : Sh),[kind]),(h,p)]=[kind]++p by simp [dL]] at j;exact j
theorem aEm (kind:Y) (p:List Y) (h:Sh) (G:PM) (D:SlR G 1 aK h p) (F:p.length<=1000000000000000):Ct prog 135 ([V kind,h.val p.length]:List Value).toArray G [] (PR 5 (fun L=>L=cY ((aGi (mW 0#32 ([kind]++p))).setWidth 64) 4++cY (BitVec.ofInt 64 (p.length:Int)) 2++[kind])):=by
 refine aE func135 ntmps135 fun K C=>?_;refine zg 8 ?_;refine Go.Tan.b1 rfl (zl rfl) bH (.u rfl) rfl rfl dc fun N=>zg 1 ?_;refine Go.Tan.bN rfl (zl rfl) pK (Evp.cons (.u rfl) (Evp.cons (.u rfl) Evp.nil)) rfl dc (by simp [Value.oneCell',Sh.val]) ?_; intro M;refine cU rfl (Gp.add .here (Gp.add .here Gp.nil)) (fun j E=>aSq j E.1 D F) ?_;refine aL rfl (aQS _ _) (zg 7 ?_);refine aQ rfl (Ct.frzB (nV [] ⟨none,0⟩ _ 4 _ dG (by simp) dc)) ?_;rintro _ J n x ⟨k,l,a,rfl,rfl,f⟩;refine zg 3 ?_;refine aQ rfl (iJ (nV l k _ 2 _ f (by have:=fx0 a; omega) dc)) ?_;rintro A I m w ⟨i,r,e,rfl⟩;refine zg 1 ?_;refine Go.Tan.b1 rfl (zl rfl) bH (.u rfl) rfl rfl dc ?_; intro H;have v:i.length=6:=by have:=fx0 a; have:=fx2 e; omega
 refine dO rfl (zl rfl) bH (.u rfl) (.u rfl) aC (Sc.one .here) (by show _+1<=_; omega) ?_;intro y g q c;have t:g.length=i.length+1:=by rw [c,qa]; first|rfl | simp [bY]
 refine zg 4 ?_;refine aR bJ ?_;exact ⟨g,by rw [c,e,a]; rfl,rfl⟩
theorem aP9:fM prog 242=some (ba 12 (fun _=>0#8)):=by kernel_rfl
theorem bDn:dC prog 236 [0,1,2]=some ([.int .u64 0,.int .u64 0,.int .u64 0],[(0,1),(1,1),(2,1)]):=by kernel_rfl
theorem aL7 (h:Hd) (G:PM):Ct prog 199 ([.agg ([V h.kind,V h.level,uv .u64 h.gen,uv .u64 h.epoch,uv .u64 h.num]:List Value).toArray]:List Value).toArray G [] (fun _ μ' u=>μ'=[]∧u=.bool h.right):=by
 refine aE func199 ntmps199 fun i g=>?_;refine zg 2 ?_;refine bF rfl fun b1=>zg 17 ?_;refine cz rfl (fun f=>?_) fun f=>?_
 ·refine zg 9 ?_;refine aH ?_;exact ⟨rfl,congrArg Value.bool (aIU f).symm⟩
 refine zg 7 ?_;refine .cond rfl (gU fun c e=>?_) (lB fun e=>?_)
 ·refine zg 2 ?_;refine vQ rfl c (zg 14 ?_);refine aH ?_;exact ⟨rfl,congrArg Value.bool (aQO e).symm⟩
 refine zg 5 ?_;refine cz rfl (fun a=>?_) fun a=>?_
 ·refine zg 14 ?_;refine aH ?_;exact ⟨rfl,congrArg Value.bool (aQP a).symm⟩
 refine zg 9 ?_;refine aH ?_;exact ⟨rfl,congrArg Value.bool (aQN e f a).symm⟩
theorem aE1 (n:BitVec 64) (G:PM):Ct prog 134 ([uv .u64 n]:List Value).toArray G [] (fun _ μ' u=>μ'=[]∧u=.agg (ba 12 (jA n)).toArray):=by
 refine aE func134 ntmps134 fun q j=>?_;refine zg 2 ?_;refine al rfl aP9 fun b2=>zg 4 ?_;refine al rfl aP9 fun b3=>zg 9 ?_;refine lop (α:=Nat×(Nat->Y)) (fun a=>[(5,true,.int .i64 (a.1:Int))]) (fun a=>[.blk b3 (cl (ba 12 a.2) 242)]) (fun a v=>(a.1<=8)∧(a.2=jL (jA n) a.1)) (fun a=>8-a.1) (0,fun _=>0#8) [(0,true,_),(2,true,_),(3,true,_)] [_] ?_;rintro ⟨k,f⟩ t p e g c; dsimp only at c e ⊢;obtain ⟨r,h⟩:=c;refine zg 6 ?_;refine cz rfl (fun m=>?_) fun m=>?_
 ·refine zg 15 ?_;refine pG (k:=.u64) rfl .no (.u rfl) (.u rfl) om (zg 2 ?_);refine cB rfl .here (by first|decide|(simp only [dB,cF,cA]; omega)) (by first|exact fG (k) om|exact mU (k) om|exact vD (k) om om|rfl) (zg 7 ?_);exact lpo (k+1,bM f k ((n >>> (8*k)).setWidth 8)) (hF:=⟨fd,aCJ h (by unfold jA; rw [if_pos om])⟩)
 refine zg 12 ?_;refine jH ?_;obtain rfl:k=8:=by omega
 exact ⟨rfl,by rw [h,mT (fun i l=>aXc n l)]; rfl⟩
theorem wP (h:Hd) (G:PM):Ct prog 80 ([.agg ([V h.kind,V h.level,uv .u64 h.gen,uv .u64 h.epoch,uv .u64 h.num]:List Value).toArray]:List Value).toArray G [] (PR 5 (fun L=>L=bG h)):=by
 refine aE func80 ntmps80 fun O H=>?_;refine zg 2 ?_;refine bF rfl fun b1=>zg 5 ?_;refine Go.Tan.bN rfl (zl rfl) bH (Evp.cons (.u rfl) (Evp.cons (.u rfl) (Evp.cons (.u rfl) (Evp.cons (.u rfl) Evp.nil)))) rfl dc (by simp [Value.oneCell',Sh.val]) ?_; intro S;refine mkS [116#8,97#8,110#8,116#8] rfl rfl aP4 (.u rfl) .here rfl rfl dc fun Z I m=>zg 4 ?_;refine Go.Tan.bN rfl (zl rfl) bH (Evp.cons (.u rfl) (Evp.cons (.u rfl) Evp.nil)) rfl dc (qC rfl rfl) ?_; intro K;refine apF (.inr rfl) rfl (zl rfl) bH (.u rfl) (.u rfl) m rfl (Sc.blk (ys:=[h.kind,h.level]) .here rfl rfl) (by (try simp only [dX]); omega) (by (try simp only [dX]); omega) (by (try simp only [dX]); omega) ?_; intro F r y c;have A:r.length=[116#8,97#8,110#8,116#8].length+2:=by rw [c,qa]; first|rfl | simp [bY]
 refine zg 12 ?_;refine bC rfl .no bDn (.cons (.u rfl) rfl (.cons (.u rfl) rfl (.cons (.u rfl) rfl .nil))) rfl (zg 4 ?_);refine lop (α:=Nat×Value×List Y) (fun a=>[(3,true,a.2.1),(21,true,.int .i64 (a.1:Int))]) (fun a=>[rB a.2.1 5 a.2.2]) (fun a X=>(a.1<=3)∧(a.2.2=h.some a.1)) (fun a=>3-a.1) (0,_,_) [(20,true,_)] [_,_] ?_ (hF:=⟨fd,by (try dsimp only)<;>(rw [c]; rfl)⟩);rintro ⟨k,v,L⟩ T M n D g; dsimp only at g n ⊢;obtain ⟨Q,p⟩:=g;have P:L.length=6+8*k:=by rw [p,Hd.some_len]
 refine zg 6 ?_;refine cz rfl (fun J=>?_) fun J=>?_
 ·refine zg 6 ?_;refine ix rfl .no (zr rfl) (za rfl) (.u rfl) (.u rfl) om om (fun _=>aQR om) (zg 3 ?_);refine lJ .here ?_; intro t C j f e; subst f;refine zg 3 ?_;refine aQ rfl (iJ (nV _ _ _ _ _ e om dc)) ?_;rintro l N w E ⟨q,x,i,rfl⟩;refine zg 8 ?_;exact lpo (k+1,l,q) (hF:=⟨fd,by (try dsimp only)<;>(rw [i,p,aIV]; rfl)⟩)
 refine zg 12 ?_;refine aR bJ ?_;obtain rfl:k=3:=by omega
 exact ⟨L,by rw [p,aQQ],rfl⟩
theorem aWq {b:Nat} {i h1:Sh} {a e:List Y} (c:PM.le G (G.add b (cl [h1.val e.length] T))) (f:SlR G 1 aK i a) (j:SlR G 1 aK h1 e) (k:RdNP G 0 0 (wa 64 kW)) (g:a.length<=140737488351232) (l:e.length<=1000000000000000) :
  Ct prog 244 ([i.val a.length,.slice (some ⟨b,0,none⟩) 1 1]:List Value).toArray (G.add b (cl [h1.val e.length] T)) [] (fun _ μ' u=>μ'=[]∧u=.agg (ba 32 (wM a e)).toArray):=by
 have h:=aGe _ i _ _ _ (f.mono c) (SlP.one c j) (k.mono c) g (by simp_all[dL]) (by simp);rw [show dL [(h1,e)]=e by simp [dL]] at h;exact h
theorem aPt (a:List Y) (g:Sh) (xs:List Y) (h:Sh) (G:PM) (c:SlR G 1 aK g a) (j:SlR G 1 aK h xs) (l:RdNP G 0 0 (wa 64 kW)) (e:a.length<=140737488351232) (k:xs.length<=1000000000000000):Ct prog 245 ([g.val a.length,h.val xs.length]:List Value).toArray G [] (fun _ μ' u=>μ'=[]∧u=.agg (ba 32 (wM a xs)).toArray):=by
 refine aE func245 ntmps245 fun m i=>?_;refine zg 2 ?_;refine al rfl kX fun b4=>zg 6 ?_;refine Go.Tan.b1 rfl (zl rfl) pK (.u rfl) rfl rfl dc ?_; intro p;refine cU rfl (Gp.add .here Gp.nil) (fun f n=>aWq f c j l e k) (zg 4 ?_);refine jH ?_;exact ⟨rfl,rfl⟩
theorem SlP.three {b:Nat} {h1 h2 h3:Sh} {f e c:List Y} (a:PM.le G (G.add b (cl [h1.val f.length,h2.val e.length,h3.val c.length] T))) (j:SlR G 1 aK h1 f) (h:SlR G 1 aK h2 e) (g:SlR G 1 aK h3 c) :
  SlP (G.add b (cl [h1.val f.length,h2.val e.length,h3.val c.length] T)) ⟨some ⟨b,0,none⟩,3⟩ [(h1,f),(h2,e),(h3,c)] :=
 ⟨gQ (T:=T) (bP _ _ _) (fun _ _=>rfl) (by simp),fun p i=>by
  simp only [qg,qj,or_false] at i;rcases i with rfl|rfl|rfl
  ·exact j.mono a
  ·exact h.mono a
  ·exact g.mono a⟩
theorem aWr {b c n E lo:Nat} {l g s:Sh} {e a L:List Y} {y:Y} (j:SlR G 1 aK l e) (i:SlR G 1 aK g a) (w:RdNP G 0 0 (wa 64 kW)) (t:lo<=L.length) (k:e.length<=140737488351232) (F:L.length+a.length<=100000000000000) :
  Ct prog 244 ([l.val e.length,.slice (some ⟨c,0,none⟩) 3 3]:List Value).toArray G [rB (s.val L.length) E L,.blk b (cl [V y] T),.blk c (cl [(s.cut lo 1).val (L.length-lo),g.val a.length,.slice (some ⟨b,0,none⟩) 1 1] n)]
   (fun _ μ' u=>∃ ν,μ'=rB (s.val L.length) E L :: ν∧∃ ν2,ν=.blk b (cl [V y] T) :: ν2∧∃ ν3,ν2=.blk c (cl [(s.cut lo 1).val (L.length-lo),g.val a.length,.slice (some ⟨b,0,none⟩) 1 1] n) :: ν3∧ν3=[]∧u=.agg (ba 32 (wM e (L.drop lo++a++[y]))).toArray) :=
 aA8 (fun D p f q r=>aIH (fun h1=>aIH (fun h2=>by
  obtain rfl:=aQX q;have C:SlR p 1 aK (s.cut lo 1) (L.drop lo):=by
   have:=r.cutn (lo:=lo) (m:=L.length-lo) om;simp_all[qz]
  have A:SlR (p.add b (cl [V y] T)) 1 aK ⟨some ⟨b,0,none⟩,1⟩ [y]:=gQ (T:=T) (bP _ _ _) (fun _ _=>rfl) (by simp);have x:L.length-lo=(L.drop lo).length:=by simp
  rw [x] at h2 ⊢;have v:=SlP.three (h1:=s.cut lo 1) (h2:=g) (h3:=⟨some ⟨b,0,none⟩,1⟩) h2 (C.mono h1) ((i.mono f).mono h1) A;have h:=aGe _ l _ _ _ (((j.mono f).mono h1).mono h2) v (((w.mono f).mono h1).mono h2) k (by grind[dL]) (by simp);rw [show dL [((s.cut lo 1),L.drop lo),(g,a),((⟨some ⟨b,0,none⟩,1⟩ : Sh),[y])]=L.drop lo++a++[y] by simp [dL]] at h;exact h)))
theorem aPs (e:List Y) (S:Sh) (c:List Y) (Q:Sh) (G:PM) (k:SlR G 1 aK S e) (i:SlR G 1 aK Q c) (m:RdNP G 0 0 (wa 64 kW)) (Z:e.length<=1000) (hl:c.length<=1000000):Ct prog 246 ([S.val e.length,Q.val c.length,.int .i64 ((64:Nat):Int)]:List Value).toArray G [] (fun G' μ' u=>∃ s L,L=wC e c 2∧μ'=[]∧u=.tuple #[s.val L.length,.int .i64 0]∧SlR G' 1 aK s L):=by
 refine aE func246 ntmps246 fun w0 X=>?_;refine zg 24 ?_;refine mkY (0) ((64+32)) rfl (zl rfl) bH (.u rfl) (.u rfl) (by first|rfl|omega) (by first|rfl|omega) om om ?_; intro a3;have N:(xl (0) (0#8:Y)).length=0:=zy;refine zg 10 ?_;refine lop (α:=Nat×Value×List Y) (fun f=>[(8,true,f.2.1),(9,true,V (qb 8 (f.1+1)))]) (fun f=>[rB f.2.1 5 f.2.2]) (fun f Gl=>(f.1<=2)∧(f.2.2=wC e c f.1)) (fun f=>2-f.1) (0,_,_) [(0,true,_),(1,true,_),(2,true,_)] [] ?_ (hF:=⟨fd,by (try dsimp only)<;>rfl⟩);rintro ⟨j,v,L⟩ N0 a5 C p r; dsimp only at r C ⊢;obtain ⟨hj,E⟩:=r;refine aW p k i m fun k i m=>?_;have lL:L.length=32*j:=by rw [E,aDa]
 refine zg 4 ?_;refine lr rfl .no (zn rfl) (.u rfl) .here (zg 4 ?_);refine cz rfl (fun c2=>?_) fun c2=>?_
 ·refine zg 5 ?_;refine vE .here ?_; intro K F a A y; subst a;refine zg 4 ?_;refine lr rfl .no (zn rfl) (.u rfl) .here (zg 1 ?_);refine mAq ((32*j-32:Nat):Int) rfl (.u rfl) (.u rfl) (by split<;>omega) ?_;refine sd rfl .no aBC (.u rfl) (.u rfl) om om (zg 2 ?_);refine Go.Tan.b1 rfl (zl rfl) bH (.u rfl) rfl rfl dc ?_; intro a2;refine Go.Tan.bN rfl (zl rfl) pK (Evp.cons (.u rfl) (Evp.cons (.u rfl) (Evp.cons (.u rfl) Evp.nil))) rfl dc (by simp [Value.oneCell',Sh.val]) ?_; intro a1;refine aJ rfl (fC aF aC .here) (aWr (lo:=32*j-32) k i m om om om) ?_;rintro _ a6 J q ⟨_,rfl,_,rfl,_,rfl,rfl,rfl⟩;have m:=m.mono q;refine al rfl kX fun a4=>zg 5 ?_;refine rQ rfl .no (zr rfl) (.u rfl) (dO rfl (zl rfl) bH (.u rfl) (.u rfl) aC (Sc.arr .here) (by (try simp only [cA,bY]); omega) ?_);intro x w M h;have P:w.length=L.length+32:=by rw [h,qa]; first|rfl | simp [bY]
  refine zg 9 ?_;exact lpo (j+1,x,w) (hE:=(gH rfl (bE rfl (by show V (qb 8 (j+1)+1#8)=_; rw [← vw]) es))) (hF:=⟨fd,by (try dsimp only)<;>(rw [h,E,aUF]; rfl)⟩)
 refine zg 6 ?_;refine lJ .here ?_; intro I T g a l; subst a;have m:=m.mono g;refine zg 4 ?_;refine kM 64 rfl aBC l (.u rfl) (.u rfl) (.u rfl) om fun D H t O n=>zg 5 ?_;refine aH ?_;obtain rfl:j=2:=by omega
 exact ⟨D,H,by rw [t,E]; exact qz (by rw [aDa]; omega),rfl,rfl,n⟩
theorem aP8:fM prog 239=some (ba 32 (fun _=>0#8)++ba 32 (fun _=>0#8)):=by kernel_rfl
theorem bDo:dC prog 239 [0,1]=some (ba 32 (fun _=>0#8)++ba 32 (fun _=>0#8),[(0,32),(32,32)]):=by kernel_rfl
theorem aPp (root:Nat->Y) (f:List Y) (F:Sh) (G:PM) (c:SlR G 1 aK F f) (h:RdNP G 0 0 (wa 64 kW)) (X:f.length<=1000000):Ct prog 187 ([.agg (ba 32 root).toArray,F.val f.length]:List Value).toArray G [] (fun _ μ' u=>μ'=[]∧u=.agg (ba 32 (fN root f)++ba 32 (fO root f)).toArray):=by
 refine aE func187 ntmps187 fun w0 T=>?_;refine zg 2 ?_;refine bF rfl ?_; intro b2;refine al rfl aP8 fun b4=>zg 3 ?_;refine dN aC ?_; intro S t a;refine bB t c h fun c h=>?_;refine zg 1 ?_;refine Go.Tan.bN rfl (zl rfl) bH (Evp.cons (.u rfl) (Evp.cons (.u rfl) (Evp.cons (.u rfl) (Evp.cons (.u rfl) (Evp.cons (.u rfl) (Evp.cons (.u rfl) (Evp.cons (.u rfl) (Evp.cons (.u rfl) Evp.nil)))))))) rfl dc (by simp [Value.oneCell',Sh.val]) ?_; intro b8;refine mkS aNi rfl rfl aP4 (.u rfl) .here rfl rfl dc ?_; intro G9 I H;refine aW I c h a fun c h a=>?_;refine kA rfl .no (zr rfl) (.u rfl) a (by first|exact pQ|exact nZ|exact app_r) ?_; intro a2 a4 D P w;refine aL rfl (aPt _ _ _ _ _ H w h dc om) ?_;refine al rfl kX fun b5=>zg 4 ?_;refine dN .here ?_; intro Q r g;refine aW r c h a fun c h a=>?_;refine zg 1 ?_;refine kA rfl .no (zr rfl) (.u rfl) g (by first|exact pQ|exact nZ|exact app_r) fun J a3 C O v=>zg 1 ?_;refine aQ rfl (aPs _ J _ F _ v c h om X) ?_;rintro _ a5 M x ⟨a1,E,q,rfl,rfl,p⟩;refine aW x h a g fun h a g=>?_;refine zg 4 ?_;have N:E.length=64:=by rw [q,aDa]
 refine zg 4 ?_;refine aY (mc:=⟨false,false⟩) [0,1,2,3,4,5,6,7,8,9] aO kr (zg 1 ?_);refine kE (32) rfl .no (zl rfl) p (.u rfl) (.u rfl) om om ?_;intro a0 L A k n;have k:=k rfl;refine spS rfl .no (zr rfl) n (.u rfl) om dc ?_;refine aT rfl ((n.arr (m:=32) om).rd) (cF _ _) (zg 1 ?_);refine kD (32) rfl .no (zl rfl) p (.u rfl) (.u rfl) om om ?_;intro Z K y j l;have j:=j rfl;refine spS rfl .no (zr rfl) l (.u rfl) om dc ?_;refine aT rfl ((l.arr (m:=32) om).rd) (cF _ _) ?_;refine fU (ba 32 (fun i=>L.getD i 0)++ba 32 (fun i=>K.getD i 0)) rfl .no bDo (.cons (.u rfl) rfl (.cons (.u rfl) rfl .nil)) rfl (aV2 dc _ _) ?_;refine dF rfl .here (by first|exact qE|exact qL|rfl) (aLP _ _) (zg 3 ?_);refine jH ?_;have e:E=aDQ root f:=by rw [q,C,D]; rfl
 exact ⟨rfl,congrArg (fun z=>Value.agg (List.toArray z)) (aV0 e A y)⟩
theorem aEz (root:Nat->Y) (h:Hd) (G:PM) (e:RdNP G 0 0 (wa 64 kW)):Ct prog 133 ([.agg (ba 32 root).toArray,.agg ([V h.kind,V h.level,uv .u64 h.gen,uv .u64 h.epoch,uv .u64 h.num]:List Value).toArray]:List Value).toArray G [] (fun _ μ' u=>μ'=[]∧u=.agg (ba 32 (fN root (bG h))++ba 32 (fO root (bG h))).toArray):=by
 refine aE func133 ntmps133 fun k i=>?_;refine zg 2 ?_;refine bF rfl ?_; intro b2;refine bF rfl ?_; intro b3;refine al rfl aP8 fun b4=>zg 3 ?_;refine aY (mc:=⟨false,false⟩) [0,1,2,3,4] aO kr (zg 2 ?_);refine aQ rfl (Ct.frzB (wP _ _)) ?_;rintro _ m g f ⟨j,l,a,rfl,rfl,c⟩;have e:=e.mono f;refine aL rfl (aPp _ _ j _ c e (by rw [a,jI]; decide)) ?_;refine dF rfl .here (by first|exact qE|exact qL|rfl) (aLP _ _) (zg 3 ?_);refine jH ?_;subst a;exact ⟨rfl,rfl⟩
theorem aPB (root:Nat->Y) (h:Hd) (n:BitVec 64) (p:List Y) (hp:Sh) (G:PM) (hs:SlR G 1 aK hp p) (H:RdNP G 0 0 (wa 64 kW)):Ct prog 81 ([.agg (ba 32 root).toArray,.agg ([V h.kind,V h.level,uv .u64 h.gen,uv .u64 h.epoch,uv .u64 h.num]:List Value).toArray,uv .u64 n,hp.val p.length]:List Value).toArray G [] (fun _ μ' u=>∃ v L e,(L,e)=mZ root h n p∧μ'=[rB v 5 L]∧u=.tuple #[v,.int .i64 e]):=by
 refine aE func81 ntmps81 fun w0 e7=>?_;refine zg 2 ?_;refine bF rfl ?_; intro b4;refine bF rfl fun b5=>zg 12 ?_;refine .cond rfl (aD fun c1=>?_) (aD fun c1=>?_)
 ·refine zg 7 ?_;refine oR 5 ?_;refine aR bJ ?_;exact ⟨_,[],4,aWP om,rfl,rfl⟩
 refine zg 3 ?_;refine aY (mc:=⟨false,false⟩) [0,1,3,5,7,2,4,6,8,9] aO kr (zg 5 ?_);refine aL rfl (aEz root h _ H) ?_;refine aL rfl (aE1 _ _) ?_;refine aQ rfl (Ct.frzB (wP h _)) ?_;rintro _ f6 e2 c9 ⟨d8,d9,a7,rfl,rfl,c6⟩;refine bB c9 hs H fun hs H=>?_;refine aQ rfl (iJ (aIb (fN root (bG h)) (fO root (bG h)) (jA n) d9 d8 p hp _ c6 hs H (by rw [a7,jI]; decide) om)) ?_;rintro e6 f5 e1 c8 ⟨T,e3,a6,rfl⟩;have H:=H.mono c8;refine zg 2 ?_;have e4:T.length=p.length+16:=by rw [a6,uY]
 refine zg 2 ?_;refine lJ .here ?_; intro e0 e5 a4 b8 a9; subst b8;have H:=H.mono a4;refine zg 6 ?_;refine aA3 5 (zg 5 ?_);refine lop (α:=Nat×Sh×List Y×Value×List Y) (fun I=>[(10,true,I.2.1.val I.2.2.1.length),(11,true,I.2.2.2.1),(12,true,.bool (decide (I.1=0)))]) (fun I=>[rB I.2.2.2.1 5 I.2.2.2.2]) (fun I Gl=>(SlR Gl 1 aK I.2.1 I.2.2.1)∧(I.2.2.1=T.drop (128*I.1))∧(I.2.2.2.2=rM T I.1)∧(128*I.1<=T.length+127)) (fun I=>I.2.2.1.length) (0,_,_,.slice none 0 0,[]) [] [_,_] ?_ (hF:=⟨a9,by (try dsimp only)<;>rfl,by (try dsimp only)<;>rfl,fd⟩);rintro ⟨j,r,M,v,O⟩ N0 f3 d7 c7 d0; dsimp only at d0 d7 ⊢;obtain ⟨F,eM,eO,hj⟩:=d0;have H:=H.mono c7;have lM:M.length=T.length-128*j:=by rw [eM]; simp
 have d4:=aG6 T j;rw [← eO] at d4;refine zg 8 ?_;refine .cond rfl (aD fun c2=>?_) (aD fun c2=>?_)
 ·refine zg 8 ?_;refine rD (M.length) (128) rfl .no (.u rfl) (.u rfl) om om (zg 28 ?_);refine .cond rfl (aD fun c3=>?_) (aD fun c3=>?_)
  ·refine zg 6 ?_;refine aY (mc:=⟨false,false⟩) [0,1,2,3,4,7,8,9,5,6,10,11] aO kr (zg 4 ?_);refine kE ((min M.length 128)) rfl .no (zl rfl) F (.u rfl) (.u rfl) om om ?_;intro N S A i c;have i:=i rfl;refine zg 2 ?_;refine kE ((min M.length 128)) rfl .no (zl rfl) F (.u rfl) (.u rfl) om om ?_;intro b6 Q y g a;have g:=g rfl;refine aQ rfl (Ct.frzB (aEm 1#8 S N _ c om)) ?_;rintro _ b9 X w ⟨b7,E,m,rfl,rfl,t⟩;refine bA w H F c a fun H F c a=>?_;have a3:E.length=7:=by rw [m]; exact aBo _ _
   refine dO rfl (zl rfl) bH (.u rfl) (.u rfl) .here t.sc (by (try simp only [cA,bY]); omega) ?_;intro a8 D a0 l;have a2:D.length=O.length+E.length:=by rw [l,qa]
   refine dO rfl (zl rfl) bH (.u rfl) (.u rfl) .here a.sc (by (try simp only [cA,bY]); omega) ?_;intro J C Z k;have a1:C.length=D.length+Q.length:=by rw [k,qa]
   refine zg 6 ?_;refine kD ((min M.length 128)) rfl .no (zl rfl) F (.u rfl) (.u rfl) om om ?_;intro K P x f q;have f:=f rfl;refine zg 7 ?_;exact lpo (j+1,K,P,J,C) (hE:=(gH rfl (gH rfl (bE rfl (by simp) eZ)))) (hF:=⟨q,by (try dsimp only)<;>(rw [x,eM]; exact aDU),aEU eO eM A y m l k (aWA om om),fd⟩)
  refine zg 6 ?_;refine .cond rfl (aD fun c4=>?_) (aD fun c4=>?_)
  ·refine zg 6 ?_;refine aY (mc:=⟨false,false⟩) [0,1,2,3,4,7,8,9,5,6,10,11] aO kr (zg 4 ?_);refine kE ((min M.length 128)) rfl .no (zl rfl) F (.u rfl) (.u rfl) om om ?_;intro N S A i c;have i:=i rfl;refine zg 2 ?_;refine kE ((min M.length 128)) rfl .no (zl rfl) F (.u rfl) (.u rfl) om om ?_;intro b6 Q y g a;have g:=g rfl;refine aQ rfl (Ct.frzB (aEm 2#8 S N _ c om)) ?_;rintro _ b9 X w ⟨b7,E,m,rfl,rfl,t⟩;refine bA w H F c a fun H F c a=>?_;have a3:E.length=7:=by rw [m]; exact aBo _ _
   refine dO rfl (zl rfl) bH (.u rfl) (.u rfl) .here t.sc (by (try simp only [cA,bY]); omega) ?_;intro a8 D a0 l;have a2:D.length=O.length+E.length:=by rw [l,qa]
   refine dO rfl (zl rfl) bH (.u rfl) (.u rfl) .here a.sc (by (try simp only [cA,bY]); omega) ?_;intro J C Z k;have a1:C.length=D.length+Q.length:=by rw [k,qa]
   refine zg 6 ?_;refine kD ((min M.length 128)) rfl .no (zl rfl) F (.u rfl) (.u rfl) om om ?_;intro K P x f q;have f:=f rfl;refine zg 7 ?_;exact lpo (j+1,K,P,J,C) (hE:=(gH rfl (gH rfl (bE rfl (by simp) eZ)))) (hF:=⟨q,by (try dsimp only)<;>(rw [x,eM]; exact aDU),aEU eO eM A y m l k (aV9 om om),fd⟩)
  refine zg 6 ?_;refine .cond rfl (aD fun c5=>?_) (aD fun c5=>?_)
  ·refine zg 6 ?_;refine aY (mc:=⟨false,false⟩) [0,1,2,3,4,7,8,9,5,6,10,11] aO kr (zg 4 ?_);refine kE ((min M.length 128)) rfl .no (zl rfl) F (.u rfl) (.u rfl) om om ?_;intro N S A i c;have i:=i rfl;refine zg 2 ?_;refine kE ((min M.length 128)) rfl .no (zl rfl) F (.u rfl) (.u rfl) om om ?_;intro b6 Q y g a;have g:=g rfl;refine aQ rfl (Ct.frzB (aEm 4#8 S N _ c om)) ?_;rintro _ b9 X w ⟨b7,E,m,rfl,rfl,t⟩;refine bA w H F c a fun H F c a=>?_;have a3:E.length=7:=by rw [m]; exact aBo _ _
   refine dO rfl (zl rfl) bH (.u rfl) (.u rfl) .here t.sc (by (try simp only [cA,bY]); omega) ?_;intro a8 D a0 l;have a2:D.length=O.length+E.length:=by rw [l,qa]
   refine dO rfl (zl rfl) bH (.u rfl) (.u rfl) .here a.sc (by (try simp only [cA,bY]); omega) ?_;intro J C Z k;have a1:C.length=D.length+Q.length:=by rw [k,qa]
   refine zg 6 ?_;refine kD ((min M.length 128)) rfl .no (zl rfl) F (.u rfl) (.u rfl) om om ?_;intro K P x f q;have f:=f rfl;refine zg 7 ?_;exact lpo (j+1,K,P,J,C) (hE:=(gH rfl (gH rfl (bE rfl (by simp) eZ)))) (hF:=⟨q,by (try dsimp only)<;>(rw [x,eM]; exact aDU),aEU eO eM A y m l k (aWB om om),fd⟩)
  refine zg 4 ?_;refine aY (mc:=⟨false,false⟩) [0,1,2,3,4,7,8,9,5,6,10,11] aO kr (zg 4 ?_);refine kE ((min M.length 128)) rfl .no (zl rfl) F (.u rfl) (.u rfl) om om ?_;intro N S A i c;have i:=i rfl;refine zg 2 ?_;refine kE ((min M.length 128)) rfl .no (zl rfl) F (.u rfl) (.u rfl) om om ?_;intro b6 Q y g a;have g:=g rfl;refine aQ rfl (Ct.frzB (aEm 3#8 S N _ c om)) ?_;rintro _ b9 X w ⟨b7,E,m,rfl,rfl,t⟩;refine aW w H F a fun H F a=>?_;have a3:E.length=7:=by rw [m]; exact aBo _ _
  refine dO rfl (zl rfl) bH (.u rfl) (.u rfl) .here t.sc (by (try simp only [cA,bY]); omega) ?_;intro a8 D a0 l;have a2:D.length=O.length+E.length:=by rw [l,qa]
  refine dO rfl (zl rfl) bH (.u rfl) (.u rfl) .here a.sc (by (try simp only [cA,bY]); omega) ?_;intro J C Z k;have a1:C.length=D.length+Q.length:=by rw [k,qa]
  refine zg 6 ?_;refine kD ((min M.length 128)) rfl .no (zl rfl) F (.u rfl) (.u rfl) om om ?_;intro K P x f q;have f:=f rfl;refine zg 7 ?_;exact lpo (j+1,K,P,J,C) (hE:=(gH rfl (gH rfl (bE rfl (by simp) eZ)))) (hF:=⟨q,by (try dsimp only)<;>(rw [x,eM]; exact aDU),aEU eO eM A y m l k (aWC om om),fd⟩)
 refine zg 13 ?_;refine aR bJ ?_;exact ⟨v,O,0,aWO om (by rw [a6,a7]) eO om,rfl,rfl⟩
theorem zL:bsT prog 148 9=true:=by kernel_rfl
theorem aFg (n:BitVec 64) (G:PM) (w:n.toNat<10):Ct prog 169 ([uv .u64 n]:List Value).toArray G [] (fun _ μ' u=>μ'=[]∧u=.string (aV (rU n.toNat))):=by
 refine aE func169 ntmps169 fun H y=>?_;refine zg 6 ?_;refine aA3 5 (zg 6 ?_);refine lop (α:=Nat×Value) (fun g=>[(0,true,uv .u64 (sS n g.1)),(3,true,g.2)]) (fun g=>[rB g.2 5 (dgs n.toNat g.1)]) (fun g L=>(g.1<=6)) (fun g=>6-g.1) (0,.slice none 0 0) [] [] ?_;rintro ⟨k,v⟩ K F r x j; dsimp only at j r ⊢;have A:=j;have J:=aTI (d:=n.toNat) A; have I:k=0∨@BitVec.toNat IntKind.u64.bits (sS n k)=0:=(jy k).imp id aTH;refine zg 7 ?_;refine lr rfl (.f rfl rfl) (zn rfl) (.s rfl) .here (zg 4 ?_);refine .cond rfl (aD fun C=>?_) (aD fun C=>?_)
 ·refine zg 4 ?_;refine vE .here ?_; intro p m e i c; subst e;refine zg 2 ?_;refine mw (k:=.u64) (b:=10#64) rfl .no (.u rfl) (.u rfl) (fun _=>show (10#64:BitVec 64)≠0#64 by decide) ?_;refine bw (k:=.u64) (a:=48#64) rfl .no rfl (.u rfl) (.u rfl) rfl (zg 1 ?_);refine Go.Tan.b1 rfl (zl rfl) bH (.u rfl) rfl rfl dc fun D=>zg 1 ?_;refine apB [_] rfl (zl rfl) bH (.u rfl) rfl rfl (.u rfl) .here (vN aC c) (by show 1+(dgs n.toNat k).length<=_; omega) fun h E t l=>zg 6 ?_;refine dw (k:=.u64) (b:=10#64) rfl .no rfl (.u rfl) (.u rfl) (fun _=>show (10#64:BitVec 64)≠0#64 by decide) (zg 2 ?_);have q:k<6:=by omega
  exact lpo (k+1,h) (hE:=(bE rfl (congrArg (uv .u64) (aTG w)) es)) (hM:=(mS .here (congrArg (rB h 5) (l.trans (aTJ w q))) mN))
 refine zg 6 ?_;refine vE .here ?_; intro p m e i c; subst e;refine zg 2 ?_;refine sB rfl .no zL (.u rfl) (fun _=>(vN .here c)) (zg 4 ?_);refine aH ?_;obtain rfl:k=6:=by omega
 exact ⟨rfl,rfl⟩
theorem sG:(prog.info? 9).bind (·.zero)=some (.string ByteArray.empty):=by kernel_rfl
theorem mP:tJ prog 143=some 150:=by kernel_rfl
theorem xI:(prog.info? 150).bind (·.zero)=some (.agg #[.slice none 0 0,.int .i64 0]):=by kernel_rfl
theorem vJ:fM prog 150=some ([.slice none 0 0,.int .i64 0]):=by kernel_rfl
theorem aEE (k:Y) (n:BitVec 64) (G:PM) (a:n.toNat<10):Ct prog 112 ([V k,uv .u64 n]:List Value).toArray G [] (fun _ μ' u=>μ'=[]∧u=.string (cW k.toNat n.toNat)):=by
 refine aE func112 ntmps112 fun l c=>?_;have e:@BitVec.toNat IntKind.u8.bits k = @BitVec.toNat 8 k:=rfl;refine zg 18 ?_;refine cz rfl (fun j=>?_) fun j=>?_
 ·refine zg 3 ?_;refine aL rfl (aFg _ _ a) ?_;refine sP rfl .no (.u rfl) (.u rfl) (fun _=>by rw [fS]; show 6+4<=9223372036854775807; omega) (zg 4 ?_);refine aH ?_;exact ⟨rfl,congrArg Value.string (aXT om)⟩
 refine zg 6 ?_;refine cz rfl (fun i=>?_) fun i=>?_
 ·refine zg 3 ?_;refine aL rfl (aFg _ _ a) ?_;refine sP rfl .no (.u rfl) (.u rfl) (fun _=>by rw [fS]; show 6+4<=9223372036854775807; omega) (zg 4 ?_);refine aH ?_;exact ⟨rfl,congrArg Value.string (aXU om)⟩
 refine zg 6 ?_;refine cz rfl (fun h=>?_) fun h=>?_
 ·refine zg 3 ?_;refine aL rfl (aFg _ _ a) ?_;refine sP rfl .no (.u rfl) (.u rfl) (fun _=>by rw [fS]; show 9+6<=9223372036854775807; omega) (zg 4 ?_);refine aH ?_;exact ⟨rfl,congrArg Value.string (aXV om)⟩
 refine zg 6 ?_;refine cz rfl (fun g=>?_) fun g=>?_
 ·refine zg 6 ?_;refine aH ?_;exact ⟨rfl,congrArg Value.string (aXW om)⟩
 refine zg 6 ?_;refine cz rfl (fun f=>?_) fun f=>?_
 ·refine zg 6 ?_;refine aH ?_;exact ⟨rfl,congrArg Value.string (aXX om)⟩
 refine zg 9 ?_;refine aH ?_;exact ⟨rfl,congrArg Value.string (aXS om om om om om)⟩
theorem aAN (h:Sh) (l:List ByteArray) (G:PM) (e:SlR G 1 iM h l) (t:l.length<=1000000) (n:∀ s∈l,eN s):Ct prog 190 ([h.val l.length]:List Value).toArray G [] (fun _ μ' u=>μ'=[]∧u=.bool true):=by
 refine aE func190 ntmps190 fun r m=>?_;refine zg 14 ?_;refine lop (α:=Nat) (fun k=>[(7,true,.int .i64 (k:Int))]) (fun _=>[]) (fun k y=>(k<=l.length)) (fun k=>l.length-k) 0 [(5,true,_),(6,true,_)] [] ?_;intro k w q f a c; try dsimp only at c f ⊢
 have v:=c;have e:=e.mono a;refine zg 6 ?_;refine .cond rfl (aD fun p=>?_) (aD fun p=>?_)
 ·refine zg 6 ?_;refine cK rfl e k ?_;obtain ⟨x,ex⟩:=cN (k:=k) (xs:=l) om;have i:=n x (qn ex);refine aP rfl ((e.at om ex 0 _ rfl).rd) (zg 6 ?_);refine cs rfl .no (.u rfl) (.u rfl) rfl (zg 7 ?_);refine .cond rfl (fun g=>by rw [bA8 i.1] at g; have j:=i.2; simp at g; omega) (aD fun g=>?_);refine zg 7 ?_;exact lpo (k+1)
 refine zg 11 ?_;refine aH ?_;exact ⟨rfl,rfl⟩
theorem aES (bd c room done clk:Nat) (F:List Fi) (G:PM) (x:DkR F clk) (r:done<=1000000000) (k:room<=1000000000) (nm:ByteArray) (a:Bool) (h:Sh) (l:List ByteArray) (e:SlR G 1 iM h l) (p:l.length<=1000000) (q:∀ s∈l,eN s) (m:eN nm) (ht:a=true->(aM nm F).isSome=true):Ct prog 136 ([.pointer (some ⟨bd,0,none⟩),.string nm,.bool a,h.val l.length]:List Value).toArray G [.blk bd (cl (bD c room (done)) 145),.blk c (mO ((F).map Fi.fe) (clk))] (fun _ μ' u=>μ'=[.blk bd (cl (bD c room (done)) 145),.blk c (mO ((F).map Fi.fe) (clk))]∧u=.int .i64 0):=by
 refine aE func136 ntmps136 fun t j=>?_;refine zg 19 ?_;refine Go.Tan.b1 rfl (zl rfl) sG (.u rfl) rfl rfl dc ?_; intro g;refine cU rfl (Gp.add .here Gp.nil) (fun n v=>aAN ⟨some ⟨g,0,none⟩,1⟩ [nm] _ (gQ (xs:=[nm]) (bP _ _ _) (fun _ _=>rfl) (qd 1)) (by show 1<=_; omega) (fun s e=>by rw [qf.1 e]; exact m)) (zg 3 ?_);refine kv rfl (.f rfl rfl) (zf rfl) (Eva.cons (.s rfl) cL) (fun w=>aAN _ _ _ e p q) (zg 40 ?_);refine aDu rfl .no mP xI (.u rfl) (.u rfl) (aAa aF) (aGY) (aLc) (zg 3 ?_);refine al rfl vJ fun y=>zg 13 ?_;refine .cond rfl (fun i=>absurd i (by cases a<;>simp_all)) (aD fun i=>?_);refine zg 8 ?_;refine aR (mS aF rfl (mS aF rfl mN)) ?_;exact ⟨rfl,rfl⟩
theorem aAD (bd a room done:Nat) (G:PM) (e:done<=2000000000):Ct prog 138 ([.pointer (some ⟨bd,0,none⟩)]:List Value).toArray G [.blk bd (cl (bD a room done) 145)] (fun _ μ' u=>μ'=[.blk bd (cl (bD a room (done+1)) 145)]∧u=.int .i64 0):=by
 refine aE func138 ntmps138 fun f c=>?_;refine zg 36 ?_;refine aR bJ ?_;exact ⟨rfl,rfl⟩
theorem aNt (bd w room done clk:Nat) (F:List Fi) (G:PM) (m:DkR F clk) (j:PB G bd (cl (bD w room done) 145)) (a:PB G w (mO (F.map Fi.fe) clk)):Ct prog 137 ([.pointer (some ⟨bd,0,none⟩)]:List Value).toArray G [] (fun _ μ' u=>μ'=[]∧u=.int .i64 ((aZ F:Nat):Int)):=by
 refine aE func137 ntmps137 fun K D=>?_;refine zg 24 ?_;refine rgS rfl mP (.u rfl) (yL a.h) fun x=>zg 3 ?_;refine lop (α:=List Nat×Nat) (fun f=>[(3,true,.int .i64 ((mK f.1 F:Nat):Int))]) (fun f=>[.blk x (jJ w clk f.2 f.1)]) (fun f O=>(f.2=clk)) (fun f=>pY f.1 F) ([],clk) [(12,true,_)] [] ?_ (hE:=(bE rfl (by rw [aOV]; rfl) es));rintro ⟨seen,last⟩ I J v k l; dsimp only at l v ⊢;have E:=l;refine bB k j a fun j a=>?_;have C:=aHp (seen:=seen) (F:=F); have H:=m.few; have i:∀ e∈F.map Fi.fe,e.2.2<last:=by rw [E]; exact m.oldE
 refine zg 2 ?_;refine nxS rfl (.u rfl) .here (yL a.h) m.oldE i ?_; intro g c;refine ex rfl .no (.u rfl) (aMV _) (zg 3 ?_);refine .cond rfl (fun A=>?_) (fun A=>?_)
 ·obtain ⟨M,rfl⟩:=Option.isSome_iff_exists.1 A;obtain ⟨p,t,rfl,q,r⟩:=aOU m.nd c;have y:=aHp (seen:=seen++[p.born]) (F:=F);refine zg 5 ?_;refine etS rfl (.u rfl) .here (yL a.h) (aKW m.nd t) (zg 1 ?_);refine al rfl vJ fun N=>zg 8 ?_;refine cJ (((mK seen F+p.n):Nat):Int) rfl om (bL om om) (zg 3 ?_);exact lpo (seen++[p.born],clk) (hE:=(bE rfl (by rw [q]) es)) (hm:=by have L:pY (seen++[p.born]) F+1=pY seen F:=r; show pY (seen++[p.born]) F<I; omega)
 have:g=none:=by cases g<;>simp_all
 subst this;have hE:=aOT c;refine zg 12 ?_;refine aH ?_;exact ⟨rfl,by rw [hE]; rfl⟩
theorem aSz (bd e room done clk:Nat) (F:List Fi) (G:PM) (v:DkR F clk) (r:done<=1000000000) (p:room<=1000000000) (nm:ByteArray) (h:Sh) (xs:List Y) (i:SlR G 1 aK h xs) (K:eN nm) (j:aM nm F=none) (Q:xs.length<=1000000000) (C:xs.length+aZ F<=room):Ct prog 83 ([.pointer (some ⟨bd,0,none⟩),.string nm,h.val xs.length]:List Value).toArray G [.blk bd (cl (bD e room (done)) 145),.blk e (mO ((F).map Fi.fe) (clk))] (fun G' μ' u=>∃ f:Fi,f.nm=nm∧f.n=xs.length∧f.safe=0∧f.born=clk∧SlR G' 1 aK f.h xs∧μ'=[.blk bd (cl (bD e room (done+1)) 145),.blk e (mO ((F++[f]).map Fi.fe) (clk+1))]∧u=.int .i64 0):=by
 refine aE func83 ntmps83 fun P I=>?_;have M:=v.few;refine zg 10 ?_;refine aJ rfl (dS .here .here) (aES bd e room done clk F _ v r p nm false ⟨none,0⟩ [] dG (qr _) (fun s i=>absurd i qj) K (fun h=>absurd h dc)) ?_;rintro _ O x l ⟨rfl,rfl⟩;have i:=i.mono l;refine zg 14 ?_;refine aY (mc:=⟨false,false⟩) [0,1,2,3,4,5,6,7,8,9] aO kr (zg 7 ?_);refine cU rfl (Gp.add aC (Gp.add .here Gp.nil)) (fun L J=>aNt bd e room done clk F _ v ⟨J.1 _ _ (bP _ _ _)⟩ ⟨bP _ _ _⟩) (zg 4 ?_);refine .cond rfl (fun D=>by simp only [decide_eq_true_eq] at D; omega) (aD fun D=>?_);refine zg 9 ?_;refine lkS rfl .no mP xI (.u rfl) (.u rfl) (aAa aC) (aLd j) ?_;refine al rfl vJ fun S=>zg 4 ?_;refine aA3 5 (zg 9 ?_);refine k00 rfl aBC (.u rfl) (.u rfl) (.u rfl) (zg 1 ?_);refine dO rfl (zl rfl) bH (.u rfl) (.u rfl) .here i.sc (by (try simp only [cA,bY]); omega) ?_;intro H g y c;have A:g.length=([]:List Y).length+xs.length:=by rw [c,qa]
 refine zg 1 ?_;refine dE rfl .here aC (by first|(simp [bD,Fi.cells]; done)|decide) rfl (zg 3 ?_);refine lJ aC ?_; intro E t q m a; subst m;refine aY (mc:=⟨false,false⟩) [0,1,2,3,4,5,6] aO kr (zg 6 ?_);refine muS rfl mP (.u rfl) (.u rfl) (.u rfl) aF (aB0 j) (zg 5 ?_);refine aJ rfl (bI aF) (aAD bd e room done _ om) ?_;rintro _ N w k ⟨rfl,rfl⟩;have a:=a.mono k;refine zg 4 ?_;refine aR dD ?_;exact ⟨⟨nm,t,xs.length,0,clk⟩,rfl,rfl,rfl,rfl,by rw [show xs=g by rw [c]; rfl]; exact a,by rw [← aFy]; simp only [Fi.fe,Fi.val,Fi.cells,←show g.length=xs.length by rw [c]; rfl]; rfl,rfl⟩
theorem aS6 (bd a room done clk:Nat) (F:List Fi) (G:PM) (p:DkR F clk) (g:done<=1000000000) (e:room<=1000000000) (nm:ByteArray) (f:Fi) (m:eN nm) (c:aM nm F=some f):Ct prog 139 ([.pointer (some ⟨bd,0,none⟩),.string nm]:List Value).toArray G [.blk bd (cl (bD a room (done)) 145),.blk a (mO ((F).map Fi.fe) (clk))] (fun _ μ' u=>μ'=[.blk bd (cl (bD a room (done+1)) 145),.blk a (mO ((dQ nm F).map Fi.fe) (clk))]∧u=.int .i64 0):=by
 refine aE func139 ntmps139 fun r k=>?_;refine zg 10 ?_;refine aJ rfl (dS .here .here) (aES bd a room done clk F _ p g e nm true ⟨none,0⟩ [] dG (qr _) (fun s l=>absurd l qj) m (fun _=>by rw [c]; rfl)) ?_;rintro _ v j n ⟨rfl,rfl⟩;refine zg 19 ?_;refine lkS rfl .no mP xI (.u rfl) (.u rfl) (aAa aC) (aGX c) ?_;refine al rfl vJ fun t=>zg 13 ?_;refine aY (mc:=⟨false,false⟩) [0,1,2,3,4,5,6] aO kr (zg 6 ?_);refine muT rfl mP (.u rfl) (.u rfl) (.u rfl) aF (aAV c) (zg 5 ?_);refine aJ rfl (bI aF) (aAD _ _ _ _ _ om) ?_;rintro _ q h i ⟨rfl,rfl⟩;refine zg 4 ?_;refine aR dD ?_;exact ⟨by rw [← aL2 c]; rfl,rfl⟩
theorem aS5 (bd c room done clk:Nat) (F:List Fi) (G:PM) (v:DkR F clk) (i:done<=1000000000) (e:room<=1000000000) (nm a:ByteArray) (f:Fi) (t:eN nm) (g:eN a) (h:aM nm F=some f) (j:aM a (eE nm F)=none):Ct prog 126 ([.pointer (some ⟨bd,0,none⟩),.string nm,.string a]:List Value).toArray G [.blk bd (cl (bD c room (done)) 145),.blk c (mO ((F).map Fi.fe) (clk))] (fun _ μ' u=>μ'=[.blk bd (cl (bD c room (done+1)) 145),.blk c (mO ((eE nm F++[{ f with nm:=a,born:=clk }]).map Fi.fe) (clk+1))]∧u=.int .i64 0):=by
 refine aE func126 ntmps126 fun y q=>?_;refine zg 11 ?_;refine Go.Tan.b1 rfl (zl rfl) sG (.u rfl) rfl rfl dc ?_; intro k;refine aJ rfl (fC .here .here .here) (rZ fun _=>aES bd c room done clk F _ v i e nm true ⟨some ⟨k,0,none⟩,1⟩ [a] (gQ (xs:=[a]) (bP _ _ _) (fun _ _=>rfl) (qd 1)) (by show 1<=_; omega) (fun s r=>by rw [qf.1 r]; exact g) t (fun _=>by rw [h]; rfl)) ?_;rintro _ x m p ⟨rfl,rfl⟩;refine zg 19 ?_;refine lkS rfl .no mP xI (.u rfl) (.u rfl) (aAa aC) (aGX h) ?_;refine al rfl vJ fun A=>zg 10 ?_;refine dlS rfl mP (.u rfl) (.u rfl) aF (aAV h) (zg 3 ?_);refine aY (mc:=⟨false,false⟩) [0,1,2,3,4,5,6] aO kr (zg 6 ?_);refine muS rfl mP (.u rfl) (.u rfl) (.u rfl) .here (by rw [aD3]; exact aB0 j) (zg 5 ?_);refine aJ rfl (bI aF) (aAD _ _ _ _ _ om) ?_;rintro _ w l n ⟨rfl,rfl⟩;refine zg 4 ?_;refine aR dD ?_;exact ⟨by rw [← aFy,←aD3]; rfl,rfl⟩
theorem bDf:dC prog 158 []=some ([.int .u64 0,.int .u64 0],[]):=by kernel_rfl
theorem bDe:dC prog 156 [0,1]=some ([.int .u64 0,.int .u64 0],[(0,1),(1,1)]):=by kernel_rfl
theorem bEP:fM prog 156=some ([.int .u64 0,.int .u64 0]):=by kernel_rfl
theorem bD5:eqT prog 2 156 ([.int .u64,.int .u64])=true:=by kernel_rfl
theorem bDd:dC prog 145 [0,1,3]=some ([.map none,.int .i64 0,.bool false,.int .i64 0,.int .i64 0],[(0,1),(1,1),(3,1)]):=by kernel_rfl
theorem tL (G:PM):Ct prog 82 ([.int .i64 0]:List Value).toArray G [] (fun _ μ' u=>μ'=[]∧u=.tuple #[]):=by
 refine aE func82 ntmps82 fun c a=>?_;refine zg 9 ?_;refine aH ?_;exact ⟨rfl,rfl⟩
theorem aAE (b:Bool) (c:b=true) (G:PM):Ct prog 88 ([.bool b]:List Value).toArray G [] (fun _ μ' u=>μ'=[]∧u=.tuple #[]):=by
 subst c;refine aE func88 ntmps88 fun e a=>?_;refine zg 9 ?_;refine aH ?_;exact ⟨rfl,rfl⟩
theorem bCI (G:PM):Ct prog 34 ([]:List Value).toArray G [] (fun _ μ' u=>∃ bt,μ'=[.blk bt (cl [uv .u64 (0),uv .u64 (0)] 158)]∧u=.pointer (some ⟨bt,0,none⟩)):=by
 refine aE func34 ntmps34 fun c a=>?_;refine zg 7 ?_;refine bC rfl .no bDf .nil rfl ?_;refine bF rfl fun b2=>zg 4 ?_;refine aR bJ ?_;exact ⟨b2,rfl,rfl⟩
theorem aB5 (a:Nat) (m o:BitVec 64) (G:PM) (e:PB G a (cl [uv .u64 m,uv .u64 o] 158)):Ct prog 79 ([.pointer (some ⟨a,0,none⟩)]:List Value).toArray G [] (fun _ μ' u=>μ'=[]∧u=uv .u64 m):=by
 refine aE func79 ntmps79 fun f c=>?_;refine zg 26 ?_;refine aH ?_;exact ⟨rfl,rfl⟩
theorem aWw (c:Nat) (m o:BitVec 64) (G:PM) (hm:m.toNat<=1000000):Ct prog 140 ([.pointer (some ⟨c,0,none⟩),uv .u64 (m+1#64)]:List Value).toArray G [.blk c (cl [uv .u64 (m),uv .u64 (o)] 158)] (fun _ μ' u=>μ'=[.blk c (cl [uv .u64 (m+1#64),uv .u64 (o)] 158)]∧u=.int .i64 0):=by
 refine aE func140 ntmps140 fun l i=>?_;have a:@BitVec.toNat IntKind.u64.bits (m+1#64) = @BitVec.toNat 64 m+1:=by show (m+1#64).toNat=_; rw [qaH]; show (m.toNat+1)%2^64=_; omega
 have j:@BitVec.toNat 64 (m+1#64) = @BitVec.toNat 64 m+1:=a;refine zg 23 ?_;refine bC rfl .no bDe (.cons (.u rfl) rfl (.cons (.u rfl) rfl .nil)) rfl ?_;refine al rfl bEP ?_; intro n;refine dF rfl .here rfl (aO5 _ _) (zg 4 ?_);refine aY (mc:=⟨false,false⟩) [0,1,2,3,4,5,6,7,8,9,10,11,12,13,14,15,16,17,18,19] aO kr (zg 3 ?_);refine lA rfl (.f rfl rfl) (za rfl) (.u rfl) (fun _=>RdN.own .here) (fun _=>(by first|exact qE|exact qL|rfl)) (zg 3 ?_);refine lA rfl (.f rfl rfl) (za rfl) (.s rfl) (fun _=>RdN.own aC) (fun _=>(by first|exact qE|exact qL|rfl)) ?_;refine eqC (false) rfl (.f rfl rfl) bD5 (.s rfl) (.s rfl) (fun e=>.u64 (.u64 .nil)) (fun e=>.u64 (.u64 .nil)) (fun e=>⟨fun h=>absurd h dc,fun h=>by have:=aW6 h; omega⟩) (zg 3 ?_);refine bw (k:=.u64) (b:=1#64) rfl (.f rfl rfl) rfl (.s rfl) (.u rfl) rfl (zg 9 ?_);refine .cond rfl (fun g=>(aW7 hm g).elim) (aD fun g=>?_);refine zg 8 ?_;refine dF rfl aC rfl (aO5 _ _) (zg 8 ?_);refine aR bJ ?_;exact ⟨rfl,rfl⟩
theorem bCJ (a:Nat) (m o:BitVec 64) (G:PM) (h:o.toNat<=1000000):Ct prog 63 ([.pointer (some ⟨a,0,none⟩)]:List Value).toArray G [.blk a (cl [uv .u64 (m),uv .u64 (o)] 158)] (fun _ μ' u=>μ'=[.blk a (cl [uv .u64 (m),uv .u64 (o+1#64)] 158)]∧u=.tuple #[uv .u64 (o+1#64),.int .i64 0]):=by
 refine aE func63 ntmps63 fun g e=>?_;have f:@BitVec.toNat IntKind.u64.bits o = @BitVec.toNat 64 o:=rfl;refine zg 27 ?_;refine .cond rfl (fun c=>by have:=of_decide_eq_true c; omega) (aD fun c=>?_);refine zg 28 ?_;refine aR bJ ?_;exact ⟨rfl,rfl⟩
theorem aTY (room:Nat) (G:PM) (f:room<=1000000000):Ct prog 33 ([.int .i64 ((room:Nat):Int)]:List Value).toArray G [] (fun _ μ' u=>∃ bd bm,μ'=[.blk bd (cl (bD bm room 0) 145),.blk bm (mO [] 0)]∧u=.pointer (some ⟨bd,0,none⟩)):=by
 refine aE func33 ntmps33 fun e a=>?_;refine zg 7 ?_;refine mkM rfl fun b3=>zg 1 ?_;refine yK 0 room rfl .no (.u rfl) (.u rfl) (fun _=>rfl) (fun _=>rfl) ?_;refine bC rfl .no bDd (.cons (.u rfl) rfl (.cons (.u rfl) rfl (.cons (.u rfl) rfl .nil))) rfl ?_;refine bF rfl fun c=>zg 4 ?_;refine aR dD ?_;exact ⟨c,b3,by rw [show max 0 room=room by omega]; rfl,rfl⟩
theorem aTA (bd e room done clk:Nat) (F:List Fi) (G:PM) (c:PB G bd (cl (bD e room done) 145)):Ct prog 62 ([.pointer (some ⟨bd,0,none⟩)]:List Value).toArray G [] (fun _ μ' u=>μ'=[]∧u=.bool false):=by
 refine aE func62 ntmps62 fun f a=>?_;refine zg 19 ?_;refine aH ?_;exact ⟨rfl,rfl⟩
theorem aS3 (bd f room done clk:Nat) (F:List Fi) (G:PM) (l:PB G bd (cl (bD f room done) 145)) (c:PB G f (mO (F.map Fi.fe) clk)) (nm:ByteArray) (j:eN nm) (a:aM nm F=none):Ct prog 168 ([.pointer (some ⟨bd,0,none⟩),.string nm]:List Value).toArray G [] (fun _ μ' u=>μ'=[]∧u=.tuple #[.slice none 0 0,.int .i64 2]):=by
 refine aE func168 ntmps168 fun m g=>?_;refine zg 19 ?_;refine Go.Tan.b1 rfl (zl rfl) sG (.u rfl) rfl rfl dc ?_; intro e;refine cU rfl (Gp.add .here Gp.nil) (fun k n=>aAN ⟨some ⟨e,0,none⟩,1⟩ [nm] _ (gQ (xs:=[nm]) (bP _ _ _) (fun _ _=>rfl) (qd 1)) (by show 1<=_; omega) (fun s i=>by rw [qf.1 i]; exact j)) (zg 25 ?_);refine aDu rfl .no mP xI (.u rfl) (.u rfl) (yL c.h) (aLd a) (aWg a) (zg 3 ?_);refine al rfl vJ fun p=>zg 19 ?_;refine aH ?_;exact ⟨rfl,rfl⟩
theorem bA2 (a b:Meta) (G:PM) (f:0<=a.level):Ct prog 157 ([a.val,b.val]:List Value).toArray G [] (fun _ μ' u=>μ'=[]∧u=.bool (wT a.level a b)):=by
 refine aE func157 ntmps157 fun h g=>?_;refine zg 2 ?_;refine bF rfl ?_; intro b2;refine bF rfl fun b3=>zg 11 ?_;refine .cond rfl (fun e=>?_) (fun e=>?_)
 ·have c:=e;try simp only [bW] at e
  refine zg 11 ?_;refine aH ?_;exact ⟨rfl,congrArg Value.bool (by rw [← aN8 _ _ f,if_pos c])⟩
 have c:=e;try simp only [bW] at e
 refine zg 8 ?_;refine cs rfl .no (.u rfl) (.u rfl) rfl (zg 4 ?_);refine aH ?_;exact ⟨rfl,congrArg Value.bool (by rw [← aN8 _ _ f,if_neg (by rw [c]; simp)]; rfl)⟩
theorem aUU (s:State) (hd:Nat->Sh) (m:Meta) (b:Nat) (G:PM) (n:RdNP G b 0 (s.cells hd)) (v:0<=m.level):Ct prog 156 ([.pointer (some ⟨b,0,none⟩),m.val]:List Value).toArray G [] (fun _ μ' u=>μ'=[]∧u=.bool (good s m)):=by
 refine aE func156 ntmps156 fun r q=>?_;refine zg 2 ?_;refine bF rfl fun b3=>zg 14 ?_;refine .cond rfl (fun g=>?_) (fun g=>?_)
 ·have l:=g;try simp only [bW] at g
  refine zg 2 ?_;refine vQ rfl l (zg 6 ?_);refine aH ?_;exact ⟨rfl,by simp [eV,good]; omega⟩
 try simp only [bW] at g
 refine zg 6 ?_;refine cs rfl .no (.u rfl) (.u rfl) rfl (zg 3 ?_);refine .cond rfl (fun f=>?_) (fun f=>?_)
 ·have a:=f;try simp only [bW] at f
  refine zg 2 ?_;refine vQ rfl a (zg 6 ?_);refine aH ?_;exact ⟨rfl,by have h:le m.min m.max=false:=(by simpa [le] using a); simp [eV,good,h]⟩
 have a:=f;try simp only [bW] at f
 refine zg 8 ?_;refine mA rfl .no (.u rfl) (.u rfl) (zg 4 ?_);refine .cond rfl (fun e=>?_) (fun e=>?_)
 ·have k:=e;try simp only [bW] at e
  refine zg 2 ?_;refine vQ rfl k (zg 6 ?_);refine aH ?_;exact ⟨rfl,by simp [eV,good]; omega⟩
 try simp only [bW] at e
 refine zg 8 ?_;refine .cond rfl (fun c=>?_) (fun c=>?_)
 ·have j:=c;try simp only [bW] at c
  refine zg 2 ?_;refine vQ rfl j (zg 6 ?_);refine aH ?_;exact ⟨rfl,by simp [eV,good]; omega⟩
 try simp only [bW] at c
 refine zg 7 ?_;refine .cond rfl (fun i=>?_) (fun i=>?_)
 ·try simp only [bW] at i
  refine zg 6 ?_;refine aH ?_;exact ⟨rfl,by simp [eV,good]; omega⟩
 try simp only [bW] at i
 refine zg 4 ?_;refine aY (mc:=⟨false,false⟩) [0,1,2,3,4,5,6,7,8,9,10,11,12,13,14,15,16,17,18,19] aO kr (zg 5 ?_);refine aP rfl ((n.z rfl).rd) (zg 9 ?_);refine iA rfl (.t rfl rfl) (zr rfl) (.s rfl) (.s rfl) (fun p=>om) (fun p=>om) ?_;refine ld rfl (.t rfl rfl) (za rfl) (.s rfl) (fun p=>(n.z (s.cell_gen hd om)).rd) (zg 6 ?_);refine aH ?_;exact ⟨rfl,aUT g a e c i⟩
theorem oT:fM prog 118=some ([V 0#8,V 0#8,uv .u64 0#64,uv .u64 0#64,uv .u64 0#64]):=by kernel_rfl
theorem aBD:fM prog 161=some ([.string ByteArray.empty,.int .u64 0,.int .u8 0,.string ByteArray.empty]):=by kernel_rfl
theorem mB:dC prog 118 [0,1,2,3,4]=some ([V 0#8,V 0#8,uv .u64 0#64,uv .u64 0#64,uv .u64 0#64],[(0,1),(1,1),(2,1),(3,1),(4,1)]):=by kernel_rfl
theorem aBa (e:Ent) (G:PM):Ct prog 72 ([e.val]:List Value).toArray G [] (fun _ μ' u=>μ'=[]∧u=.bool (cM e)):=by
 refine aE func72 ntmps72 fun k j=>?_;refine zg 2 ?_;refine bF rfl fun b1=>zg 15 ?_;refine .cond rfl (iG fun i f=>?_) (aD fun f=>?_)
 ·refine zg 2 ?_;refine vQ rfl i (zg 6 ?_);refine aH ?_;exact ⟨rfl,congrArg Value.bool (eR1 f).symm⟩
 refine zg 9 ?_;refine .cond rfl (iG fun h c=>?_) (aD fun c=>?_)
 ·refine zg 2 ?_;refine vQ rfl h (zg 6 ?_);refine aH ?_;exact ⟨rfl,congrArg Value.bool (eR2 c).symm⟩
 refine zg 7 ?_;refine .cond rfl (aD fun a=>?_) (aD fun a=>?_)
 ·refine zg 6 ?_;refine aH ?_;exact ⟨rfl,congrArg Value.bool (eR3 a).symm⟩
 refine zg 8 ?_;refine .cond rfl (aD fun g=>?_) (aD fun g=>?_)
 ·refine zg 4 ?_;refine cs rfl .no (.u rfl) (.u rfl) rfl (zg 4 ?_);refine aH ?_;exact ⟨rfl,congrArg Value.bool (eR4 f c a g).symm⟩
 refine zg 12 ?_;refine aH ?_;exact ⟨rfl,congrArg Value.bool (eR5 f c a g).symm⟩
theorem aRd (a b:ByteArray) (G:PM) (r:a.size<=1000000):Ct prog 203 ([.string a,.string b]:List Value).toArray G [] (fun _ μ' u=>μ'=[]∧u=.string (aV (qU (yb a) (yb b)))):=by
 refine aE func203 ntmps203 fun y p=>?_;refine zg 12 ?_;refine rD (a.size) (b.size) rfl .no (.u rfl) (.u rfl) om om (zg 4 ?_);refine lop (α:=Nat) (fun k=>[(11,true,.int .i64 (k:Int))]) (fun _=>[]) (fun k C=>(k<=a.size∧k<=b.size)∧(∀ j,j<k->(yb a).getD j 0=(yb b).getD j 0)) (fun k=>a.size-k) 0 [(0,true,_),(1,true,_),(10,true,_)] [] ?_ (hF:=⟨fd,fun j h=>absurd h (xv _)⟩);intro k A x g m e; try dsimp only at e g ⊢
 obtain ⟨q,f⟩:=e;refine zg 6 ?_;refine cz rfl (fun v=>?_) fun v=>?_
 ·refine zg 12 ?_;refine aY (mc:=⟨false,false⟩) [0,1,2,3,4,5,6] aO kr (zg 2 ?_);refine sI (k) rfl .no (zt rfl) (.u rfl) (.u rfl) om (fun _=>by first|omega|(simp only [dP] at c; omega)) (zg 2 ?_);refine sI (k) rfl .no (zt rfl) (.u rfl) (.u rfl) om (fun _=>by first|omega|(simp only [dP] at c; omega)) (zg 3 ?_);refine cz rfl (fun l=>?_) fun l=>?_
  ·refine zg 8 ?_;exact lpo (k+1) (hF:=⟨fd,aJT f l⟩)
  refine zg 4 ?_;refine aY (mc:=⟨false,false⟩) [0,1,2,3,4,5,6,7,8,9,10,11,12,13,14,15,16] aO kr (zg 2 ?_);refine sI (k) rfl .no (zt rfl) (.u rfl) (.u rfl) om (fun _=>by first|omega|(simp only [dP] at c; omega)) (zg 2 ?_);refine sI (k) rfl .no (zt rfl) (.u rfl) (.u rfl) om (fun _=>by first|omega|(simp only [dP] at c; omega)) (zg 4 ?_);refine sI (k) rfl (.t rfl rfl) (zt rfl) (.s rfl) (.s rfl) (fun c=>om) (fun c=>by first|omega|(simp only [dP] at c; omega)) (zg 2 ?_);refine sI (k) rfl (.t rfl rfl) (zt rfl) (.s rfl) (.s rfl) (fun c=>om) (fun c=>by first|omega|(simp only [dP] at c; omega)) ?_;refine bw (k:=.u8) rfl (.t rfl rfl) rfl (.s rfl) (.s rfl) rfl (zg 4 ?_);refine .cond rfl (lB fun n=>?_) (gU fun i n=>?_)
  ·refine zg 1 ?_;refine aY (mc:=⟨false,false⟩) [0,1,2,3,4,5,6,7,8,9,10] aO kr (zg 2 ?_);refine sE (k) rfl .no (zt rfl) (.u rfl) (.u rfl) om om (zg 2 ?_);refine sI (k) rfl .no (zt rfl) (.u rfl) (.u rfl) om (fun _=>by first|omega|(simp only [dP] at c; omega)) (zg 1 ?_);refine Go.Tan.b1 rfl (zl rfl) bH (.u rfl) rfl rfl dc ?_; intro w;refine sB rfl .no zL (.u rfl) (fun _=>(Sc.one .here)) ?_;refine sP rfl .no (.u rfl) (.u rfl) (fun _=>aRs r) (zg 4 ?_);refine aH ?_;exact ⟨rfl,congrArg Value.string (aRt om f n)⟩
  refine zg 15 ?_;refine aH ?_;exact ⟨rfl,congrArg Value.string (aRr om f l i)⟩
 refine zg 12 ?_;refine aH ?_;exact ⟨rfl,congrArg Value.string (aRq q om f)⟩
theorem aK7 (h:Sh) (l:List Ent) (G:PM) (i:SlR G 4 Ent.cells h l) (D:l.length<=100000000) (f:Nat) (r:dW prog f=true) (vc:List Value) (p:Ent->Bool) (t:∀ G',PM.le G G'->∀ m∈l,Ct prog f ([m.val]++vc).toArray G' [] fun _ μ' u=>μ'=[]∧u=.bool (p m)):Ct prog 145 ([h.val l.length,.func (.func f) #[] vc.toArray]:List Value).toArray G [] (fun _ μ' u=>μ'=[]∧u=.int .i64 (cZ p l)):=by
 refine aE func145 ntmps145 fun C q=>?_;refine zg 14 ?_;refine lop (α:=Nat) (fun k=>[(8,true,.int .i64 (k:Int))]) (fun _=>[]) (fun k H=>(k<=l.length)∧(∀ j y,j<k->l[j]? = some y->p y=false)) (fun k=>l.length-k) 0 [(0,true,_),(1,true,_),(7,true,_)] [] ?_ (hF:=⟨fd,fun j y h=>absurd h (xv _)⟩);intro k F A n a g; try dsimp only at g n ⊢
 obtain ⟨E,c⟩:=g;have i:=i.mono a;refine zg 6 ?_;refine cz rfl (fun w=>?_) fun w=>?_
 ·refine zg 15 ?_;refine cK rfl i k ?_;obtain ⟨x,ex⟩:=cN (k:=k) (xs:=l) om;refine aT rfl ((i.at om ex).rd) (Ent.len _) ?_;refine kf rfl .no (.u rfl) r (cS rfl cL) (fun _=>t _ a x (qn ex)) (zg 2 ?_);refine .cond rfl (gU fun e v=>?_) (gU fun e v=>?_)
  ·refine zg 7 ?_;refine aH ?_;exact ⟨rfl,aBt c ex (by simpa using e)⟩
  refine zg 7 ?_;exact lpo (k+1) (hF:=⟨fd,aBv c ex (by simpa using e)⟩)
 refine zg 11 ?_;refine aH ?_;exact ⟨rfl,aBu c om⟩
theorem aJj (h:Sh) (l:List Ent) (G:PM) (c:SlR G 4 Ent.cells h l) (e:l.length<=100000000) (f:Nat) (g:dW prog f=true) (vc:List Value) (p:Ent->Bool) (i:∀ G',PM.le G G'->∀ m∈l,Ct prog f ([m.val]++vc).toArray G' [] fun _ μ' u=>μ'=[]∧u=.bool (p m)):Ct prog 200 ([h.val l.length,.func (.func f) #[] vc.toArray]:List Value).toArray G [] (fun _ μ' u=>μ'=[]∧u=.bool (l.any p)):=by
 refine aE func200 ntmps200 fun j a=>?_;refine zg 9 ?_;refine aL rfl (aK7 _ _ _ c e _ g _ _ i) (zg 5 ?_);refine aH ?_;exact ⟨rfl,congrArg Value.bool aGH⟩
theorem bBY (e:Ent) (G:PM):Ct prog 198 ([e.val]:List Value).toArray G [] (fun _ μ' u=>μ'=[]∧u=.bool (!cM e)):=by
 refine aE func198 ntmps198 fun c a=>?_;refine zg 2 ?_;refine bF rfl fun b1=>zg 6 ?_;refine aL rfl (aBa _ _) (zg 5 ?_);refine aH ?_;exact ⟨rfl,rfl⟩
theorem aRL (e:Ent) (G:PM):Ct prog 252 ([e.val]:List Value).toArray G [] (fun _ μ' u=>μ'=[]∧u=.bool (!cM e)):=by
 refine aE func252 ntmps252 fun c a=>?_;refine zg 2 ?_;refine bF rfl fun b1=>zg 6 ?_;refine aL rfl (aBa _ _) (zg 5 ?_);refine aH ?_;exact ⟨rfl,rfl⟩
theorem yW (h:Sh) (l:List Ent) (G:PM) (c:SlR G 4 Ent.cells h l) (C:l.length<=10000000000000):Ct prog 151 ([h.val l.length]:List Value).toArray G [] (fun _ μ' u=>μ'=[]∧u=.bool (cR l)):=by
 refine aE func151 ntmps151 fun A r=>?_;refine zg 12 ?_;refine lop (α:=Nat) (fun k=>[(3,true,.int .i64 (k:Int))]) (fun _=>[]) (fun k E=>(1<=k∧(k<=l.length∨l.length=0))∧(∀ j,j+1<k->dH (l.getD j Ent.zero) (l.getD (j+1) Ent.zero)=true)) (fun k=>l.length-k) 1 [(0,true,_)] [] ?_ (hF:=⟨fd,fun j h=>absurd h om⟩);intro k D w p e g; try dsimp only at g p ⊢
 obtain ⟨m,n⟩:=g;have c:=c.mono e;refine zg 9 ?_;refine cz rfl (fun t=>?_) fun t=>?_
 ·refine zg 5 ?_;refine dT ⟨false,false⟩ aO kr ?_;refine aA 0 (zg 2 ?_);refine aA 1 (zg 2 ?_);refine aA 2 (zg 2 ?_);refine aA 3 ?_;refine cK rfl c (((((k:Nat):Int)-(1:Int))).toNat) (zg 1 ?_);refine aA 4 ?_;obtain ⟨x,ex⟩:=cN (k:=k-1) (xs:=l) om;refine aT rfl ((c.at om ex).rd) (Ent.len _) (zg 1 ?_);refine aA 5 (zg 2 ?_);refine aA 6 (zg 2 ?_);refine aA 7 ?_;refine cK rfl c k (zg 1 ?_);refine fR 8 ?_;obtain ⟨y,i⟩:=cN (k:=k) (xs:=l) om;refine aT rfl ((c.at om i).rd) (Ent.len _) ?_;refine .nil ⟨⟨rfl,rfl⟩,?_⟩;refine Wp.b2 9 10 kr ?_ ?_
  ·refine al rfl aBD fun b4=>zg 1 ?_;refine aI 10 ?_;refine al rfl aBD fun v=>zg 1 ?_;refine aI 11 (zg 2 ?_);refine aI 12 (zg 2 ?_);refine bO (zg 7 ?_);refine cs rfl .no (.u rfl) (.u rfl) rfl (zg 5 ?_);refine cs rfl (.f rfl rfl) (.s rfl) (.s rfl) rfl (zg 6 ?_);refine pE rfl (.f rfl rfl) (.s rfl) (.s rfl) (zg 3 ?_);refine .cond rfl (gU fun a q=>?_) (gU fun a q=>?_)
   ·refine zg 6 ?_;refine aH ?_;exact ⟨rfl,congrArg Value.bool (aNC m.1 ex i a).symm⟩
   refine zg 8 ?_;exact lpo (k+1) (hF:=⟨fd,aND m.1 n ex i a⟩)
  refine al rfl aBD fun v=>zg 1 ?_;refine aI 9 ?_;refine al rfl aBD fun b4=>zg 1 ?_;refine aI 11 (zg 2 ?_);refine aI 12 (zg 2 ?_);refine bO (zg 7 ?_);refine cs rfl .no (.u rfl) (.u rfl) rfl (zg 5 ?_);refine cs rfl (.f rfl rfl) (.s rfl) (.s rfl) rfl (zg 6 ?_);refine pE rfl (.f rfl rfl) (.s rfl) (.s rfl) (zg 3 ?_);refine .cond rfl (gU fun a q=>?_) (gU fun a q=>?_)
  ·refine zg 6 ?_;refine aH ?_;exact ⟨rfl,congrArg Value.bool (aNC m.1 ex i a).symm⟩
  refine zg 8 ?_;exact lpo (k+1) (hF:=⟨fd,aND m.1 n ex i a⟩)
 refine zg 11 ?_;refine aH ?_;exact ⟨rfl,congrArg Value.bool (aZT om n).symm⟩
theorem aSw (h:Sh) (l:List Ent) (a:Int) (G:PM) (f:SlR G 4 Ent.cells h l) (m:cC l<=100000000) (n:l.length<=100000000):Ct prog 201 ([h.val l.length,.int .i64 a]:List Value).toArray G [] (fun _ μ' u=>μ'=[]∧u=.int .i64 (iL a 0 l:Int)):=by
 refine aE func201 ntmps201 fun v p=>?_;refine zg 19 ?_;refine lop (α:=Nat) (fun k=>[(5,true,.int .i64 (iD l k)),(10,true,.int .i64 (k:Int))]) (fun _=>[]) (fun k F=>(k<=l.length)∧(∀ j,j<k->iD l (j+1)<a)) (fun k=>l.length-k) 0 [(0,true,_),(1,true,_),(8,true,_),(9,true,_)] [] ?_ (hF:=⟨fd,fun j h=>absurd h (xv _)⟩);intro k E t i c e; try dsimp only at e i ⊢
 obtain ⟨y,g⟩:=e;have f:=f.mono c;have C:=aOI m n (k:=k) om;refine zg 6 ?_;refine cz rfl (fun r=>?_) fun r=>?_
 ·refine zg 7 ?_;refine cK rfl f k ?_;obtain ⟨x,ex⟩:=cN (k:=k) (xs:=l) om;refine aT rfl ((f.at om ex).rd) (Ent.len _) ?_;refine al rfl aBD fun D=>zg 13 ?_;have w:=bBK ex;have A:=aOI m n (k:=k+1) om;refine zg 13 ?_;refine cz rfl (fun q=>?_) fun q=>?_
  ·refine zg 8 ?_;refine aH ?_;exact ⟨rfl,by rw [aJp _ l 0 k om (fun j h=>by have:=g j h; omega) om]; rfl⟩
  refine zg 7 ?_;exact lpo (k+1) (hE:=(bE rfl (cQ om) (bE rfl (by first|rfl|exact cQ om) es))) (hF:=⟨fd,aSx g om⟩)
 refine zg 13 ?_;refine aH ?_;exact ⟨rfl,by rw [aJo _ l 0 (fun j h=>by have:=g j om; omega)]; rfl⟩
theorem bBa (m:Meta) (G:PM) (a:m.wf):Ct prog 209 ([m.val]:List Value).toArray G [] (fun _ μ' u=>μ'=[]∧u=.agg ((eG m).cells).toArray):=by
 refine aE func209 ntmps209 fun e c=>?_;refine zg 2 ?_;refine bF rfl ?_; intro b1;refine al rfl oT fun b2=>zg 12 ?_;refine bC rfl .no mB (.cons (.u rfl) rfl (.cons (.u rfl) rfl (.cons (.u rfl) rfl (.cons (.u rfl) rfl (.cons (.u rfl) rfl .nil))))) rfl ?_;refine dF rfl .here (by first|rfl|exact Meta.len _) (jC rfl rfl rfl rfl rfl) (zg 3 ?_);refine jH ?_;exact ⟨rfl,by rw [← aUq a]; rfl⟩
theorem uB:cI prog 204=some (252,16,144):=by kernel_rfl
theorem aCr:fM prog 249=some (wA (fun _=>0)):=by kernel_rfl
theorem aIQ:(prog.info? 252).bind (·.zero)=some (.agg #[.string ByteArray.empty,.int .u64 0,.int .u8 0,.string ByteArray.empty,.int .i64 0,.int .i64 0,.int .i64 0,.int .i64 0,.int .i64 0,.int .i64 0,.int .i64 0,.int .i64 0,.int .i64 0,.int .i64 0,.int .i64 0,.int .i64 0]):=by kernel_rfl
theorem bDl:dC prog 206 [0]=some ([.slice none 0 0,.int .i64 0],[(0,1)]):=by kernel_rfl
theorem bDp:dC prog 252 [0]=some ([.string ByteArray.empty,.int .u64 0,.int .u8 0,.string ByteArray.empty,.int .i64 0,.int .i64 0,.int .i64 0,.int .i64 0,.int .i64 0,.int .i64 0,.int .i64 0,.int .i64 0,.int .i64 0,.int .i64 0,.int .i64 0,.int .i64 0],[(0,4)]):=by kernel_rfl
theorem aNh (e:Ent) (a:ByteArray) (q:BitVec 64) (G:PM):Ct prog 191 ([e.val,.string a,uv .u64 q]:List Value).toArray G [] (fun _ μ' u=>μ'=[]∧u=.bool (fA e a q)):=by
 refine aE func191 ntmps191 fun g c=>?_;refine zg 2 ?_;refine bF rfl fun b3=>zg 8 ?_;refine cs rfl .no (.u rfl) (.u rfl) rfl (zg 4 ?_);refine cs rfl (.f rfl rfl) (.s rfl) (.s rfl) rfl (zg 5 ?_);refine pE rfl (.f rfl rfl) (.s rfl) (.s rfl) (zg 5 ?_);refine aH ?_;exact ⟨rfl,congrArg Value.bool (by unfold fA lt; simp [gt_iff_lt]; rfl)⟩
theorem bAH (K:Nat) (h:Sh) (xs:List Nd) (sz:Value) (G:PM) (g:PB G K (cl [h.val xs.length,sz] 206)) (e:SlR G 16 Nd.cells h xs) (w:Nat->Nat) (y:ByteArray) (q:BitVec 64) (f:WayN xs y q w):Ct prog 141 ([.pointer (some ⟨K,0,none⟩),.string y,uv .u64 q]:List Value).toArray G [] (fun _ μ' u=>μ'=[]∧u=.agg (wA w).toArray):=by
 refine aE func141 ntmps141 fun T L=>?_;refine zg 2 ?_;refine al rfl aCr fun b6=>zg 4 ?_;refine al rfl aCr fun O=>zg 14 ?_;refine lop (α:=Nat) (fun k=>[(8,true,.int .i64 ((w k:Nat):Int)),(9,true,.int .i64 ((k:Int)-1))]) (fun k=>[.blk O (cl (wA (wK w k)) 249)]) (fun k S=>(k<=12)) (fun k=>k) 12 [(0,true,_),(1,true,_),(2,true,_),(6,true,_),(7,true,_)] [_] ?_ (hE:=(bE rfl (by rw [f.top]; rfl) es));intro k N0 Q F r x; try dsimp only at x F ⊢
 have X:=x;refine bB r g e fun g e=>?_;refine zg 7 ?_;refine .cond rfl (aD fun N=>?_) (aD fun N=>?_)
 ·refine zg 13 ?_;refine ih rfl .no uB (.u rfl) (.u rfl) om (fun _=>by have:=f.lt k om; omega) (fun _=>e.nn (k:=w k) (f.lt k om)) (zg 2 ?_);refine aP rfl ((xK e (a:=w k) (k:=k-1) (f.lt k om) om (by first|omega|(simp; omega))).rd) (zg 4 ?_);refine lop (α:=Nat) (fun p=>[(8,true,.int .i64 ((wq w (k-1) p:Nat):Int)),(10,true,.int .i64 ((bR xs (wq w (k-1) p) (k-1):Nat):Int))]) (fun _=>[]) (fun p S=>(p=0∨p=1∧vB xs y q (w (k-1)) (k-1))) (fun p=>1-p) 0 [(0,true,_),(1,true,_),(2,true,_),(6,true,_),(7,true,_),(9,true,_)] [_,_] ?_ (hE:=(bE rfl (by rw [wq,if_pos rfl,show k-1+1=k by omega]) (bE rfl (by rw [wq,if_pos rfl,show k-1+1=k by omega]) es)));intro p N1 P E n v; try dsimp only at v E ⊢
  have J:=v;refine bB n g e fun g e=>?_;have A:wq w (k-1) p<xs.length:=by unfold wq; split; exact f.lt _ om; exact f.lt _ om
  have I:wq w (k-1) 1<xs.length:=f.lt _ om;have c:=f.inb _ A (k-1) om;refine zg 11 ?_;refine ih rfl (.t rfl rfl) uB (.s rfl) (.s rfl) om om (fun _=>e.nn (k:=bR xs (wq w (k-1) p) (k-1)) c) (zg 1 ?_);refine lA rfl (.t rfl rfl) (za rfl) (.s rfl) (fun M=>(aE0 e (a:=bR xs (wq w (k-1) p) (k-1)) c (by simp)).rd) (fun _=>Ent.len _) (zg 2 ?_);refine kv rfl (.t rfl rfl) (zf rfl) (Eva.cons (.s rfl) (Eva.cons (.s rfl) (Eva.cons (.s rfl) cL))) (fun M=>aNh _ _ _ _) (zg 3 ?_);refine .cond rfl (fun H=>?_) (fun H=>?_)
  ·obtain ⟨D,m,C⟩:=bCy f om J H;subst D;have l:bR xs (wq w (k-1) 0) (k-1)=wq w (k-1) 1:=C.symm;refine zg 17 ?_;refine ih rfl .no uB (.u rfl) (.u rfl) om (fun _=>by have:=c; omega) (fun _=>e.nn (k:=bR xs (wq w (k-1) 0) (k-1)) (c)) (zg 2 ?_);refine aP rfl ((xK e (a:=bR xs (wq w (k-1) 0) (k-1)) (k:=k-1) (c) om (by first|omega|(simp; omega))).rd) (zg 2 ?_);exact lpo 1 (hE:=(bE rfl (by rw [l]) (bE rfl (by rw [l]) es))) (hF:=(.inr ⟨rfl,m⟩))
  have i:wq w (k-1) p=w (k-1):=bCx f om J H;refine zg 9 ?_;refine cB rfl .here (by simp [rX]; omega) (aO9 (k:=k-1) (w':=wK w (k-1)) om (by first|omega|(simp; omega)) (by rw [i]; simp [wK]) (fun j Z=>by unfold wK; by_cases h:j<k-1; rw [if_pos h,if_pos om]; rw [if_neg h,if_neg om])) (zg 8 ?_);exact lpo (k-1) (hE:=(bE rfl (by rw [← i]) (bE rfl (cQ om) es)))
 refine zg 8 ?_;refine dF rfl aC (rX.trans rX.symm) (aH3 _) (zg 3 ?_);refine jH ?_;obtain rfl:k=0:=by omega
 exact ⟨rfl,by rw [aPA]; rfl⟩
theorem aUR (i:Nat) (h:Sh) (xs:List Nd) (sz:Value) (G:PM) (f:PB G i (cl [h.val xs.length,sz] 206)) (e:SlR G 16 Nd.cells h xs) (w:Nat->Nat) (g:ByteArray) (q:BitVec 64) (c:WayN xs g q w):Ct prog 162 ([.pointer (some ⟨i,0,none⟩),.string g,uv .u64 q]:List Value).toArray G [] (fun _ μ' u=>μ'=[]∧u=.int .i64 ((bR xs (w 0) 0:Nat):Int)):=by
 refine aE func162 ntmps162 fun l j=>?_;refine zg 16 ?_;refine aY (mc:=⟨false,false⟩) [0,1,2,3,4,5,6,7,8,9,10,11,12,13] aO kr (zg 7 ?_);refine aL rfl (bAH _ _ _ _ _ f e _ _ _ c) ?_;refine ix rfl .no (zr rfl) (za rfl) (.u rfl) (.u rfl) om om (fun _=>aCe (k:=0) om rfl) ?_;refine ih rfl .no uB (.u rfl) (.u rfl) om (fun _=>by have:=c.lt 0 om; omega) (fun _=>e.nn (k:=w 0) (c.lt 0 om)) (zg 2 ?_);refine aP rfl ((xK e (a:=w 0) (k:=0) (c.lt 0 om) om (by first|omega|(simp; omega))).rd) (zg 4 ?_);refine aH ?_;exact ⟨rfl,rfl⟩
theorem aLT (a:Nat) (h:Sh) (xs:List Nd) (sz:Value) (G:PM) (e:PB G a (cl [h.val xs.length,sz] 206)) (g:xs.length<=1000000):Ct prog 109 ([.pointer (some ⟨a,0,none⟩)]:List Value).toArray G [] (fun _ μ' u=>μ'=[]∧u=.int .i64 ((xs.length:Int)-1)):=by
 refine aE func109 ntmps109 fun f c=>?_;refine zg 27 ?_;refine aH ?_;exact ⟨rfl,rfl⟩
theorem aGR (a:Nat) (v:Value) (sz:Nat) (G:PM) (e:PB G a (cl [v,.int .i64 ((sz:Nat):Int)] 206)):Ct prog 49 ([.pointer (some ⟨a,0,none⟩)]:List Value).toArray G [] (fun _ μ' u=>μ'=[]∧u=.int .i64 ((sz:Nat):Int)):=by
 refine aE func49 ntmps49 fun f c=>?_;refine zg 25 ?_;refine aH ?_;exact ⟨rfl,rfl⟩
theorem aWH (i:Nat) (h:Sh) (xs:List Nd) (sz:Value) (G:PM) (a:PB G i (cl [h.val xs.length,sz] 206)) (l:SlR G 16 Nd.cells h xs) (w:Nat->Nat) (g:ByteArray) (q:BitVec 64) (p:WayN xs g q w) (n:Int) (m:bR xs (w 0) 0=0):Ct prog 108 ([.pointer (some ⟨i,0,none⟩),.string g,uv .u64 q,.int .i64 n]:List Value).toArray G [] (fun _ μ' u=>μ'=[]∧u=.slice none 0 0):=by
 refine aE func108 ntmps108 fun t j=>?_;refine zg 16 ?_;refine aL rfl (aUR _ _ _ _ _ a l _ _ _ p) (zg 4 ?_);refine lop (α:=Nat) (fun k=>[(9,true,.slice none 0 0),(10,true,.int .i64 0)]) (fun _=>[]) (fun k x=>True) (fun k=>0) 0 [(0,true,_),(3,true,_)] [] ?_ (hE:=(gH rfl (bE rfl (by rw [m]; rfl) es)));intro k v r e c f; try dsimp only at f e ⊢
 have a:=a.mono c;refine zg 26 ?_;refine aH ?_;exact ⟨rfl,rfl⟩
theorem aDp (G:PM):Ct prog 64 ([]:List Value).toArray G [] (fun _ μ' u=>∃ bl v,v.oneCell'=true∧μ'=[.blk bl (cl [v,.int .i64 ((0:Nat):Int)] 206),rS 16 Nd.cells v 252 [Nd.z]]∧u=.pointer (some ⟨bl,0,none⟩)):=by
 refine aE func64 ntmps64 fun c a=>?_;refine zg 7 ?_;refine aW5 (enc:=Nd.cells) Nd.z rfl (zl rfl) aIQ (.u rfl) (.u rfl) rfl rfl dc ?_; intro b1;refine bC rfl .no bDl (.cons (.u rfl) rfl .nil) rfl ?_;refine bF rfl fun b3=>zg 4 ?_;refine aR dD ?_;exact ⟨b3,_,rfl,rfl,rfl⟩
abbrev C0 (f:FuncId) (vs:List Value) (G:PM) (o:aB) (p:PM→aB→Value→Prop):Prop:=Ct prog f vs.toArray G o p
abbrev CV (f:FuncId) (vs:List Value) (G:PM) (u:Value):Prop:=Ct prog f vs.toArray G [] (fun _ m v=>m=[]∧v=u)
abbrev CQ (f:FuncId) (vs:List Value) (G:PM) (o:aB) (p:PM→aB→Value→Prop) (d:PM→aB→List PanicEntry→Prop):Prop:=Cq prog f vs.toArray G o p d
open Go.RowKit Go.Maps Go.Sort Go.Shelf
def aIj:Go.Shelf.Ren:=⟨fun | 7=>119 | 10=>175 | n=>n,fun | 23=>143 | 26=>9 | 3=>150 | 28=>217 | 0=>0 | 27=>216 | 33=>286 | 4=>4 | n=>n,fun | n=>n⟩
theorem aIi:Go.Proofs.SlLaysZ.n7 prog aIj:={
 mixed:=by kernel_rfl
 f7:=⟨"maps.Keys[map[string]tantalus/disk.file,string,tantalus/disk.file]",dc,func119.trans (congrArg some kr)⟩
 f10:=⟨"maps.Keys[map[string]tantalus/disk.file,string,tantalus/disk.file]$1",dc,func175.trans (congrArg some kr)⟩
 t0:=Tryz.underlying0
 a0:=Tryz.isAgg0
 z0:=Tryz.sizeOf0
 v0:=Tryz.zeroValue0
 t4:=Tryz.underlying4
 a4:=Tryz.isAgg4
 z4:=Tryz.sizeOf4
 v4:=Tryz.zeroValue4
 t23:=Tryz.underlying143
 a23:=Tryz.isAgg143
 z23:=Tryz.sizeOf143
 v23:=Tryz.zeroValue143
 t26:=Tryz.underlying9
 a26:=Tryz.isAgg9
 z26:=Tryz.sizeOf9
 v26:=Tryz.zeroValue9
 t27:=Tryz.underlying216
 a27:=Tryz.isAgg216
 z27:=Tryz.sizeOf216
 v27:=Tryz.zeroValue216
 t28:=Tryz.underlying217
 a28:=Tryz.isAgg217
 z28:=Tryz.sizeOf217
 v28:=Tryz.zeroValue217
 t33:=Tryz.underlying286
 a33:=Tryz.isAgg286
 z33:=Tryz.sizeOf286
 v33:=Tryz.zeroValue286 }
def aIl:Go.Shelf.Ren:=⟨fun | 6=>118 | 8=>173 | 9=>174 | 11=>221 | 13=>223 | 12=>222 | 23=>271 | 24=>272 | 14=>262 | 15=>263 | 16=>264 | 17=>265 | 18=>266 | 19=>267 | 20=>268 | 21=>269 | 22=>270 | 25=>301 | 26=>302 | 27=>303 | 28=>304 | 29=>305 | 30=>279 | 31=>324 | n=>n,fun | 26=>9 | 28=>217 | 24=>146 | 0=>0 | 3=>3 | 37=>235 | 48=>301 | 50=>57 | 4=>4 | 40=>391 | 39=>390 | 45=>259 | 5=>5 | 9=>9 | 51=>430 | 55=>433 | 57=>452 | 58=>453 | 33=>286 | n=>n,fun | n=>n⟩
theorem aQd:Go.Proofs.SlLaysZ.n6 prog aIl:={
 mixed:=by kernel_rfl
 f6:=⟨"slices.Sorted[string]",dc,func118.trans (congrArg some kr)⟩
 f8:=⟨"slices.Collect[string]",dc,func173.trans (congrArg some kr)⟩
 f11:=⟨"slices.AppendSeq[[]string,string]",dc,func221.trans (congrArg some kr)⟩
 t0:=Tryz.underlying0
 a0:=Tryz.isAgg0
 z0:=Tryz.sizeOf0
 v0:=Tryz.zeroValue0
 t24:=Tryz.underlying146
 a24:=Tryz.isAgg146
 z24:=Tryz.sizeOf146
 v24:=Tryz.zeroValue146
 t26:=Tryz.underlying9
 a26:=Tryz.isAgg9
 z26:=Tryz.sizeOf9
 v26:=Tryz.zeroValue9
 t28:=Tryz.underlying217
 a28:=Tryz.isAgg217
 z28:=Tryz.sizeOf217
 v28:=Tryz.zeroValue217
 i26:=by kernel_rfl }
def aQc:Go.Shelf.Ren:=⟨fun | 6=>174 | 8=>223 | 9=>222 | 19=>271 | 20=>272 | 21=>262 | 22=>263 | 23=>264 | 24=>265 | 25=>266 | 26=>267 | 27=>268 | 28=>269 | 29=>270 | 36=>301 | 31=>302 | 32=>303 | 37=>304 | 38=>305 | 39=>279 | 41=>324 | n=>n,fun | 27=>146 | 29=>9 | 3=>3 | 32=>235 | 26=>146 | 0=>0 | 44=>301 | 46=>57 | 4=>4 | 36=>391 | 35=>390 | 41=>259 | 5=>5 | 9=>9 | 53=>430 | 57=>433 | 63=>452 | 64=>453 | n=>n,fun | n=>n⟩
theorem aIk:Go.Proofs.SlLaysM.n6 prog aQc:={
 mixed:=by kernel_rfl
 f6:=⟨"slices.Sort[[]string,string]",dc,func174.trans (congrArg some kr)⟩
 f8:=func223.trans (congrArg some kr)
 f9:=⟨"slices.pdqsortOrdered[string]",dc,func222.trans (congrArg some kr)⟩
 f19:=func271.trans (congrArg some kr)
 f20:=func272.trans (congrArg some kr)
 f21:=⟨"slices.insertionSortOrdered[string]",dc,func262.trans (congrArg some kr)⟩
 f22:=⟨"slices.heapSortOrdered[string]",dc,func263.trans (congrArg some kr)⟩
 f23:=⟨"slices.breakPatternsOrdered[string]",dc,func264.trans (congrArg some kr)⟩
 f24:=⟨"slices.choosePivotOrdered[string]",dc,func265.trans (congrArg some kr)⟩
 f25:=⟨"slices.reverseRangeOrdered[string]",dc,func266.trans (congrArg some kr)⟩
 f26:=⟨"slices.partialInsertionSortOrdered[string]",dc,func267.trans (congrArg some kr)⟩
 f27:=⟨"cmp.Less[string]",dc,func268.trans (congrArg some kr)⟩
 f28:=⟨"slices.partitionEqualOrdered[string]",dc,func269.trans (congrArg some kr)⟩
 f29:=⟨"slices.partitionOrdered[string]",dc,func270.trans (congrArg some kr)⟩
 f31:=func302.trans (congrArg some kr)
 f32:=func303.trans (congrArg some kr)
 f36:=⟨"slices.siftDownOrdered[string]",dc,func301.trans (congrArg some kr)⟩
 f37:=⟨"slices.medianAdjacentOrdered[string]",dc,func304.trans (congrArg some kr)⟩
 f38:=⟨"slices.medianOrdered[string]",dc,func305.trans (congrArg some kr)⟩
 f39:=⟨"cmp.isNaN[string]",dc,func279.trans (congrArg some kr)⟩
 f41:=⟨"slices.order2Ordered[string]",dc,func324.trans (congrArg some kr)⟩
 t0:=Tryz.underlying0
 a0:=Tryz.isAgg0
 z0:=Tryz.sizeOf0
 v0:=Tryz.zeroValue0
 t3:=Tryz.underlying3
 a3:=Tryz.isAgg3
 z3:=Tryz.sizeOf3
 v3:=Tryz.zeroValue3
 t4:=Tryz.underlying4
 a4:=Tryz.isAgg4
 z4:=Tryz.sizeOf4
 v4:=Tryz.zeroValue4
 t5:=Tryz.underlying5
 a5:=Tryz.isAgg5
 z5:=Tryz.sizeOf5
 v5:=Tryz.zeroValue5
 t9:=Tryz.underlying9
 a9:=Tryz.isAgg9
 z9:=Tryz.sizeOf9
 v9:=Tryz.zeroValue9
 t26:=Tryz.underlying146
 a26:=Tryz.isAgg146
 z26:=Tryz.sizeOf146
 v26:=Tryz.zeroValue146
 t27:=Tryz.underlying146
 a27:=Tryz.isAgg146
 z27:=Tryz.sizeOf146
 v27:=Tryz.zeroValue146
 t29:=Tryz.underlying9
 a29:=Tryz.isAgg9
 z29:=Tryz.sizeOf9
 v29:=Tryz.zeroValue9
 t32:=Tryz.underlying235
 a32:=Tryz.isAgg235
 z32:=Tryz.sizeOf235
 v32:=Tryz.zeroValue235
 t35:=Tryz.underlying390
 a35:=Tryz.isAgg390
 z35:=Tryz.sizeOf390
 v35:=Tryz.zeroValue390
 t36:=Tryz.underlying391
 a36:=Tryz.isAgg391
 z36:=Tryz.sizeOf391
 v36:=Tryz.zeroValue391
 t41:=Tryz.underlying259
 a41:=Tryz.isAgg259
 z41:=Tryz.sizeOf259
 v41:=Tryz.zeroValue259
 t44:=Tryz.underlying301
 a44:=Tryz.isAgg301
 z44:=Tryz.sizeOf301
 v44:=Tryz.zeroValue301
 t46:=Tryz.underlying57
 a46:=Tryz.isAgg57
 z46:=Tryz.sizeOf57
 v46:=Tryz.zeroValue57
 t53:=Tryz.underlying430
 a53:=Tryz.isAgg430
 z53:=Tryz.sizeOf430
 v53:=Tryz.zeroValue430
 t57:=Tryz.underlying433
 a57:=Tryz.isAgg433
 z57:=Tryz.sizeOf433
 v57:=Tryz.zeroValue433
 t63:=Tryz.underlying452
 a63:=Tryz.isAgg452
 z63:=Tryz.sizeOf452
 v63:=Tryz.zeroValue452
 t64:=Tryz.underlying453
 a64:=Tryz.isAgg453
 z64:=Tryz.sizeOf453
 v64:=Tryz.zeroValue453 }
theorem aQe (m:Nat):AnyZ.SortsIn prog aIl Fence.wide m :=
 ⟨fun blk e a g W h c f=>callsIn_wide.2 (AnyM.slices_Sort_string aIk blk e a g W h c f),
  fun p a W=>callsIn_wide.2 (AnyM.slices_Sort_string_none aIk p a W)⟩
theorem aV5 (a:Nat) (G:PM):Ct prog 119 #[.map (some a)] G [] (fun _ μ' u=>∃ bk,μ'=[.blk bk (cl [.map (some a)] 143)]∧u=.func (.func 175) #[] #[.pointer (some ⟨bk,0,none⟩)]):=fun w c=>by
 refine (callsIn_wide.1 (AnyZ.keys_in aIi Fence.wide 5 trivial rfl (some a) w)).mono ?_;rintro e f ⟨rfl,rfl⟩;exact ⟨_,G,_,rfl,(gR (μ:=[]) c).alloc _,w.heap.size,rfl,rfl⟩
theorem aV1 {l:List (Lit×DataW Unit)}:∀ {y},y∈l.foldr DataW.insert []->y∈l:=by
 induction l<;>simp_all[ChangeMaps.mem_insert_iff]
theorem aVN {l:List (Lit×DataW Unit)}:(l.foldr DataW.insert []).length=l.length:=by
 have a:∀ (x:Lit×DataW Unit) (r:List (Lit×DataW Unit)),(DataW.insert x r).length=r.length+1:=by
  intro x r;induction r<;>grind[DataW.insert]
 induction l<;>simp_all
theorem aM9 {f:Fi} (h:f.nm.size<=100):WideElems.rd (H:=Unit) prog 9 (fun _=>some (.nil,[])) (mE f.fe)=some (.string f.nm.data.toList,.nil):=by
 unfold WideElems.rd;rw [show (mE f.fe).key=.string f.nm from rfl,Go.WideMaps.keyOf_string_mk Tryz.underlying9 (by grind[maxLen])];rfl
theorem bAe (I A clk:Nat) (F:List Fi) (G:PM) (E:DkR F clk) (a3:PB G I (cl [.map (some A)] 143)) (a1:PB G A (mO (F.map Fi.fe) clk)) :
  Ct prog 118 #[.func (.func 175) #[] #[.pointer (some ⟨I,0,none⟩)]] G [] (fun _ μ' u=>∃ L:List ByteArray,(∀ s∈L,s∈F.map Fi.nm)∧L.length<=100000∧μ'=[rS 1 iM u 9 L]):=fun w Z=>by
 have hk:w.heap[I]? = some (cl [.map (some A)] 143):=Z.sub _ _ a3.h;have hm:w.heap[A]? = some (mO (F.map Fi.fe) clk):=Z.sub _ _ a1.h;have hc:=E.cnt;have O:w.ownsMap (H:=Unit) prog 9 (fun _=>some (.nil,[])) A F.length (.map ((((F.map Fi.fe).map mE).map (WideElems.rg prog 9 (fun _=>some (.nil,[])))).foldr DataW.insert [])):=by
  refine ⟨((F.map Fi.fe).map mE).toArray,clk,hm,⟨by simp [maxLen]; omega,⟨fun x k=>?_,?_,?_⟩,fun x k=>?_⟩,by simp,rfl⟩
  ·simp only [qi] at k;obtain ⟨_,⟨f,C,rfl⟩,rfl⟩:=k;exact E.old f C
  ·have:((F.map Fi.fe).map mE).map (·.born)=F.map Fi.born:=by simp [vt,mE,Fi.fe]
   rw [show ((F.map Fi.fe).map mE).toArray.toList=(F.map Fi.fe).map mE from rfl,this]; exact E.nd
  ·have:((F.map Fi.fe).map mE).map (·.key)=(F.map Fi.nm).map Value.string:=by simp [vt,mE,Fi.fe]
   rw [show ((F.map Fi.fe).map mE).toArray.toList=(F.map Fi.fe).map mE from rfl,this];exact List.Pairwise.map _ (fun a b h e=>h (Value.string.inj e)) E.un
  simp only [qi] at k;obtain ⟨_,⟨f,C,rfl⟩,rfl⟩:=k;exact ⟨_,aM9 (E.gn f C)⟩
 have m:Maps.size (DataW.map ((((F.map Fi.fe).map mE).map (WideElems.rg (H:=Unit) prog 9 (fun _=>some (.nil,[])))).foldr DataW.insert []))=F.length:=by
  show wm _=_;rw [aVN]; simp
 have n:w.cell? ⟨I,0,none⟩=some (.map (some A)):=by simp [World.cell?,hk,cl]
 have N:=AnyZ.keys_gives (ρ:=aIj) { aIi with } Fence.wide 2 trivial rfl om I A F.length _ w (xg.1 hk).1 n O;refine (callsIn_wide.1 (AnyZ.sorted_in aQd Fence.wide 5 trivial trivial trivial trivial rfl om (aQe _) (enters_of func174 kr rfl) 175 #[.pointer (some ⟨I,0,none⟩)] trivial (enters_of func175 kr rfl) _ _ (by rw [m]; unfold maxLen; omega) (by rw [m]; omega) _ N)).mono ?_;rintro e w' ⟨v,J,rfl,hS,i,a7,D⟩;obtain ⟨L,hL⟩ : ∃ L:List ByteArray,L=(J.mergeSort (fun x y=>decide (x<=y))).map fun l=>⟨l.toArray⟩:=⟨_,rfl⟩;have S:L.length=J.length:=by rw [hL,qm,List.length_mergeSort]
 have a4:(J.mergeSort (fun x y=>decide (x<=y))).map encStr=L.flatMap iM:=by
  rw [hL];generalize J.mergeSort (fun x y=>decide (x<=y))=q;induction q with
  | nil=>rfl
  | cons x r ih=>simp only [List.map_cons,xp,ih,iM,List.singleton_append]
 rw [a4,←S] at i;have P:∀ s∈L,s∈F.map Fi.nm:=fun s M=>by
  rw [hL] at M;obtain ⟨l,hl,rfl⟩:=qi.1 M;have t:l∈J:=List.mem_mergeSort.1 hl;have h2:=hS.mem_iff.1 t;obtain ⟨p,hp,rfl⟩:=qi.1 h2;obtain ⟨x,k,rfl⟩:=qi.1 (aV1 hp);simp only [qi] at k;obtain ⟨_,⟨f,C,rfl⟩,rfl⟩:=k;rw [WideElems.rg_of (aM9 (E.gn f C))];exact qi.2 ⟨f,C,by simp [strOf]⟩
 have Q:L.length<=100000:=by
  rw [S,hS.length_eq];have:(strKeys (DataW.map ((((F.map Fi.fe).map mE).map (WideElems.rg (H:=Unit) prog 9 (fun _=>some (.nil,[])))).foldr DataW.insert []))).length=F.length:=by rw [← m]; exact qm _
  omega
 have K:∀ b o,G b=some o->w'.heap[b]? = some o:=fun b o a0=>by
  have t:=Z.sub b o a0;rw [D.block b (xg.1 t).1]; exact t
 have j:∀ b∈keys [rS 1 iM v 9 L],w.heap.size<=b:=fun b c=>by
  simp only [keys,Res.keys,xp,vi,we] at c;rcases i.2 with ⟨rfl,_⟩ | ⟨g,X,T,rfl,hg,_⟩
  ·simp [Value.ownBlock] at c
  simp [Value.ownBlock] at c; omega
 refine ⟨v,G,_,rfl,⟨⟨K,fun r hr=>?_,fun b c=>?_,?_⟩,D.os,D.tape,D.output,D.size,fun b a2 _=>⟨D.block b a2,rfl⟩,fun b c=>.inr (j b c),fun _ _ _ h=>h⟩,L,P,Q,rfl⟩
 ·rw [qf.1 hr];refine ⟨i.1,i.2.imp id ?_⟩;rintro ⟨g,X,T,t,h2,h3⟩;exact ⟨g,X,T,t,qr _,h3⟩
 ·cases hG:G b with
  | none=>rfl
  | some o =>
   have t:=(xg.1 (Z.sub b o hG)).1;have h2:=j b c;omega
 simp only [keys,Res.keys,xp,vi,we];cases v.ownBlock<;>simp
theorem bEJ:oP prog 9=true:=by kernel_rfl
theorem bCt (y:Value) (h:Nat) (G:PM) (a:PB G h (cl [.slice none 0 0] 72)):CV 194 [y,.pointer (some ⟨h,0,none⟩)] G (.tuple #[]):=by
 refine aE func194 ntmps194 fun m i=>?_;refine zg 8 ?_;refine lop (α:=Nat) (fun k=>[(7,true,.int .i64 ((k:Nat):Int))]) (fun _=>[]) (fun k p=>(k=0)) (fun k=>0) 0 [(0,true,_),(5,true,_),(6,true,_)] [] ?_;intro k n l f c e; try dsimp only at e f ⊢
 have j:=e;have a:=a.mono c;refine zg 6 ?_;refine .cond rfl (fun g=>by subst j; exact absurd g dc) (lB fun g=>?_);refine zg 5 ?_;refine aH ?_;exact ⟨rfl,rfl⟩
theorem aO6 (G:PM):C0 144 [.slice none 0 0] G [] (fun _ μ' u=>∃ bk,μ'=[.blk bk (cl [.slice none 0 0] 72)]∧u=.func (.func 194) #[] #[.pointer (some ⟨bk,0,none⟩)]):=by
 refine aE func144 ntmps144 fun c a=>?_;refine zg 2 ?_;refine bF rfl fun b1=>zg 5 ?_;refine tG rfl (zg 4 ?_);refine aR bJ ?_;exact ⟨b1,rfl,rfl⟩
theorem aWY (G:PM):C0 272 [.int .u64 0] G [] (fun _ μ' u=>μ'=[]):=by
 refine aE func272 ntmps272 fun c a=>?_;refine zg 39 ?_;refine cv rfl .no (zv rfl rfl) (.u rfl) (sI 0 rfl .no bEJ (.u rfl) (.u rfl) (fun _=>rfl) (fun _=>of_decide_eq_true kr) ?_);refine cv rfl .no (zv rfl rfl) (.u rfl) (aw rfl .no (.u rfl) (.u rfl) rfl (zg 4 ?_));refine aH ?_;exact rfl
theorem aRj (G:PM):C0 223 [.int .u64 0] G [] (fun _ μ' u=>μ'=[]):=by
 refine aE func223 ntmps223 fun f c=>?_;refine zg 12 ?_;refine aQ rfl (aWY _) ?_;rintro g h a e rfl;refine zg 4 ?_;refine aH ?_;exact rfl
theorem aVF (G:PM):CV 287 [.slice none 0 0,.int .i64 0,.int .i64 0] G (.tuple #[]):=by
 refine aE func287 ntmps287 fun j g=>?_;refine zg 8 ?_;refine lop (α:=Nat) (fun k=>[(6,true,.int .i64 ((k:Nat):Int))]) (fun _=>[]) (fun k m=>(k=1)) (fun k=>0) 1 [(0,true,_),(1,true,_),(2,true,_)] [] ?_;intro k l i c e a; try dsimp only at a c ⊢
 have h:=a;refine zg 8 ?_;refine .cond rfl (fun f=>by subst h; exact absurd f dc) (lB fun f=>?_);refine zg 5 ?_;refine aH ?_;exact ⟨rfl,rfl⟩
theorem aYO (v:Value) (G:PM):CV 250 [.slice none 0 0,.int .i64 0,.int .i64 0,v] G (.tuple #[]):=by
 refine aE func250 ntmps250 fun h f=>?_;refine zg 11 ?_;refine lop (α:=Nat) (fun k=>[(1,true,.int .i64 0),(2,true,.int .i64 0),(3,true,v),(8,true,.bool true),(9,true,.bool true)]) (fun _=>[]) (fun k j=>True) (fun k=>0) 0 [(0,true,_)] [] ?_;intro k i g a e c; try dsimp only at c a ⊢
 refine zg 22 ?_;refine aL rfl (aVF _) (zg 3 ?_);refine aH ?_;exact ⟨rfl,rfl⟩
theorem aNy (G:PM):CV 193 [.slice none 0 0] G (.tuple #[]):=by
 refine aE func193 ntmps193 fun f c=>?_;refine zg 11 ?_;refine gG rfl (iW om om) ?_;refine aQ rfl (aRj _) ?_;rintro g h a e rfl;refine aL rfl (aYO _ _) (zg 2 ?_);refine aH ?_;exact ⟨rfl,rfl⟩
theorem aM7 {P:Program} {g:Operand} {ps:Array Tmp} {assign body:Code} {Q:Exit->Act->World->Prop} {a:Act} {w:World} {gf:Nat} {lb:Array Value} (hg:a.eval g=.func (.func gf) #[] lb)
  (eg:∀ args w,(callFunc gf args).run P w=.ok (.enter gf args) w)
  (hcall:∀ l W,Below w.heap.size w W->Calls P gf (#[.func (.yield l) #[] #[]]++lb) W fun e W'=>(∃ v,e=.returned v)∧Below W.heap.size W W')
  (hQ:∀ D W,Below w.heap.size w W->w.heap.size<=D->W.heap[D]? = some (.deferred (some []))->Q .normal { a with defers:={ target:=.collected D,args:=#[] } :: a.defers } W) :
  (Code.rangeFunc g ps assign body).wpIn Fence.wide 5 P Q a w:=by
 refine wpIn_rangeFunc fun fn hfn=>?_;obtain ⟨lp,hlp⟩ : ∃ lp:Loop,lp = { state:=.ready,pending:=none,fn,tmps:=a.tmps,params:=ps,assign,body,defers:=w.heap.size }:=⟨_,rfl⟩;obtain ⟨W1,hW1⟩ : ∃ W1,(w.alloc (.deferred (some []))).alloc (.loop lp)=W1:=⟨_,rfl⟩;have hL1:W1.heap[w.heap.size+1]? = some (.loop lp):=by
  grind[World.alloc_heap_new,World.size_alloc]
 have hK1:W1.heap[w.heap.size]? = some (.deferred (some [])):=by
  grind[Below.heap_alloc,World.alloc_heap_new]
 have hb1:Below w.heap.size w W1:=by
  rw [← hW1]; exact ((Below.refl _ w).alloc (qd _) _).alloc (by simp) _
 refine ⟨w.heap.size+1,[{ target:=.collected w.heap.size,args:=#[] }],W1,{ target:=.fn (.func gf) lb,args:=#[.func (.yield (w.heap.size+1)) #[] #[]] },W1,gf, #[.func (.yield (w.heap.size+1)) #[] #[]]++lb,W1,?_,?_,?_,?_,fun _=>om,?_⟩
 ·simp_all[run_enterLoop_outer]
 ·simp only [resolve,hg]; simp [go_sem]
 ·intro f' _; trivial
 ·simp_all[invoke]
 refine callsIn_wide.2 ((hcall _ W1 hb1).mono ?_);rintro e W2 ⟨⟨v,rfl⟩,hb2⟩;have hL2:W2.heap[w.heap.size+1]? = some (.loop lp):=(hb2.block _ (xg.1 hL1).1).trans hL1;have hK2:W2.heap[w.heap.size]? = some (.deferred (some [])):=(hb2.block _ (xg.1 hK1).1).trans hK1;have hend:=run_endLoop (P:=P) hL2 (by simp_all);have hpe:lp.pending=none:=by rw [hlp]
 rw [hpe] at hend;have hb12:Below w.heap.size w W2:=hb1.trans (hb2.mono hb1.size);refine ⟨none,_,hend,hQ w.heap.size _ (hb12.grown (grownBy_putObj_a _ _ _) hb12.size (fun k e=>by grind)) (qd _) ((World.putObj_heap_other om).trans hK2)⟩
theorem aRG (A:Nat) (G:PM) (y:PB G A (cl [.slice none 0 0] 72)):Ct prog 249 #[.slice none 0 0,.func (.func 194) #[] #[.pointer (some ⟨A,0,none⟩)]] G [] (fun _ f u=>f=[]∧u=.slice none 0 0):=fun w C=>by
 refine (callsIn_wide (n:=5)).1 ?_;refine callsIn_of_wp_marks func249 rfl trivial ?_ rfl;simp only [ntmps249,List.size_toArray,dX,Nat.reduceAdd,Nat.reduceSub,Array.replicate_succ,Array.replicate_zero,List.push_toArray,List.append_toArray,qu,ww];gi_wp2;have m:Below w.heap.size w (w.alloc (.cells #[.slice none 0 0] 72)):=(Below.refl _ w).alloc (qd _) _;have t:(w.alloc (.cells #[.slice none 0 0] 72)).heap[w.heap.size]? = some (.cells #[.slice none 0 0] 72 (0,0)):=World.alloc_heap_new w _;have E:(w.alloc (.cells #[.slice none 0 0] 72)).heap.size=w.heap.size+1:=by simp
 refine aM7 (gf:=194) (lb:=#[.pointer (some ⟨A,0,none⟩)]) rfl (enters_of func194 kr rfl) (fun l W c=>?_) (fun D W c L J=>?_)
 ·have i:∀ b o,G b=some o->W.heap[b]? = some o:=fun b o h=>by
   have p:=C.sub b o h;have K:=(xg.1 p).1;rw [c.block b om,m.block b K]; exact p
  refine (bCt _ _ _ y W ⟨i,fun r x=>(by cases x),fun b c=>(by cases c),xq⟩).mono ?_;rintro e M ⟨v,N,f,rfl,g,_⟩;exact ⟨⟨v,rfl⟩,g.os,g.tape,g.output,g.size,fun k F=>(g.old k F (fun h=>by cases h)).1⟩
 have q:W.heap[w.heap.size]? = some (.cells #[.slice none 0 0] 72 (0,0)):=(c.block _ om).trans t;obtain ⟨I,H⟩:=cell_of_box_a q;have j:Below w.heap.size w W:=m.trans (c.mono om);gi_wp2;refine ⟨by simp,.inl ⟨_,_,rfl,run_takeDeferred J,?_⟩⟩;have a:=j.grown (grownBy_putObj_a W D (.deferred none)) j.size (fun k e=>by cases e; omega);refine ⟨_,results_tmp rfl _ _ _,_,G,[],rfl,⟨⟨fun b o h=>?_,fun r x=>(by cases x),fun b c=>(by cases c),xq⟩,a.os,a.tape,a.output,a.size,fun b c _=>⟨a.block b c,rfl⟩,fun b c=>(by cases c),fun _ _ _ h=>h⟩,rfl,rfl⟩;have p:=C.sub b o h;exact (a.block b (xg.1 p).1).trans p
theorem xJ:fM prog 3=some ([.int .i64 0]):=by kernel_rfl
theorem bEG:cI prog 134=some (132,1,24):=by kernel_rfl
theorem aP6:dW prog 171=true:=by kernel_rfl
theorem zK:(prog.info? 132).bind (·.zero)=some (.slice none 0 0):=by kernel_rfl
theorem aQB:fM prog 134=some ([.slice none 0 0]):=by kernel_rfl
theorem aNJ:cR []=true:=vF fun j h=>absurd h (by simp)
theorem aXC (G:PM):CV 171 [.slice none 0 0] G (.bool false):=by
 refine aE func171 ntmps171 fun c a=>?_;refine zg 8 ?_;refine aL rfl (yW ⟨none,0⟩ [] _ dG dc) (zg 5 ?_);refine aH ?_;exact ⟨rfl,congrArg Value.bool (by rw [aNJ]; rfl)⟩
theorem aUy (b:Nat) (G:PM) (f:PB G b (cl [.slice none 0 0] 132)):CV 220 [.slice (some ⟨b,0,none⟩) 1 1,.func (.func 171) #[] #[]] G (.int .i64 (-1)):=by
 refine aE func220 ntmps220 fun l h=>?_;refine zg 14 ?_;refine lop (α:=Nat) (fun k=>[(8,true,.int .i64 (k:Int))]) (fun _=>[]) (fun k p=>(k<=1)) (fun k=>1-k) 0 [(0,true,_),(1,true,_),(7,true,_)] [] ?_;intro k n j g a c; try dsimp only at c g ⊢
 have m:=c;have f:=f.mono a;refine zg 6 ?_;refine cz rfl (fun i=>?_) fun i=>?_
 ·refine zg 15 ?_;have e:k=0:=by omega
  refine ia rfl .no bEG (.u rfl) (.u rfl) om om ?_;refine aP rfl ((f.rd (by rw [e]; rfl)).rd) ?_;refine kf rfl .no (.u rfl) aP6 (cS rfl cL) (fun _=>aXC _) (zg 10 ?_);exact lpo (k+1)
 refine zg 11 ?_;refine aH ?_;exact ⟨rfl,rfl⟩
theorem aSi (b:Nat) (G:PM) (c:PB G b (cl [.slice none 0 0] 132)):CV 170 [.slice (some ⟨b,0,none⟩) 1 1,.func (.func 171) #[] #[]] G (.bool false):=by
 refine aE func170 ntmps170 fun e a=>?_;refine zg 9 ?_;refine aL rfl (aUy _ _ c) (zg 5 ?_);refine aH ?_;exact ⟨rfl,rfl⟩
theorem aXD (b:Nat) (G:PM) (c:PB G b (cl [.slice none 0 0] 132)):CV 113 [.slice (some ⟨b,0,none⟩) 1 1] G (.bool true):=by
 refine aE func113 ntmps113 fun e a=>?_;refine zg 8 ?_;refine aL rfl (aSi _ _ c) (zg 5 ?_);refine aH ?_;exact ⟨rfl,rfl⟩
theorem aSa (c:Nat) (G:PM) (a:PB G c (cl [.slice none 0 0] 72)):CV 192 [.func (.func 194) #[] #[.pointer (some ⟨c,0,none⟩)]] G (.slice none 0 0):=by
 refine aE func192 ntmps192 fun f e=>?_;refine zg 8 ?_;refine aL rfl (aRG _ _ a) (zg 4 ?_);refine aH ?_;exact ⟨rfl,rfl⟩
theorem aNz (c:Nat) (G:PM) (a:PB G c (cl [.slice none 0 0] 72)):CV 143 [.func (.func 194) #[] #[.pointer (some ⟨c,0,none⟩)]] G (.slice none 0 0):=by
 refine aE func143 ntmps143 fun f e=>?_;refine zg 8 ?_;refine aL rfl (aSa _ _ a) (zg 6 ?_);refine aL rfl (aNy _) (zg 9 ?_);refine aH ?_;exact ⟨rfl,rfl⟩
theorem aVs (G:PM):CV 92 [.slice none 0 0,.slice none 0 0,.bool false] G (.slice none 0 0):=by
 refine aE func92 ntmps92 fun q i=>?_;refine zg 2 ?_;refine bF rfl fun b3=>zg 7 ?_;refine Go.Tan.b1 rfl (zl rfl) zK (.u rfl) rfl rfl dc ?_; intro m;refine cU rfl (Gp.add .here Gp.nil) (fun a j=>aXD _ _ ⟨bP _ _ _⟩) (zg 9 ?_);refine aQ rfl (aO6 _) ?_;rintro _ p f h ⟨l,rfl,rfl⟩;refine cU rfl (Gp.add .here Gp.nil) (fun a j=>aNz _ _ ⟨bP _ _ _⟩) (zg 10 ?_);refine lop (α:=Nat) (fun k=>[(8,true,.slice none 0 0)]) (fun k=>[.blk b3 (cl [.slice none 0 0] 132)]) (fun k t=>True) (fun k=>0) 0 [(2,true,_),(3,true,_),(7,true,_)] [_,_] ?_;intro k r n c g e; try dsimp only at e c ⊢
 refine zg 21 ?_;refine aH ?_;exact ⟨rfl,rfl⟩
theorem bAY (f:Value) (G:PM):CV 152 [.slice none 0 0,f] G (.tuple #[]):=by
 refine aE func152 ntmps152 fun i g=>?_;refine zg 1 ?_;refine lop (α:=Nat) (fun k=>[(0,true,.slice none 0 0)]) (fun _=>[]) (fun k l=>True) (fun k=>0) 0 [(1,true,_)] [] ?_;intro k j h a e c; try dsimp only at c a ⊢
 refine zg 14 ?_;refine aH ?_;exact ⟨rfl,rfl⟩
theorem bAh (n:Int) (G:PM):CV 95 [.slice none 0 0,.int .i64 n] G (.slice none 0 0):=by
 refine aE func95 ntmps95 fun e c=>?_;refine zg 2 ?_;refine bF rfl fun b3=>zg 7 ?_;refine aL rfl (yW ⟨none,0⟩ [] _ dG dc) (zg 3 ?_);refine .cond rfl (fun a=>by rw [aNJ] at a; cases a) (lB fun a=>?_);refine zg 4 ?_;refine al rfl aQB fun g=>zg 4 ?_;refine al rfl xJ fun f=>zg 6 ?_;refine tG rfl ?_;refine aL rfl (bAY _ _) (zg 9 ?_);refine aH ?_;exact ⟨rfl,rfl⟩
theorem bBf (y:Value) (n:Int) (G:PM):CV 94 [y,.int .i64 n,.slice none 0 0] G (.slice none 0 0):=by
 refine aE func94 ntmps94 fun j g=>?_;refine zg 19 ?_;refine lop (α:=Nat) (fun k=>[(7,true,.slice none 0 0),(16,true,.int .i64 (k:Int))]) (fun _=>[]) (fun k m=>(k=0)) (fun k=>0) 0 [(0,true,_),(1,true,_),(14,true,_),(15,true,_)] [] ?_;intro k l i c e a; try dsimp only at a c ⊢
 have h:=a;refine zg 6 ?_;refine .cond rfl (fun f=>by subst h; cases f) (lB fun f=>?_);refine zg 12 ?_;refine aH ?_;exact ⟨rfl,rfl⟩
end Go.Proofs.YtjkkbmdonbcccaaGreatDoor
