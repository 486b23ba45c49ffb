/- Lemmas and contracts of functions, joined. -/
import Derived.Test.YtjkkbmdonbcccaaGreatDoorGa2
import Derived.Control
set_option linter.unusedSimpArgs false
set_option linter.unusedVariables false
set_option linter.defProp false
set_option linter.unusedSectionVars false
open Array renaming setIfInBounds_comm->jp
open BitVec renaming ofNat->qb,ofInt->qk,eq_of_toNat_eq->wj,toNat_ofInt->zi,toNat_ofNat->jz,toNat_setWidth->kb,ofInt_natCast->kg,toNat_umod->vg,toNat_udiv->qaF
open Bool renaming and_eq_true->qi,or_eq_true->x4,false_or->zz,false_eq_true->jj
open ByteArray renaming empty->xc
open Int renaming not_lt->zx
open List renaming length_append->qa,mem_singleton->qd,mem_cons->qe,not_mem_nil->qf,range->qg,mem_cons_self->qh,mem_cons_of_mem->qj,mem_map->ql,mem_append->qn,length_cons->qp,length_take->qq,append_assoc->qr,length_nil->qt,getElem?_eq_getElem->qv,length_map->qw,nil_append->qy,take_length->qz,getD_eq_getElem?_getD->wc,take_of_length_le->wd,take_add_one->we,all_eq_true->wg,append_nil->wh,mem_append_left->wi,length->wm,take_append_drop->wn,eq_nil_of_length_eq_zero->wo,getElem?_eq_some_iff->wr,map_cons->wu,cons_append->ww,length_singleton->wy,pairwise_cons->wz,perm_append_comm->x5,map_append->x7,mem_append_right->x8,nodup_cons->xa,pairwise_iff_getElem->xb,length_pos_iff->xd,mem_range->xh,mem_flatMap->xo,nodup_nil->xx,getElem_of_mem->xz,nodup_append->yd,perm_middle->ye,mem_filter->yh,pairwise_append->yi,getElem?_append_left->ym,findIdx?_eq_some_iff_getElem->yo,takeWhile_append_dropWhile->yq,drop_eq_getElem_cons->yr,map_nil->zw,map_map->jd,flatten_cons->je,getElem_mem->jh,findIdx?_eq_none_iff->jy,set_append_right->ke,drop_sublist->kl,getElem?_append_right->kx,flatMap_map->kz,take_succ_cons->vb,take_left->vi,mem_flatten->vk,pairwise_flatten->qaD,append_cancel_right->qaE
open Nat renaming le_refl->qc,zero_le->qo,zero_add->wb,le_trans->wl,lt_or_ge->xk,mod_eq_of_lt->yp,lt_of_lt_of_le->yu,succ_pos->yy,add_assoc->zh,add_sub_cancel->jf,sub_zero->jq,sub_self->jr,zero_mul->vd,zero_lt_one->vt
open Option renaming bind_some->qu,isSome_iff_exists->yt
namespace Go.Tan
open Go.RowKit
variable {args:Array Value} {nm:ByteArray} {e:Edit} {f:FuncId} {g:Gone} {S:List (Nat×Dg)} {l hist:List Ent} {vs:List Value} {α:Type} {xs:List α} {m:Meta} {i n k E q T clk j sz safe:Nat} {x y:Operand} {post:PM→aB→Value→Prop} {P:Program} {h:Sh} {enc:α→List Value}
def tQ (d:Dg):Dg:=fun i=>(yl 32 d).getD i 0
def aHM (d:Dg):yl 32 (tQ d)=yl 32 d:=by
 rfl
theorem aD1 (l:List Dg):yl 32 (fH (l.map tQ))=yl 32 (fH l):=by
 match l with
 | []=>rfl
 | [d]=>simp[aME,aHM]
 | a :: b :: r =>
  have c:2<=(a :: b :: r).length:=by simp
  have f:=aDn c;have g:=aLh c;have e:((a :: b :: r).map tQ).length=(a :: b :: r).length:=qw ..;rw [aGa (l:=(a :: b :: r).map tQ) (by rw [e]; exact c),aGa c,e,←List.map_take,←List.map_drop];unfold oG;rw [aD1 _,aD1 _]
termination_by l.length
decreasing_by
 ·grind
 grind
def aI6 (d:Dg) (k:List Y->List Y->Option α) (r:List Y):nQ mB 32 k (yl 32 d++r)=k (yl 32 d) r:=by
 rfl
def aMG {last:Bool} {bd x:List Y} {k:List Y->Nat->Dg->List Y->Option α} {r:List Y} (e:bd.length<=1024) (c:last=true->bd=[]) (a:x.length<18446744073709551616) :
  wO last k ((if last then [] else gF bd)++jO x++r)=k bd x.length (tQ (gB x)) r:=by
 unfold wO jO;cases last with
 | true =>
  rw [c rfl];simp only [if_true,qy,qr];rw [uD a,aI6]; rfl
 | false =>
  simp only [jj,if_false,qr];rw [aZm om e,uD a,aI6]; rfl
def sO (bd x:List Y):RowT:=⟨bd,x,tQ (gB x)⟩
def aMH {f:List Y} (g:f.length<18446744073709551616):∀ (bs:List (List Y×List Y)) (acc:List RowT),(∀ b∈bs,b.1.length<=1024∧b.2.length<18446744073709551616) ->
  gT (bs.length+1) acc (bs.flatMap (·.2)++f) (bs.flatMap (fun b=>gF b.1++jO b.2)++jO f)=some (acc++bs.map (fun b=>sO b.1 b.2)++[sO [] f])
 | [],acc,_=>by
  have h:=aMG (last:=true) (bd:=[]) (x:=f) (r:=[]) (k:=fun bd a d r=>if a<=f.length then (if r=[]∧f.drop a=[] then some (acc++[⟨bd,f.take a,d⟩]) else none) else none) dc (fun _=>rfl) g;simp only [if_true,qy,wh] at h;simp only [qt,wb,gT,List.flatMap_nil,qy,zw,wh,beq_self_eq_true];rw [h,if_pos (qc _),qz,List.drop_length,if_pos ⟨trivial,rfl⟩]; rfl
 | b :: bs,acc,hb=>by
  have i:=hb b (qh ..);have ih:=aMH g bs (acc++[sO b.1 b.2]) (fun c j=>hb c (qj _ j));have h:=aMG (last:=false) (bd:=b.1) (x:=b.2) (r:=bs.flatMap (fun b=>gF b.1++jO b.2)++jO f)
   (k:=fun bd a d r=>if a<=(b.2++(bs.flatMap (·.2)++f)).length then gT (bs.length+1) (acc++[⟨bd,(b.2++(bs.flatMap (·.2)++f)).take a,d⟩]) ((b.2++(bs.flatMap (·.2)++f)).drop a) r else none) i.1 (fun e=>by cases e) i.2
  simp only [jj,if_false] at h;have l:(bs.length+1 == 0)=false:=by simp
  rw [qp,gT,l];simp_all[sO]
namespace Tab
variable (t:Tab)
def prs:List (List Y×List Y):=(qg t.cs.length).map fun i=>(nE t.cs i,t.prt i)
def rts:List RowT:=t.prs.map (fun b=>sO b.1 b.2)++[sO [] t.filt]
def prs_len:t.prs.length=t.cs.length:=by simp [prs]
def rts_len:t.rts.length=t.cs.length+1:=by simp [rts,prs_len]
def rts_at (h:i<t.cs.length):t.rts.getD i pP=sO (nE t.cs i) (t.prt i):=by
 simp[rts,ym,h,prs]
def rts_last:t.rts.getD t.cs.length pP=sO [] t.filt:=by
 simp[rts,prs_len]
def prs_out:t.prs.flatMap (·.2)=(List.range t.cs.length).flatMap t.prt:=by simp[prs,kz]
def prs_rows:t.prs.flatMap (fun b=>gF b.1++jO b.2)=t.rows t.cs.length:=by simp[prs,rows,kz]
def rts_leaf:t.rts.map (·.leaf)=(t.lvs t.cs.length++[gB t.filt]).map tQ:=by
 unfold rts prs lvs;simp only [x7,jd,wu,zw];rfl
end Tab
def aGN (root:Nat->Y) (h:Hd) (i:Nat) (p:List Y):wG root h i (aAW root h i p)=some p:=aW0 ..
def aJy (t:Tab) (h2:t.h.kind=2#8):dV t.info=t.h:=by
 have e:∀ (w:Nat) (x:BitVec w),qk w (x.toNat:Int)=x:=fun w x=>by
  simp
 cases t with | mk root h every bits cs =>
 cases h<;>simp_all[dV,Tab.info]
structure Tab.Good (t:Tab):Prop where
 ok:t.Ok
 kind:t.h.kind=2#8
 right:t.h.right=true
 ev1:1≤t.every
 ents:∀ e∈t.ents,cC e=true
 rises:cA t.ents=true
 some:t.cs≠[]
theorem aQd {t:Tab} (g:t.Good):rU t.root t.info t.bytes=some (t.rts,t.sidx):=by
 have o:=g.ok;have K:=o.cs_le;have m:=o.bytes_le;have q:=o.idx_le;have J:=o.filt_le;have I:t.sidx.length=t.idx.length+16:=aAX ..;have x:t.bytes=aU t.h++(((qg t.cs.length).flatMap t.prt++t.filt)++(t.sidx++cM (qk 64 (t.sidx.length:Int)) 8)):=by
  simp[Tab.bytes,Tab.out]
 have j:t.bytes.length=30+(((qg t.cs.length).flatMap t.prt++t.filt).length+(t.sidx.length+8)):=by
  grind[iX,jJ]
 have C:mY t.bytes=(t.h,0):=by rw [x,bAK,if_pos g.right]
 have G:=aJy t g.kind;generalize H:(qg t.cs.length).flatMap t.prt++t.filt=A at x j;have k:t.bytes.drop (t.bytes.length-8)=cM (qk 64 (t.sidx.length:Int)) 8:=by
  have Q:t.bytes=(aU t.h++(A++t.sidx))++cM (qk 64 (t.sidx.length:Int)) 8:=by simp_all
  have:t.bytes.length-8=(aU t.h++(A++t.sidx)).length:=by grind[iX]
  simp_all
 have y:(eA (t.bytes.drop (t.bytes.length-8)) 8).toNat=t.sidx.length:=by
  rw [k];have:=aHA (qk 64 (t.sidx.length:Int)) [];rw [wh] at this;rw [this,kg,jz,yp om]
 have c:(t.bytes.drop 30).take (t.bytes.length-38)=A++t.sidx:=by
  have P:(A++t.sidx).length=t.bytes.length-38:=by rw [qa]; omega
  grind[iX,vi]
 have p:t.bytes.length-38-t.sidx.length=A.length:=by omega
 unfold rU;rw [C,G,y,if_pos ⟨rfl,rfl,rfl,om,om⟩];simp only [c,p,vi,List.drop_left];have E:wG t.root t.h 0 t.sidx=some t.idx:=aGN ..;rw [E,qu];have D:(eJ fun n r=>if 0<n then gT (n+1) [] A r else none) t.idx=some t.rts:=by
  unfold Tab.idx;rw [uD om,if_pos (xd.2 g.some)];have:=aMH (f:=t.filt) om t.prs [] (fun b m=>by
   unfold Tab.prs at m;obtain ⟨i,q,rfl⟩:=ql.1 m;have a:=xh.1 q;have w:=o.prt_le a;have v:=aAm (nJ a);have N:bO t.cs.flatten<=50000:=o.light.2;have M:t.cs.flatten.length<=2000:=o.light.1;refine ⟨?_,by grind⟩;have L:(gR (t.cs.getD i [])).size<=1024:=by
    have F:=xd.2 (o.ne _ (nJ a));have e:(t.cs.getD i []).getD ((t.cs.getD i []).length-1) Ent.zero∈t.ents:=by
     unfold Tab.ents;refine vk.2 ⟨_,nJ a,?_⟩;rw [wc (l:=t.cs.getD i []),qv om]; simp
    have:=g.ents _ e;simp only [cC,dT] at this;grind[gR]
   show (nE t.cs i).length<=1024;unfold nE;split
   ·grind[aEg,bM]
   simp_all[bM])
  rw [t.prs_len,t.prs_out,t.prs_rows,H] at this;rw [this]; rfl
 rw [D,qu,if_pos];rw [t.rts_leaf];have O:yl 32 (fH ((t.lvs t.cs.length++[gB t.filt]).map tQ++[gB t.sidx]))=yl 32 (fH t.leaves):=by
  have w:=aD1 ((t.lvs t.cs.length++[gB t.filt]).map tQ++[gB t.sidx]);have v:=aD1 t.leaves;rw [← w,←v];unfold Tab.leaves;congr 2;simp only [x7,jd,wu,zw];rfl
 simp_all[yl,Tab.info]
def bBY {t:Tab} (h:i<t.cs.length):lJ t.root t.h (t.rts.getD i pP) (2+i)=some (gP t.every (t.cs.getD i [])):=by
 rw [t.rts_at h]; simp_all[lJ,sO,aHM,aGN,Tab.prt]
def aTF (t:Tab):lJ t.root t.h (t.rts.getD (t.rts.length-1) pP) 1=some (aAF (iU t.users) t.bits):=by
 rw [t.rts_len,jf,t.rts_last]; unfold lJ sO;rw [if_pos (aHM _).symm]; exact aGN ..
theorem toList_inj {a b:ByteArray} (h:(a.toList == b.toList)=true):a=b:=zC (by simp_all)
theorem aPw {a b c:Ent} (h:cR a b=true) (e:cR b c=true):cR a c=true:=by
 unfold cR at *;simp only [x4,dT] at *;grind[aAD,toList_inj]
theorem aGX (h:cA l=true):l.Pairwise fun a b=>cR a b=true:=by
 have k:∀ i,i+1<l.length->cR (l.getD i Ent.zero) (l.getD (i+1) Ent.zero)=true:=by
  simp_all[cA,B]
 have c:∀ (d i:Nat),i+d+1<l.length->cR (l.getD i Ent.zero) (l.getD (i+d+1) Ent.zero)=true:=by
  intro d;induction d<;>grind[aPw]
 rw [xb];intro i j g e f;obtain ⟨d,rfl⟩ : ∃ d,j=i+d+1:=⟨j-i-1,om⟩;have:=c d i e;simp_all
theorem aLt (h:l.Pairwise fun a b=>cR a b=true):cA l=true:=uS fun i c=>by
 grind[xb]
section
variable {user:ByteArray} {seq:BitVec 64}
theorem aS2 {t:Tab} (g:t.Good) (h:i<t.cs.length):vN t.root t.h t.rts i=some (t.cs.getD i []):=by
 have f:∀ e∈t.cs.getD i [],cC e=true:=fun e c=>g.ents e (vk.2 ⟨_,nJ h,c⟩);have l:cA (t.cs.getD i [])=true:=aLt ((qaD.1 (aGX g.rises)).1 _ (nJ h));have p:=aAm (nJ h);have n:bO t.cs.flatten<=50000:=g.ok.light.2;have m:t.cs.flatten.length<=2000:=g.ok.light.1;have c:=g.ok.every;have k:=g.ev1;have j:gY (t.cs.getD i []) t.every=(gP t.every (t.cs.getD i []),0):=by
  grind[aEp,aCi,aDl,aEH]
 have a:=aXv j k c om f;unfold vN;rw [bBY h,qu,a,if_pos rfl]
end
def aH9 {t:Tab} (g:t.Good):∀ n i acc,i+n=t.cs.length->nB t.root t.h t.rts n i acc=some (acc++(t.cs.drop i).flatten)
 | 0,i,acc,h=>by simp_all[nB]
 | n+1,i,acc,h=>by
  have hi:i<t.cs.length:=by omega
  have e:t.cs.getD i []=t.cs[i]:=by rw [wc,qv hi]; rfl
  rw [nB,aS2 g hi,qu,aH9 g n (i+1) _ om,yr hi,je,e,qr]
def aP3 {t:Tab} (g:t.Good):pX t.root t.info t.bytes=some t.ents:=by
 unfold pX;rw [aQd g,qu,aJy _ g.kind];simp only;rw [aTF,qu,t.rts_len,jf,aH9 g _ _ _ om,qu,if_pos]
 ·rfl
 ·exact ⟨g.rises,rfl,.inr ⟨rfl,rfl⟩⟩
section
variable {e:Ent}
def eR1 (h:1024<(e.user.size:Int)):cC e=false:=by simp_all[cC,decide_eq_false]
def eR2 (h:65536<(e.value.size:Int)):cC e=false:=by simp_all[cC,decide_eq_false]
theorem eR3 (h:72057594037927935<(e.seq.toNat:Int)):cC e=false:=by grind[cC]
def eR4 (h1:(e.user.size:Int)<=1024) (h2:(e.value.size:Int)<=65536) (h3:(e.seq.toNat:Int)<=72057594037927935) (c:(e.kind.toNat:Int)=0):cC e=(e.value.toList == (⟨#[]⟩ : ByteArray).toList):=by
 have a:e.kind=0#8:=wj (by simp_all);unfold cC;rw [decide_eq_true h1,decide_eq_true h2,decide_eq_true (p:=e.seq.toNat<=72057594037927935) om,if_pos a,show (⟨#[]⟩ : ByteArray).toList=[] by simp]; rfl
theorem eR5 (h1:(e.user.size:Int)<=1024) (h2:(e.value.size:Int)<=65536) (h3:(e.seq.toNat:Int)<=72057594037927935) (c:¬ (e.kind.toNat:Int)=0):cC e=((e.kind.toNat:Int) == 1):=by
 have a:¬ e.kind=0#8:=fun q=>c (by simp_all);unfold cC;rw [decide_eq_true h1,decide_eq_true h2,decide_eq_true (p:=e.seq.toNat<=72057594037927935) om,if_neg a];show decide (e.kind=1#8)=decide ((e.kind.toNat:Int)=1);exact decide_eq_decide.2 ⟨fun q=>by simp_all,fun q=>wj (by grind)⟩
end
section
variable {a b:ByteArray} {k:Nat}
theorem aEl (g:k<a.size∧k<b.size) (f:∀ j,j<k->(yb a).getD j 0=(yb b).getD j 0) (c:¬ (((yb a).getD k 0).toNat:Int)=(((yb b).getD k 0).toNat:Int)):gA (yb a) (yb b)=k :=
 aCs (by grind[bM]) (by grind[bM]) f (.inr (.inr fun e=>c (by rw [e])))
theorem aQx (c:k<a.size∧k<b.size) (f:∀ j,j<k->(yb a).getD j 0=(yb b).getD j 0) (h:(((yb a).getD k 0).toNat:Int)<(((yb b).getD k 0).toNat:Int)∧1<(((yb b).getD k 0-(yb a).getD k 0).toNat:Int)):aQ (yb (aQ ((yb a).take k))++yb (aQ [(yb a).getD k 0+1#8]))=aQ (pZ (yb a) (yb b)):=by
 obtain ⟨i,g⟩:=h;have e:=aEl c f om;rw [iE,iE];unfold pZ;rw [e,if_pos];grind[bM,yb]
theorem aQv (f:k<a.size∧k<b.size) (g:∀ j,j<k->(yb a).getD j 0=(yb b).getD j 0) (c:¬ (((yb a).getD k 0).toNat:Int)=(((yb b).getD k 0).toNat:Int)) (h:(decide ((((yb a).getD k 0).toNat:Int)<(((yb b).getD k 0).toNat:Int))&&decide ((((yb b).getD k 0-(yb a).getD k 0).toNat:Int) > 1))=false):a=aQ (pZ (yb a) (yb b)):=by
 have e:=aEl f g c;unfold pZ;rw [e,if_neg,rV];grind[yb]
theorem aQu (f:k<=a.size∧k<=b.size) (hm:min a.size b.size<=k) (c:∀ j,j<k->(yb a).getD j 0=(yb b).getD j 0):a=aQ (pZ (yb a) (yb b)):=by
 have e:gA (yb a) (yb b)=k:=aCs (by grind[bM]) (by grind[bM]) c (by grind[bM]);unfold pZ;rw [e,if_neg (by grind[bM]),rV]
theorem aQw {x:Y} (h:a.size<=1000000):(aQ ((yb a).take k)).size+(aQ [x]).size<=9223372036854775807:=by
 grind[fJ,bM]
theorem aIY (e:∀ j,j<k->(yb a).getD j 0=(yb b).getD j 0) (h:(((yb a).getD k 0).toNat:Int)=(((yb b).getD k 0).toNat:Int)):∀ j,j<k+1->(yb a).getD j 0=(yb b).getD j 0:=fun j c=>by
 grind[wj]
end
section
variable {α:Type} {p:α→Bool} {l:List α} {k:Nat} {x:α}
def cZ (p:α->Bool) (l:List α):Int:=match l.findIdx? p with | some i=>(i:Int) | none => -1
theorem aFk (h:∀ j y,j<k->l[j]? = some y->p y=false) (c:l[k]? = some x) (e:p x=false):∀ j y,j<k+1->l[j]? = some y->p y=false:=fun j y f a=>by
 grind
theorem aFi (h:∀ j y,j<k->l[j]? = some y->p y=false) (a:l[k]? = some x) (c:p x=true):fX [.int .i64 (k:Int)]=.int .i64 (cZ p l):=by
 have e:k<l.length:=(wr.1 a).1;have:l.findIdx? p=some k:=by
  grind[yo]
 simp_all[cZ,fX]
theorem aFj (h:∀ j y,j<k->l[j]? = some y->p y=false) (e:l.length<=k):fX [.int .i64 (-1)]=.int .i64 (cZ p l):=by
 have:l.findIdx? p=none:=by
  rw [jy];intro y a;obtain ⟨i,c,rfl⟩:=xz a;exact h i _ om (qv c)
 grind[cZ,fX]
theorem aFh:decide (cZ p l>=0)=l.any p:=by
 grind[cZ]
end
section
variable {l:List Ent} {k:Nat} {x y:Ent}
theorem aL4:((!le x.user y.user)||(x.user.toList == y.user.toList&&decide ((x.seq.toNat:Int)<=(y.seq.toNat:Int)))) = !cR x y:=by
 rw [aKT,Bool.not_not];unfold cR;rcases aBb x.user y.user with h | h | h
 ·grind[toList_inj,aAC]
 ·rw [h,vY,beq_self_eq_true];grind
 grind[toList_inj,aAC]
def aX1 (a:l[k]? = some x):l.getD k Ent.zero=x:=by simp_all
theorem aL6 (g:1<=k) (h:∀ j,j+1<k->cR (l.getD j Ent.zero) (l.getD (j+1) Ent.zero)=true) (f:l[k-1]? = some x) (a:l[k]? = some y) (c:((!le x.user y.user)||(x.user.toList == y.user.toList&&decide ((x.seq.toNat:Int)<=(y.seq.toNat:Int))))=false) :
  ∀ j,j+1<k+1->cR (l.getD j Ent.zero) (l.getD (j+1) Ent.zero)=true:=fun j i=>by
 by_cases e:j+1=k
 ·have m:j=k-1:=by omega
  grind[aL4]
 grind
theorem aL5 (g:1<=k) (f:l[k-1]? = some x) (a:l[k]? = some y) (c:((!le x.user y.user)||(x.user.toList == y.user.toList&&decide ((x.seq.toNat:Int)<=(y.seq.toNat:Int))))=true):cA l=false:=by
 have e:k<l.length:=(wr.1 a).1;refine aX8 (i:=k-1) om ?_;grind[aL4]
def aX2 (a:l.length<=k∨l.length=0) (h:∀ j,j+1<k->cR (l.getD j Ent.zero) (l.getD (j+1) Ent.zero)=true):cA l=true:=uS fun i c=>h i om
theorem aM9 (a:bO l<=100000000) (c:l.length<=100000000) (e:k<=l.length):0<=gV l k∧gV l k<=900000000:=by
 grind[aM8,aEH]
def aZv (a:l[k]? = some x):gV l (k+1)=gV l k+((x.user.size:Int)+x.value.size+8):=by rw [gV,aX1 a]
theorem aRx {a:Int} (h:∀ j,j<k->gV l (j+1)<a) (c:¬ gV l (k+1)>=a):∀ j,j<k+1->gV l (j+1)<a:=fun j e=>by
 grind
theorem aTl (h:m.wf) : [V 2#8,.int .u8 m.level,.int .u64 m.gen,.int .u64 m.epoch,.int .u64 m.number]=(dV m).cells:=by
 have c:((qk 8 m.level).toNat:Int)=m.level:=by have:=h.level; grind[zi]
 have a:∀ z:Int,0<=z∧z<=18446744073709551615->((qk 64 z).toNat:Int)=z:=fun z f=>by grind[zi]
 have e:(dV m).cells=[V 2#8,.int .u8 ((qk 8 m.level).toNat:Int),.int .u64 ((qk 64 m.gen).toNat:Int),.int .u64 ((qk 64 m.epoch).toNat:Int),.int .u64 ((qk 64 m.number).toNat:Int)]:=rfl;rw [e,c,a _ h.gen,a _ h.epoch,a m.number (by have:=h.number; omega)]
end
def fL (e m:Ent):Bool := !(m.user.toList == e.user.toList)
def dZ (l:List Ent):Nat:=if cZ (fL (bJ l)) l<0 then l.length else (cZ (fL (bJ l)) l).toNat
def vM (last:Bool) (e:Ent):Bool:=last&&decide (e.kind=0#8)
def qI (last:Bool) (e:Ent):List Ent:=if vM last e=true then [] else [e]
def jW:Nat->Bool->List Ent->List Ent
 | 0,_,_=>[]
 | f+1,last,l=>if l=[] then [] else qI last (bJ l)++jW f last (l.drop (dZ l))
def qH (last:Bool) (l:List Ent):List Ent:=jW l.length last l
def zV (e:Ent) (r:List Ent):bJ (e :: r)=e:=rfl
theorem aJ5 {p:α->Bool} {l:List α}:cZ p l<(l.length:Nat)∧(cZ p l<0∨∀ x,l[0]? = some x->p x=false->0<cZ p l):=by
 grind[cZ,yo]
def aLA (e:Ent):fL e e=false:=by simp[fL]
def aDO (h:0<l.length):l[0]? = some (bJ l):=by
 simp_all[bJ]
theorem aLU:dZ l<=l.length:=by
 have:=(aJ5 (p:=fL (bJ l)) (l:=l)).1;grind[dZ]
def aAP (h:0<l.length):0<dZ l:=by
 unfold dZ; split
 ·exact h
 ·have:=(aJ5 (p:=fL (bJ l)) (l:=l)).2.resolve_left om _ (aDO h) (aLA _); omega
theorem aGL (h:cZ (fL (bJ l)) l<0):dZ l=l.length:=if_pos h
theorem aGK (h:0<=cZ (fL (bJ l)) l):((dZ l:Nat):Int)=cZ (fL (bJ l)) l:=by unfold dZ; grind
def aUj {f:Nat} {last:Bool} (h:l.length=0):jW f last l=[]:=by
 cases f<;>simp_all[jW]
theorem aKK {f:Nat} {last:Bool} (h:0<l.length) (a:l.length<=f) :
  ∃ f',f=f'+1∧jW f last l=qI last (bJ l)++jW f' last (l.drop (dZ l))∧(l.drop (dZ l)).length<=f'∧(l.drop (dZ l)).length<l.length:=by
 have c:=aAP h;cases f with
 | zero=>omega
 | succ f=>exact ⟨f,rfl,by rw [jW,if_neg (fun e=>by simp_all)],by grind,by grind⟩
theorem aUp {last:Bool} {e:Ent} {K:List Ent} (h:K=[e]∨K=[]∧vM last e=true) (a:K=[e]->vM last e=false):K=qI last e:=by
 unfold qI;grind
theorem aFI:∀ u∈l.flatMap Ent.cells,u.oneCell'=true:=fun u a=>by grind[Ent.one]
def aSB {last:Bool} {e:Ent} {p:Prop} (c:(last=true∧p)∧((e.kind.toNat:Nat):Int)=0):vM last e=true:=by
 unfold vM; rw [c.1.1,Bool.true_and,decide_eq_true_eq]; apply wj; simp_all
theorem aSA {last:Bool} {e:Ent} {K:List Ent} (c:(last=false∨(K.length:Int)<=0)∨¬((e.kind.toNat:Nat):Int)=0) (h:K=[e]):vM last e=false:=by
 unfold vM;grind
def aUn {last:Bool} {f a:Nat} {lk L O K R:List Ent} (c:O++jW f last lk=R) (hm:jW f last lk=qI last (bJ lk)++jW a last (lk.drop n)) (g:K=qI last (bJ lk)) (e:L=lk.drop n):(O++K)++jW a last L=R:=by
 simp_all
def aUl {last:Bool} {f:Nat} {lk O R:List Ent} (a:O++jW f last lk=R) (h:lk.length=0):O=R:=by
 simp_all[aUj]
def Ct.monoG {G:PM} {μ:aB} {Q j:PM->aB->Value->Prop} (h:Ct P f args G μ Q) (l:∀ a μ' u,PM.le G a->Q a μ' u->j a μ' u):Ct P f args G μ j:=by
 intro w i;refine (h w i).mono ?_;rintro e p ⟨u,a,k,rfl,g,n⟩;exact ⟨u,a,k,rfl,g,l _ _ _ (fun b o c=>g.le b o (fun m=>by rw [i.apart b m] at c; cases c) c) n⟩
def kY:List Ent->Nat
 | []=>0
 | e :: r=>e.user.size+e.value.size+kY r
def dW (l:List Ent):Nat:=8*l.length+kY l
def smE (l:List Ent):Prop:=∀ e,e∈l->e.user.size+e.value.size<=100000
theorem aGy (h:smE l):kY l<=100000*l.length:=by
 induction l with
 | nil=>trivial
 | cons e r ih=>grind[kY,smE]
theorem aNE {a b:List Ent}:kY (a++b)=kY a+kY b:=by
 induction a<;>grind[kY]
def aZy {e:Ent} (h:l[k]? = some e):kY (l.take (k+1))=kY (l.take k)+(e.user.size+e.value.size):=by
 simp_all[we,aNE,kY]
def smE.take {l:List Ent} (h:smE l) (k:Nat):smE (l.take k):=fun e a=>h e (List.mem_of_mem_take a)
def smE.drop {l:List Ent} (h:smE l) (k:Nat):smE (l.drop k):=fun e a=>h e (List.mem_of_mem_drop a)
def aAi (p:Pe):Value:=p.1.val p.2.length
def pG (v:Value):List Value:=[v]
def aMm {x:α}:(xs++[x])[xs.length]? = some x:=by simp
def aMn {x y:α}:(xs++[x]).set xs.length y=xs++[y]:=by simp
def aL0 {G:PM} {μ a:aB} {b m cap:Nat} {v:Value} (h:MTake μ (rS 1 pG (.slice (some ⟨b,0,none⟩) m cap) E vs) a) (c:vs[k]? = some v) (e:q=k):Rd G μ ⟨b,q,none⟩ v :=
 rN (G:=G) h (fun _ _=>rfl) c (q:=q) om 0 _ rfl
def uF (D:List Pe) (has:Bool) (vc:Value):List Value:=D.map aAi++(if has=true then [vc] else [])
structure StS where
 D:List (List Ent)
 has:Bool
 C:List Ent
 room:Nat
def StS.out (s:StS):List (List Ent):=s.D++(if s.has=true then [s.C] else [])
def kU (most:Nat) (s:StS) (P:List Ent):StS :=
 if s.has=false∨s.room<dW P then ⟨s.out,true,P,max most 1-min (max most 1) (dW P)⟩ else ⟨s.D,true,s.C++P,s.room-min s.room (dW P)⟩
def gE:Nat->List Ent->List (List Ent)
 | 0,_=>[]
 | f+1,l=>if l=[] then [] else l.take (dZ l) :: gE f (l.drop (dZ l))
def kT (most:Nat) (l:List Ent):List (List Ent):=((gE l.length l).foldl (kU most) ⟨[],false,[],0⟩).out
def aYU {f:Nat} (h:l.length=0):gE f l=[]:=by
 cases f<;>simp_all[gE]
theorem aYV {f:Nat} (h:0<l.length) (a:l.length<=f):∃ f',f=f'+1∧gE f l=l.take (dZ l) :: gE f' (l.drop (dZ l))∧(l.drop (dZ l)).length<=f':=by
 have c:=aAP h;cases f with
 | zero=>omega
 | succ f=>exact ⟨f,rfl,by rw [gE,if_neg (fun e=>by simp_all)],by grind⟩
theorem aLV (h:∀ j y,j<k->l[j]? = some y->fL (bJ l) y=false) (c:k=l.length∨∃ x,l[k]? = some x∧fL (bJ l) x=true):dZ l=k:=by
 rcases c with rfl | ⟨x,e,m⟩
 ·have g:cZ (fL (bJ l)) l = -1:=by
   unfold cZ;rw [jy.2 fun y a=>by obtain ⟨i,p,rfl⟩:=xz a; simp_all]
  simp_all[aGL]
 ·have f:k<l.length:=(wr.1 e).1;have g:cZ (fL (bJ l)) l=k:=by
   unfold cZ;rw [show l.findIdx? (fL (bJ l))=some k from yo.2 ⟨f,by simp_all,fun j n=>by grind⟩]
  grind[aGK]
def aKd {D:List Pe}:(aO D).length=D.length:=qw _
def aLe {D:List Pe} {has:Bool} {s:Sh} {C:List Ent}:∃ D':List Pe,uF D has (s.val C.length)=D'.map aAi∧aO D'=(⟨aO D,has,C,0⟩ : StS).out∧∀ {G:PM},AllE G D->SlR G 4 Ent.cells s C->AllE G D':=by
 cases has with
 | false=>exact ⟨D,by simp [uF],by simp [StS.out],fun h _=>h⟩
 | true =>
  refine ⟨D++[(s,C)],by simp [uF,aAi],by simp [StS.out,aO],fun h c p a=>?_⟩;rcases qn.1 a with a | a
  ·exact h p a
  simp_all
theorem aZh {most:Nat} {D c:List Pe} {has:Bool} {C e:List Ent} {room a:Nat} {P:List Ent} (h:(⟨aO c,true,e,a⟩ : StS)=kU most ⟨aO D,has,C,room⟩ P) (hm:most<=4611686018427387904) (f:room<=4611686018427387904) :
  c.length<=D.length+1∧e.length<=C.length+P.length∧a<=4611686018427387904:=by
 have i:(aO c).length=c.length:=qw _;have g:(aO D).length=D.length:=qw _;unfold kU at h;split at h
 ·grind[StS.out]
 grind
def aUy {most f a:Nat} {lk L c:List Ent} {s s' R:StS} (g:(gE f lk).foldl (kU most) s=R) (e:gE f lk=lk.take n :: gE a (lk.drop n)) (i:L=lk.take n) (j:c=lk.drop n) (h:s'=kU most s L):(gE a c).foldl (kU most) s'=R:=by
 simp_all
theorem aUx (h:∀ j y,j<k->l[j]? = some y->fL (bJ l) y=false) (c:(k:Int)<(l.length:Nat)∧(l.getD k Ent.zero).user.toList=(bJ l).user.toList):∀ j y,j<k+1->l[j]? = some y->fL (bJ l) y=false:=fun j y e a=>by
 grind[fL]
def aKO:∀ j y,j<1->l[j]? = some y->fL (bJ l) y=false:=fun j y c a=>by
 simp_all[bJ,aLA]
theorem aUw (a:k<=l.length) (h:∀ j y,j<k->l[j]? = some y->fL (bJ l) y=false) (c:(l.length:Int)<=(k:Nat)∨¬ (l.getD k Ent.zero).user.toList=(bJ l).user.toList):dZ l=k:=by
 refine aLV h ?_;grind[fL]
def SlR.asPe {G:PM} {s:Sh} {D:List Pe} (h:SlR G 1 pG s (D.map aAi)):SlR G 1 jT s D:=by
 refine ⟨fun a=>h.there (fun e=>a (List.map_eq_nil_iff.1 e)),by have:=h.le; simp_all,fun i x c=>?_⟩;exact h.rd i (aAi x) (by simp_all)
def SrE.of (h:cA l=true):SrE l:=aGX h
theorem aA5 {ls:List (List Ent)}:∀ {i j:Nat},j<i->0<(ls.getD j []).length->cX ls i≠0∧cR (bJ (ls.getD j [])) (bJ (ls.getD (cX ls i-1) []))=false
 | 0,j,h,_=>absurd h (Nat.not_lt_zero _)
 | i+1,j,h,hn=>by
  rw [cX];by_cases hc:tP ls (cX ls i) i=true
  ·rw [if_pos hc];refine ⟨Nat.succ_ne_zero _,?_⟩;show cR _ (bJ (ls.getD i []))=false;rcases Nat.lt_or_ge j i with a | a
   ·obtain ⟨hb,ha⟩:=aA5 a hn;unfold tP at hc;rw [qi,x4,decide_eq_true_eq,decide_eq_true_eq] at hc;grind[aEZ]
   grind[aEX]
  rw [if_neg hc];rcases xk j i with a | a
  ·exact aA5 a hn
  have e:j=i:=by omega
  simp_all[tP]
theorem aSU {e:Ent} (f:SrE l) (h:0<l.length->cR (bJ l) e=false):∀ x∈dU e l,cR e x=true:=by
 cases l with
 | nil=>simp[dU]
 | cons a r =>
  have g:=h (yy _);rw [zV] at g;have k:=wz.1 f;intro x j;cases i:cR e a with
  | true =>
   have c:x∈a :: r:=by
    grind[dU]
   rcases qe.1 c with rfl | c
   ·exact i
   grind[aEZ]
  | false =>
   have c:x∈r:=by
    simp_all[dU,zV]
   have n:a.user=e.user∧a.seq=e.seq:=Classical.byContradiction fun m=>by
    simp_all[aEY]
   simp_all[pC]
theorem wB:∀ {f:Nat} {ls:List (List Ent)},(∀ l∈ls,SrE l)->dI ls<=f->SrE (lY f ls)∧(lY f ls).length<=dI ls∧∀ x∈lY f ls,∃ l∈ls,x∈l
 | 0,ls,_,_=>⟨List.Pairwise.nil,Nat.zero_le _,fun x c=>nomatch c⟩
 | f+1,ls,hs,hf=>by
  by_cases hb:cX ls ls.length=0
  ·simp_all[SrE,lY]
  obtain ⟨e,he⟩ : ∃ e,bJ (ls.getD (cX ls ls.length-1) [])=e:=⟨_,rfl⟩;have C:=(aA6 (ls:=ls) (i:=ls.length)).resolve_left hb;have D:=aA4 (ls:=ls) (i:=ls.length);obtain ⟨m,r,w,v,G⟩:=aF8 hb he hf;have g:m=f:=by omega
  subst g;rw [w];have t:∀ l∈ls.map (dU e),∀ x∈l,cR e x=true:=by
   intro l a x c;obtain ⟨k,h,rfl⟩:=ql.1 a;refine aSU (hs k h) (fun A=>?_) x c;obtain ⟨j,E,rfl⟩:=xz h;have F:ls.getD j []=ls[j]:=by simp_all
   grind[aA5]
  obtain ⟨p,y,n⟩:=wB (f:=m) (ls:=ls.map (dU e)) (fun l a=>by
   obtain ⟨k,h,rfl⟩:=ql.1 a;grind[dU,SrE]) v
  refine ⟨wz.2 ⟨fun x c=>?_,p⟩,by grind,fun x c=>?_⟩
  ·grind
  rcases qe.1 c with rfl | c
  ·grind[jh,bJ]
  obtain ⟨l,a,q⟩:=n x c;obtain ⟨k,h,rfl⟩:=ql.1 a;grind[dU]
theorem aBX:∀ {f:Nat} {last:Bool} {l:List Ent},(jW f last l).Sublist l
 | 0,_,_=>List.nil_sublist _
 | f+1,last,l=>by
  rw [jW]; split
  ·simp
  ·rename_i hne;have h0:0<l.length:=xd.2 hne;have c:(qI last (bJ l)).Sublist (l.take (dZ l)):=by
    have h : [bJ l].Sublist (l.take (dZ l)):=by
     have g:=aAP h0;cases l with
     | nil=>simp_all
     | cons a r =>
      obtain ⟨m,e⟩ : ∃ m,dZ (a :: r)=m+1:=⟨dZ (a :: r)-1,om⟩;grind[bJ]
    grind[qI]
   have:=c.append (aBX (f:=f) (last:=last) (l:=l.drop (dZ l)));rwa [wn] at this
def aUh {last:Bool} (h:cA l=true) (hm:smE l):cA (qH last l)=true∧(qH last l).length<=l.length∧smE (qH last l) :=
 ⟨SrE.rises (List.Pairwise.sublist aBX (SrE.of h)),aBX.length_le,fun x a=>hm x (aBX.subset a)⟩
theorem aEd (a b:ByteArray):(a == b)=decide (a=b):=by
 rcases a with ⟨a⟩; rcases b with ⟨b⟩
 show (a == b)=_;grind
abbrev FE:=ByteArray×Value×Nat
def mE (e:FE):MapEntry:=⟨.string e.1,e.2.1,e.2.2⟩
def mO (es:List FE) (clk:Nat):Obj:=.map (es.map mE).toArray clk
def gS (k:ByteArray):List FE->Option Value
 | []=>none
 | e :: r=>if e.1=k then some e.2.1 else gS k r
def qP (k:ByteArray) (v:Value):List FE->List FE
 | []=>[]
 | e :: r=>if e.1=k then (e.1,v,e.2.2) :: r else e :: qP k v r
def tZ (k:ByteArray):List FE->List FE
 | []=>[]
 | e :: r=>if e.1=k then r else e :: tZ k r
def pH (k:ByteArray):List FE->Nat->Option (Nat×Value)
 | [],_=>none
 | e :: r,i=>if e.1=k then some (i,e.2.1) else pH k r (i+1)
def aBO {k:ByteArray}:∀ (es:List FE) (i:Nat),Instr.findNow .string (.string k) (es.map mE) i=some (pH k es i)
 | [],i=>rfl
 | e :: es,i=>by
  rw [List.map_cons,Instr.findNow,pH];by_cases h:e.1=k
  ·simp_all[Instr.sameNow,mE,aEd]
  ·rw [if_neg h];have:(k == e.1)=false:=by rw [aEd]; exact decide_eq_false fun q=>h q.symm
   simp only [Instr.sameNow,mE,this];exact aBO es (i+1)
theorem aDH {k:ByteArray}:∀ {es:List FE} {i:Nat},pH k es i=none->gS k es=none
 | [],_,_=>rfl
 | e :: es,i,h=>by
  unfold pH at h; unfold gS;split at h
  ·cases h
  ·rename_i q; rw [if_neg q]; exact aDH h
def aBP {k:ByteArray} {j:Nat} {v:Value}:∀ {es:List FE} {i:Nat},pH k es i=some (j,v)->i<=j∧gS k es=some v∧(∃ e,es[j-i]? = some e∧e.1=k) ∧
  (∀ u,((es.map mE).modify (j-i) fun e=>{ e with key:=.string k,val:=u })=(qP k u es).map mE)∧((es.map mE).eraseIdx (j-i)=(tZ k es).map mE)
 | e :: es,i,h=>by
  unfold pH at h;split at h
  ·simp_all[gS,qP,mE,tZ]
  rename_i q;obtain ⟨h1,h2,⟨e',h3,h4⟩,h5,h6⟩:=aBP h;have a:j-i=(j-(i+1))+1:=by omega
  refine ⟨om,by simp_all[gS],⟨e',by simp_all,h4⟩,fun u=>?_,?_⟩
  ·simp_all[qP]
  simp_all[tZ]
def sQ (P:Program) (T:TypeId):Option TypeId :=
 match P.underlying T with
 | some (.map k e)=>match P.underlying k with
  | some .string=>some e
  | _=>none
 | _=>none
theorem aBk {T e:TypeId} (h:sQ P T=some e):∃ k,P.underlying T=some (.map k e)∧P.underlying k=some .string:=by
 grind[sQ]
def aCm {T:TypeId} (a:P.underlying T=some .string) (e:Bool) (n:Nat) (k:ByteArray) (w:World):(Instr.checkKey e (n+1) T (.string k)).run P w=.ok () w:=by
 simp_all[Instr.checkKey,run_underlying]
theorem Tr.setO {G:PM} {w:World} {b:Nat} {o o':Obj} (f:Sat G [.blk b o] w):Tr G (keys [.blk b o]) w G [.blk b o'] { w with heap:=w.heap.setIfInBounds b o' }:=by
 have i:w.heap[b]? = some o:=f.own (.blk b o) (qd.2 rfl);have g:b<w.heap.size:=(Array.getElem?_eq_some_iff.1 i).1;have k:G b=none:=f.apart b (by simp [keys,Res.keys]);refine ⟨⟨fun c o a=>?_,fun r j=>?_,fun c a=>?_,by simp [keys,Res.keys]⟩,rfl,rfl,rfl,by simp,fun c _ a=>⟨?_,rfl⟩,fun c a=>.inl a,fun _ _ _ h=>h⟩
 ·show (w.heap.setIfInBounds b _)[c]? = _;rw [Array.getElem?_setIfInBounds_ne (fun e=>by simp_all)];exact f.sub c o a
 ·simp_all[Res.sat]
 ·simp_all[keys,Res.keys]
 grind[keys,Res.keys]
theorem Tr.setT {e G:PM} {K0:List Nat} {w0 w:World} {b:Nat} {o o':Obj} (ht:Tr e K0 w0 G [.blk b o] w) (h:b∈K0):Tr e K0 w0 G [.blk b o'] { w with heap:=w.heap.setIfInBounds b o' }:=by
 have a:=Tr.setO (o':=o') ht.sat;refine ⟨a.sat,a.os.trans ht.os,a.tape.trans ht.tape,a.output.trans ht.output,wl ht.size a.size,fun c g f=>?_,ht.mine,ht.le⟩;have i:=ht.old c g f;grind
def yS (es:List FE) (seen:List Nat):Option FE->Prop
 | none=>∀ e∈es,e.2.2∈seen
 | some e=>e∈es∧¬ e.2.2∈seen
def nxT:Option FE->Array Value
 | none=>#[.bool false]
 | some e=>#[.bool true,.string e.1,e.2.1]
def nxV (o:Option FE):Value:=.tuple (nxT o)
def aLT (o:Option FE):(nxT o).toList[0]? = some (.bool o.isSome):=by cases o<;>rfl
def iY (bm since last:Nat) (seen:List Nat):Obj:=.mapIter (some bm) since seen.toArray last
def nxI (bm since last clk:Nat) (seen:List Nat):Option FE->Obj
 | none=>iY bm since last seen
 | some e=>iY bm since clk (seen++[e.2.2])
def aYZ (a:0<n) (w:World):∃ j w',(choose (.mapNext n)).run P w=.ok j w'∧j<n∧(w'=w∨w' = { w with drawn:=w.drawn+1 }):=by
 by_cases c:(Question.mapNext n).forced=true
 ·exact ⟨0,w,by simp_all,a,.inl rfl⟩
 ·exact ⟨(Question.mapNext n).cut (w.tape w.drawn (.mapNext n)),{ w with drawn:=w.drawn+1 },by simp_all,Nat.mod_lt _ a,.inr rfl⟩
section
variable {dr:Bool} {mc:Md} {P:Program} {n:Fm} {l:List Oper} {K:aF→PM→aB→Prop} {i:Nat} {σ:List Nat} {ρ:aF} {G:PM} {μ:aB}
variable {d t:Nat} {p:String} {af:Array Edge} {g:Option (Nat×Bool)} {c:Bool}
def mkM {T:TypeId} (f:nth l i=some ⟨some d,.makeMap T none,t,p,af,none⟩) (h:∀ b,Wo dr mc P n l K σ ((d,true,.map (some b)) :: ρ) G (.blk b (mO [] 0) :: μ)):Wo dr mc P n l K (i :: σ) ρ G μ:=by
 refine .act (μ₁:=[]) (μ₂:=μ) (post:=fun j c v=>∃ b,j=G∧c=[.blk b (mO [] 0)]∧v=.map (some b)) f (.inl rfl) .no (.refl _) (fun a w k e=>.inl ?_) ?_
 ·have g:Tr G (keys []) w G (.blk w.heap.size (.map #[] 0) :: []) (w.alloc (.map #[] 0)):=(gX (Sat.left (μ:=[]) e)).alloc _;exact ⟨.map (some w.heap.size),w.alloc (.map #[] 0),G,[.blk w.heap.size (mO [] 0)],.inl (by rfl),g,w.heap.size,rfl,rfl,rfl⟩
 simp_all[bV]
def aMV {e b:Nat} {es:List FE} {k:ByteArray} {z:Value} {w:World} {ok:Bool} (h:sQ P T=some e) (n:(P.info? e).bind (·.zero)=some z) (h3:w.heap[b]? = some (mO es clk)) :
  (Instr.lookup T (.map (some b)) (.string k) ok).run P w=.ok (if ok then .tuple #[(gS k es).getD z,.bool (gS k es).isSome] else (gS k es).getD z) w:=by
 obtain ⟨m,l,f⟩:=aBk h;have g:(zeroValue e).run P w=.ok z w:=by
  cases p:P.info? e<;>simp_all[zeroValue,typeInfo]
 have a:(getObj b).run P w=.ok (.map (es.map mE).toArray clk) w:=by simp_all[getObj,Sem.run,mO]
 have i:=aBO (k:=k) es 0;simp only [Instr.lookup,Sem.run_bind,run_underlying l,Result.andThen_ok,a,Sem.run_pure,aCm f,Instr.findKey,run_underlying f,i];cases c:pH k es 0 with
 | none=>rw [aDH c]; simp_all
 | some jv =>
  obtain ⟨j,v⟩:=jv;rw [(aBP c).2.1]; rfl
def lkS {e b:Nat} {es:List FE} {k:ByteArray} {z:Value} (E:nth l i=some ⟨some d,.lookup T x y false,t,p,af,g⟩) (F:Gd l ρ g c) (H:sQ P T=some e) (q:(P.info? e).bind (·.zero)=some z) (A:Ev ρ c x (.map (some b))) (r:Ev ρ c y (.string k)) (f:∀ w,Sat G μ w->w.heap[b]? = some (mO es clk)) {v:Value} (C:(gS k es).getD z=v) (h:Wo dr mc P n l K σ ((d,c,v) :: ρ) G μ):Wo dr mc P n l K (i :: σ) ρ G μ :=
 .read E (.inl rfl) F (fun j a w m D=>by
  have I:w.heap[b]? = some (mO es clk):=f w D;simp [execOp,A.eval m j,r.eval m j,aMV (ok:=false) H q I,C]) h
def aDU {e b:Nat} {es:List FE} {k:ByteArray} {z:Value} (H:nth l i=some ⟨some d,.lookup T x y true,t,p,af,g⟩) (I:Gd l ρ g c) (J:sQ P T=some e) (r:(P.info? e).bind (·.zero)=some z) (C:Ev ρ c x (.map (some b))) (A:Ev ρ c y (.string k)) (f:∀ w,Sat G μ w->w.heap[b]? = some (mO es clk)) {v:Value} {q:Bool} (D:(gS k es).getD z=v) (F:(gS k es).isSome=q) (h:Wo dr mc P n l K σ ((d,c,.tuple #[v,.bool q]) :: ρ) G μ):Wo dr mc P n l K (i :: σ) ρ G μ :=
 .read H (.inl rfl) I (fun j a w m E=>by
  have L:w.heap[b]? = some (mO es clk):=f w E;simp [execOp,C.eval m j,A.eval m j,aMV (ok:=true) J r L,D,F]) h
def muS {e b:Nat} {z:Operand} {es:List FE} {k:ByteArray} {v:Value} {c:aB} (I:nth l i=some ⟨none,.mapUpdate T x y z,t,p,af,none⟩) (L:sQ P T=some e) (H:Ev ρ true x (.map (some b))) (F:Ev ρ true y (.string k)) (E:Ev ρ true z v) (hm:MTake μ (.blk b (mO es clk)) c) (A:gS k es=none) (h:Wo dr mc P n l K σ ρ G (.blk b (mO (es++[(k,v,clk)]) (clk+1)) :: c)):Wo dr mc P n l K (i :: σ) ρ G μ:=by
 refine .act (μ₁:=[.blk b (mO es clk)]) (μ₂:=c) (post:=fun D c u=>D=G∧c=[.blk b (mO (es++[(k,v,clk)]) (clk+1))]∧u=undef) I (.inl rfl) .no hm.perm (fun a w m r=>.inl ?_) ?_
 ·have S:w.heap[b]? = some (mO es clk):=r.left.own (.blk b (mO es clk)) (qd.2 rfl);obtain ⟨Q,O,C⟩:=aBk L;have g:(getObj b).run P w=.ok (.map (es.map mE).toArray clk) w:=by simp_all[getObj,Sem.run,mO]
  have f:∀ o,(setObj b o).run P w=.ok () { w with heap:=w.heap.setIfInBounds b o }:=fun o=>by simp_all[setObj,Sem.run,mO]
  have N:=aBO (k:=k) es 0;have M:pH k es 0=none:=by
   cases J:pH k es 0 with
   | none=>rfl
   | some jv=>rw [(aBP (j:=jv.1) (v:=jv.2) J).2.1] at A; cases A
  refine ⟨undef,_,G,_,.inr ⟨?_,rfl⟩,Tr.setO r.left,rfl,rfl,rfl⟩;simp only [execOp,H.eval m rfl,F.eval m rfl,E.eval m rfl,Instr.mapUpdate,Sem.run_bind,run_underlying O,Result.andThen_ok,g,Sem.run_pure,aCm C,Instr.findKey,run_underlying C,N,M,f];simp [mO,mE]
 rintro u D q _ ⟨rfl,rfl,rfl⟩;exact h
theorem muT {e b:Nat} {z:Operand} {es:List FE} {k:ByteArray} {v L:Value} {c:aB} (Q:nth l i=some ⟨none,.mapUpdate T x y z,t,p,af,none⟩) (Z:sQ P T=some e) (O:Ev ρ true x (.map (some b))) (N:Ev ρ true y (.string k)) (M:Ev ρ true z v) (hm:MTake μ (.blk b (mO es clk)) c) (hn:gS k es=some L) (h:Wo dr mc P n l K σ ρ G (.blk b (mO (qP k v es) clk) :: c)):Wo dr mc P n l K (i :: σ) ρ G μ:=by
 refine .act (μ₁:=[.blk b (mO es clk)]) (μ₂:=c) (post:=fun J c u=>J=G∧c=[.blk b (mO (qP k v es) clk)]∧u=undef) Q (.inl rfl) .no hm.perm (fun a w C E=>.inl ?_) ?_
 ·have h3:w.heap[b]? = some (mO es clk):=E.left.own (.blk b (mO es clk)) (qd.2 rfl);obtain ⟨kt,h1,H⟩:=aBk Z;have q:(getObj b).run P w=.ok (.map (es.map mE).toArray clk) w:=by simp_all[getObj,Sem.run,mO]
  have f:∀ o,(setObj b o).run P w=.ok () { w with heap:=w.heap.setIfInBounds b o }:=fun o=>by simp_all[setObj,Sem.run,mO]
  have h6:=aBO (k:=k) es 0;cases F:pH k es 0 with
  | none=>grind[aDH]
  | some jv =>
   obtain ⟨j,v1⟩:=jv;obtain ⟨_,_,⟨I,A,X⟩,m,_⟩:=aBP F;rw [jq] at m A;have r:((es.map mE).toArray)[j]? = some (mE I):=by grind
   have g:Instr.sameBits 10000 (.string k) (.string k)=true:=by simp[Instr.sameBits,aEd]
   refine ⟨undef,_,G,_,.inr ⟨?_,rfl⟩,Tr.setO E.left,rfl,rfl,rfl⟩;simp only [execOp,O.eval C rfl,N.eval C rfl,M.eval C rfl,Instr.mapUpdate,Sem.run_bind,run_underlying h1,Result.andThen_ok,q,Sem.run_pure,aCm H,Instr.findKey,run_underlying H,h6,F,f,r,Option.map_some,Option.getD_some,Instr.keyThatStays];have S:(mE I).key=.string k:=by grind[mE]
   rw [S,g];simp only [if_true,Sem.run_pure,Result.andThen_ok,f];have:(es.map mE).toArray.modify j (fun e=>{ e with key:=.string k,val:=v })=((qP k v es).map mE).toArray:=by simp_all
   rw [this]; rfl
 rintro u J D _ ⟨rfl,rfl,rfl⟩;exact h
theorem dlS {C:Option Nat} {e b:Nat} {es:List FE} {k:ByteArray} {D:Value} {c:aB} {Q:TypeId} (H:nth l i=some ⟨C,.call { callee:=.builtin .delete,args:=#[x,y],argTypes:=#[T,Q] },t,p,af,none⟩) (M:sQ P T=some e) (F:Ev ρ true x (.map (some b))) (E:Ev ρ true y (.string k)) (hm:MTake μ (.blk b (mO es clk)) c) (hn:gS k es=some D) (h:Wo dr mc P n l K σ (bV ρ C true (.tuple #[])) G (.blk b (mO (tZ k es) clk) :: c)):Wo dr mc P n l K (i :: σ) ρ G μ:=by
 refine .act (μ₁:=[.blk b (mO es clk)]) (μ₂:=c) (post:=fun S c u=>S=G∧c=[.blk b (mO (tZ k es) clk)]∧u=.tuple #[]) H (.inl rfl) .no hm.perm (fun a w v q=>.inl ?_) ?_
 ·have h3:w.heap[b]? = some (mO es clk):=q.left.own (.blk b (mO es clk)) (qd.2 rfl);obtain ⟨Z,O,A⟩:=aBk M;have m:(getObj b).run P w=.ok (.map (es.map mE).toArray clk) w:=by simp_all[getObj,Sem.run,mO]
  have f:∀ o,(setObj b o).run P w=.ok () { w with heap:=w.heap.setIfInBounds b o }:=fun o=>by simp_all[setObj,Sem.run,mO]
  have N:=aBO (k:=k) es 0;cases r:pH k es 0 with
  | none=>grind[aDH]
  | some jv =>
   obtain ⟨j,X⟩:=jv;obtain ⟨_,_,⟨e',J,I⟩,_,g⟩:=aBP r;rw [jq] at g;have L:((es.map mE).toArray.eraseIdxIfInBounds j)=((tZ k es).map mE).toArray:=by
    simp_all
   refine ⟨.tuple #[],_,G,_,.inl ?_,Tr.setO q.left,rfl,rfl,rfl⟩;simp [execOp,resolve,invoke,builtin,F.eval v rfl,E.eval v rfl,Builtin.delete_,Sem.run_bind,run_underlying O,m,aCm A,Instr.findKey,run_underlying A,N,r,f,L,mO];rw [g]
 simp_all
def aAG {b:Nat} {es:List FE} {a:aB} (hm:MTake μ (.blk b (mO es clk)) a):∀ w,Sat G μ w->w.heap[b]? = some (mO es clk):=fun w c=>c.own (.blk b (mO es clk)) (hm.perm.mem_iff.2 (qh ..))
def xV {b:Nat} {es:List FE} (h:G b=some (mO es clk)):∀ w,Sat G μ w->w.heap[b]? = some (mO es clk):=fun w a=>a.sub _ _ h
def rgS {b:Nat} {es:List FE} {e:TypeId} (y:nth l i=some ⟨some d,.range T x,t,p,af,none⟩) (C:sQ P T=some e) (q:Ev ρ true x (.map (some b))) (f:∀ w,Sat G μ w->w.heap[b]? = some (mO es clk)) (h:∀ bi,Wo dr mc P n l K σ ((d,true,.pointer (some ⟨bi,0,none⟩)) :: ρ) G (.blk bi (iY b clk clk []) :: μ)):Wo dr mc P n l K (i :: σ) ρ G μ:=by
 refine .act (μ₁:=[]) (μ₂:=μ) (post:=fun m g v=>∃ bi,m=G∧g=[.blk bi (iY b clk clk [])]∧v=.pointer (some ⟨bi,0,none⟩)) y (.inl rfl) .no (.refl _) (fun a w A r=>.inl ?_) ?_
 ·have c:Sat G μ w:=by simp_all
  have H:w.heap[b]? = some (mO es clk):=f w c;obtain ⟨F,D,I⟩:=aBk C;have j:(getObj b).run P w=.ok (.map (es.map mE).toArray clk) w:=by simp_all[getObj,Sem.run,mO]
  have E:Tr G (keys []) w G (.blk w.heap.size (.mapIter (some b) clk #[] clk) :: []) (w.alloc (.mapIter (some b) clk #[] clk)):=(gX (Sat.left (μ:=[]) r)).alloc _;exact ⟨.pointer (some ⟨w.heap.size,0,none⟩),w.alloc (.mapIter (some b) clk #[] clk),G,[_],.inl (by simp [execOp,q.eval A rfl,Instr.range,Sem.run_bind,run_underlying D,j]),E,w.heap.size,rfl,rfl,rfl⟩
 rintro v m k _ ⟨b,rfl,rfl,rfl⟩;exact h b
theorem nxS {f g c last:Nat} {es:List FE} {seen:List Nat} {q:aB} (ho:nth l i=some ⟨some d,.next x false,t,p,af,none⟩) (hx:Ev ρ true x (.pointer (some ⟨f,0,none⟩))) (hm:MTake μ (.blk f (iY g c last seen)) q) (F:∀ w,Sat G μ w->w.heap[g]? = some (mO es clk)) (E:∀ e∈es,e.2.2<c) (O:∀ e∈es,e.2.2<last) (h:∀ o:Option FE,yS es seen o->Wo dr mc P n l K σ ((d,true,nxV o) :: ρ) G (.blk f (nxI g c last clk seen o) :: q)):Wo dr mc P n l K (i :: σ) ρ G μ:=by
 refine .act (μ₁:=[.blk f (iY g c last seen)]) (μ₂:=q) (post:=fun G' M v=>∃ o,yS es seen o∧G'=G∧M=[.blk f (nxI g c last clk seen o)]∧v=nxV o) ho (.inl rfl) .no hm.perm (fun a w ha L=>.inl ?_) ?_
 ·have hi:w.heap[f]? = some (iY g c last seen):=L.left.own (.blk f _) (qd.2 rfl);have hb:w.heap[g]? = some (mO es clk):=F w (L.perm hm.perm.symm);have H:(getObj g).run P w=.ok (.map (es.map mE).toArray clk) w:=by simp_all[getObj,Sem.run,mO]
  have I:(getObj f).run P w=.ok (.mapIter (some g) c seen.toArray last) w:=by simp_all[getObj,Sem.run,iY]
  have c0:((!seen.toArray.isEmpty && !(es.map mE).toArray.isEmpty)&&(es.map mE).toArray.all (fun e=>decide (e.born>=last)))=false:=by
   cases es<;>grind[mE]
  have Z:((es.map mE).toArray.filter fun e => !seen.toArray.contains e.born)=((es.filter fun e => !seen.contains e.2.2).map mE).toArray:=by
   simp only [List.filter_toArray,List.filter_map,Function.comp_def,mE,List.contains_toArray]
  have X:(((es.filter fun e => !seen.contains e.2.2).map mE).toArray.filter fun e=>decide (e.born<c))=((es.filter fun e => !seen.contains e.2.2).map mE).toArray:=by
   rw [Array.filter_eq_self.2];intro m y;obtain ⟨e,Q,rfl⟩:=ql.1 (List.mem_toArray.1 y);exact decide_eq_true (E e (yh.1 Q).1)
  have T:(((es.filter fun e => !seen.contains e.2.2).map mE).toArray.filter fun e=>decide (e.born>=c)) = #[]:=by
   rw [Array.filter_eq_empty_iff];grind
  generalize hL:(es.filter fun e => !seen.contains e.2.2)=left at Z X T;obtain ⟨C,hC⟩ : ∃ C:List (Option MapEntry),C=if left=[] then [none] else left.map fun e=>some (mE e):=⟨_,rfl⟩
  have e4:((if ((left.map mE).toArray).isEmpty then #[none] else #[])++((left.map mE).toArray++#[]).map some:Array (Option MapEntry))=C.toArray:=by
   grind
  have S:0<C.toArray.size:=by
   rw [hC];split
   ·simp
   grind
  obtain ⟨j,k,J,hj,N⟩:=aYZ (P:=P) S w;have r:Tr G (keys [.blk f (iY g c last seen)]) w G [.blk f (iY g c last seen)] k:=by
   rcases N with rfl|rfl
   ·exact gX L.left
   exact (gX L.left).drew
  have a7:k.heap[f]? = some (iY g c last seen):=r.sat.own (.blk f _) (qd.2 rfl);have D:∀ o,(setObj f o).run P k=.ok () { k with heap:=k.heap.setIfInBounds f o }:=fun o=>by simp_all[setObj,Sem.run,iY]
  by_cases hl:left=[]
  ·have A:C.toArray[j]? = some none:=by
    simp_all
   refine ⟨nxV none,k,G,[.blk f (nxI g c last clk seen none)],.inl ?_,r,none,fun e Q=>?_,rfl,rfl,rfl⟩
   ·simp only [execOp,hx.eval ha rfl,Instr.next,Sem.run_bind,I,H,Result.andThen_ok,c0,Z,X,T,e4,jj,if_false,J,A,Sem.run_pure,nxV,nxT];try rfl
   have:¬ e∈es.filter fun e => !seen.contains e.2.2:=by grind
   simp_all
  obtain ⟨e,Q⟩ : ∃ e,left[j]? = some e:=by
   simp_all
  have y:e∈es.filter fun e => !seen.contains e.2.2:=by grind
  have A:C.toArray[j]? = some (some (mE e)):=by simp_all
  refine ⟨nxV (some e),{ k with heap:=k.heap.setIfInBounds f (iY g c clk (seen++[e.2.2])) },G,[.blk f (nxI g c last clk seen (some e))],.inl ?_,r.setT (by simp [keys,Res.keys]),some e,?_,rfl,rfl,rfl⟩
  ·have h6:=D (.mapIter (some g) c (seen.toArray.push e.2.2) clk);simp only [execOp,hx.eval ha rfl,Instr.next,Sem.run_bind,I,H,Result.andThen_ok,c0,Z,X,T,e4,jj,if_false,J,A,mE,h6,Sem.run_pure,nxV,nxT];simp [iY]
  have:=yh.1 y;exact ⟨this.1,by simp_all⟩
 rintro v G' a0 _ ⟨o,h1,rfl,rfl,rfl⟩;exact h o h1
def etS {bi bm since stamp:Nat} {es:List FE} {seen:List Nat} {e:FE} {μ1:aB} (ho:nth l i=some ⟨some d,.entry x,t,p,af,none⟩) (hx:Ev ρ true x (.pointer (some ⟨bi,0,none⟩))) (hm:MTake μ (.blk bi (iY bm since clk (seen++[stamp]))) μ1) (hmap:∀ w,Sat G μ w->w.heap[bm]? = some (mO es clk)) (hf:es.find? (fun e=>e.2.2 == stamp)=some e) (h:Wo dr mc P n l K σ ((d,true,.tuple #[.string e.1,e.2.1]) :: ρ) G μ):Wo dr mc P n l K (i :: σ) ρ G μ:=by
 refine .act (μ₁:=[]) (μ₂:=μ) (post:=fun G' μ' v=>G'=G∧μ'=[]∧v=.tuple #[.string e.1,e.2.1]) ho (.inl rfl) .no (.refl _) (fun a w ha hs0=>.inl ?_) ?_
 ·have hs:Sat G μ w:=by simp_all
  have hi:w.heap[bi]? = some (iY bm since clk (seen++[stamp])):=hs.own (.blk bi _) (hm.perm.mem_iff.2 (qh ..));have hb:w.heap[bm]? = some (mO es clk):=hmap w hs;have hgo:(getObj bm).run P w=.ok (.map (es.map mE).toArray clk) w:=by simp_all[getObj,Sem.run,mO]
  have hgi:(getObj bi).run P w=.ok (.mapIter (some bm) since (seen++[stamp]).toArray clk) w:=by simp_all[getObj,Sem.run,iY]
  have hfe:((es.map mE).toArray.find? fun e=>e.born == stamp)=some (mE e):=by
   rw [List.find?_toArray,List.find?_map];have:((fun e:MapEntry=>e.born == stamp) ∘ mE)=fun e:FE=>e.2.2 == stamp:=rfl;simp_all
  refine ⟨.tuple #[.string e.1,e.2.1],w,G,[],.inl ?_,gX (Sat.left (μ:=[]) hs0),rfl,rfl,rfl⟩;have hbk:(seen++[stamp]).toArray.back? = some stamp:=by simp
  simp only [execOp,hx.eval ha rfl,Instr.entry,Sem.run_bind,hgi,Result.andThen_ok,hbk,hgo];simp[*,mE]
 rintro v G' μ'' _ ⟨rfl,rfl,rfl⟩;exact h
end
structure Fi where
 nm:ByteArray
 h:Sh
 n:Nat
 safe:Nat
 born:Nat
variable {F:List Fi}
def Fi.cells (f:Fi):List Value:=[f.h.val f.n,.int .i64 (f.safe:Int)]
def Fi.val (f:Fi):Value:=.agg f.cells.toArray
def Fi.z:Fi:=⟨xc,⟨none,0⟩,0,0,0⟩
def Fi.one (f:Fi):∀ u∈f.cells,u.oneCell'=true:=by
 intro u a;simp only [Fi.cells,qe,qf,or_false] at a;rcases a with rfl|rfl<;>rfl
instance qo1 {f:Fi}:QOne f.cells:=⟨Fi.one f⟩
instance ql2 {f:Fi}:QLen f.cells 2:=⟨rfl⟩
def Fi.fe (f:Fi):FE:=(f.nm,f.val,f.born)
def aV:List Fi->Nat
 | []=>0
 | f :: r=>f.n+aV r
def mC (seen:List Nat):List Fi->Nat
 | []=>0
 | f :: r=>(if f.born∈seen then f.n else 0)+mC seen r
def pK (seen:List Nat):List Fi->Nat
 | []=>0
 | f :: r=>(if f.born∈seen then 0 else 1)+pK seen r
def aG1 {seen:List Nat}:∀ {F:List Fi},mC seen F<=aV F
 | []=>Nat.le_refl _
 | f :: r=>by
  have:=aG1 (seen:=seen) (F:=r);simp only [mC,aV]; split<;>omega
def aNI:∀ {F:List Fi},mC [] F=0
 | []=>rfl
 | f :: r=>by simp [mC,aNI (F:=r)]
def aNJ {seen:List Nat} {b:Nat}:∀ {F:List Fi},(∀ f∈F,f.born≠b)->mC (seen++[b]) F=mC seen F∧pK (seen++[b]) F=pK seen F
 | [],_=>⟨rfl,rfl⟩
 | f :: r,h=>by
  have h1:=aNJ (seen:=seen) (b:=b) (F:=r) fun g c=>h g (qj _ c);have e:f.born≠b:=h f (qh ..);have a:f.born∈seen++[b]↔f.born∈seen:=by simp [e]
  simp only [mC,pK,h1.1,h1.2];by_cases q:f.born∈seen
  ·rw [if_pos (a.2 q),if_pos q,if_pos (a.2 q),if_pos q]; exact ⟨rfl,rfl⟩
  ·rw [if_neg (fun z=>q (a.1 z)),if_neg q,if_neg (fun z=>q (a.1 z)),if_neg q]; exact ⟨rfl,rfl⟩
theorem aNH {seen:List Nat} {e:FE}:∀ {F:List Fi},(F.map Fi.born).Nodup->yS (F.map Fi.fe) seen (some e)->∃ f∈F,e=f.fe∧mC (seen++[f.born]) F=mC seen F+f.n∧pK (seen++[f.born]) F+1=pK seen F
 | [],_,h=>by cases h.1
 | f :: r,hd,h=>by
  rw [List.map_cons,List.nodup_cons] at hd;obtain ⟨c,h2⟩:=h;rw [wu] at c;rcases qe.1 c with rfl | c
  ·refine ⟨f,qh ..,rfl,?_⟩;have j:=aNJ (seen:=seen) (b:=f.born) (F:=r) fun g a k=>hd.1 (ql.2 ⟨g,a,k⟩);have i:¬ f.born∈seen:=h2;simp only [mC,pK,j.1,j.2];grind
  obtain ⟨g,a,rfl,i,m⟩:=aNH hd.2 ⟨c,h2⟩;refine ⟨g,qj _ a,rfl,?_⟩;have l:f.born≠g.born:=fun z=>hd.1 (ql.2 ⟨g,a,z.symm⟩);have p:f.born∈seen++[g.born]↔f.born∈seen:=by grind
  simp only [mC,pK,i];grind
def aNG {seen:List Nat}:∀ {F:List Fi},yS (F.map Fi.fe) seen none->mC seen F=aV F
 | [],_=>rfl
 | f :: r,h=>by
  simp only [mC,aV];have h0:f.born∈seen:=h f.fe (by simp);rw [if_pos h0,aNG fun e a=>h e (by simp_all)]
def aJV:∀ {F:List Fi} {f:Fi},(F.map Fi.born).Nodup->f∈F->(F.map Fi.fe).find? (fun e=>e.2.2 == f.born)=some f.fe
 | [],_,_,h=>by cases h
 | g :: r,f,hd,h=>by
  rw [List.map_cons,List.nodup_cons] at hd;rw [List.map_cons];rcases List.mem_cons.1 h with rfl | h
  ·simp[Fi.fe]
  ·have:g.born≠f.born:=fun z=>hd.1 (ql.2 ⟨f,h,z.symm⟩);rw [List.find?_cons_of_neg (by simpa [Fi.fe] using this)];exact aJV hd.2 h
structure DkR (F:List Fi) (clk:Nat):Prop where
 nd:(F.map Fi.born).Nodup
 un:(F.map Fi.nm).Nodup
 gn:∀ f∈F,f.nm.size≤100
 cnt:F.length≤100000
 old:∀ f∈F,f.born<clk
 few:aV F≤1000000000
def DkR.oldE (h:DkR F clk):∀ e∈F.map Fi.fe,e.2.2<clk:=fun e c=>by
 obtain ⟨f,a,rfl⟩:=ql.1 c; exact h.old f a
def aJ (nm:ByteArray):List Fi->Option Fi
 | []=>none
 | f :: r=>if f.nm=nm then some f else aJ nm r
def dF (nm:ByteArray):List Fi->List Fi
 | []=>[]
 | f :: r=>if f.nm=nm then { f with safe:=f.n } :: r else f :: dF nm r
def dQ (nm:ByteArray):List Fi->List Fi
 | []=>[]
 | f :: r=>if f.nm=nm then r else f :: dQ nm r
def aBg {nm:ByteArray}:∀ {F:List Fi},gS nm (F.map Fi.fe)=(aJ nm F).map Fi.val
 | []=>rfl
 | f :: r=>by
  rw [List.map_cons,gS,aJ];by_cases h:f.nm=nm
  ·simp_all[Fi.fe]
  ·rw [if_neg h,if_neg (show ¬ f.fe.1=nm from h)]; exact aBg
def aFy:(gS nm (F.map Fi.fe)).getD (.agg #[.slice none 0 0,.int .i64 0])=((aJ nm F).getD Fi.z).val:=by
 rw [aBg]; cases aJ nm F<;>rfl
def aKY:(gS nm (F.map Fi.fe)).isSome=(aJ nm F).isSome:=by
 simp[aBg]
theorem aBa (h:aJ nm F=none):gS nm (F.map Fi.fe)=none:=by simp_all[aBg]
def aAA {f:Fi} (h:aJ nm F=some f):gS nm (F.map Fi.fe)=some f.val:=by simp_all[aBg]
theorem aKZ (h:aJ nm F=none):(gS nm (F.map Fi.fe)).getD (.agg #[.slice none 0 0,.int .i64 0])=.agg [.slice none 0 0,.int .i64 0].toArray:=by grind[aBa]
def aFx {f:Fi} (h:aJ nm F=some f):(gS nm (F.map Fi.fe)).getD (.agg #[.slice none 0 0,.int .i64 0])=.agg f.cells.toArray:=by rw [aAA h]; rfl
theorem aVY (h:aJ nm F=none):(gS nm (F.map Fi.fe)).isSome=false:=by grind[aBa]
def aK0 {nm:ByteArray} {f:Fi}:∀ {F:List Fi},aJ nm F=some f->qP nm (.agg [f.h.val f.n,.int .i64 (f.n:Int)].toArray) (F.map Fi.fe)=(dF nm F).map Fi.fe
 | [],h=>by cases h
 | g :: r,h=>by
  rw [List.map_cons,qP,dF];rw [aJ] at h;by_cases q:g.nm=nm
  ·rw [if_pos q] at h; rw [if_pos q,if_pos (show g.fe.1=nm from q)];cases h; rfl
  ·rw [if_neg q] at h; rw [if_neg q,if_neg (show ¬ g.fe.1=nm from q),aK0 h]; rfl
def aDY {nm:ByteArray}:∀ {F:List Fi},tZ nm (F.map Fi.fe)=(dQ nm F).map Fi.fe
 | []=>rfl
 | g :: r=>by
  rw [List.map_cons,tZ,dQ];by_cases q:g.nm=nm
  ·simp_all[Fi.fe]
  ·rw [if_neg q,if_neg (show ¬ g.fe.1=nm from q),aDY]; rfl
theorem xK {nm:ByteArray}:∀ {F:List Fi},aV (dF nm F)=aV F∧(dF nm F).map Fi.born=F.map Fi.born
 | []=>⟨rfl,rfl⟩
 | g :: r=>by
  rw [dF];by_cases q:g.nm=nm
  ·simp_all[aV]
  ·rw [if_neg q]; exact ⟨by simp only [aV,(xK (F:=r)).1],by simp only [List.map_cons,(xK (F:=r)).2]⟩
theorem zT {nm:ByteArray}:∀ {F:List Fi},(dF nm F).map Fi.nm=F.map Fi.nm
 | []=>rfl
 | g :: r=>by
  rw [dF];by_cases q:g.nm=nm
  ·simp_all
  ·rw [if_neg q,List.map_cons,List.map_cons,zT]
theorem aJb {nm:ByteArray}:∀ {F:List Fi},aJ nm F=none->∀ f∈F,f.nm≠nm
 | [],_,_,h=>by cases h
 | g :: r,h,f,hf=>by
  rw [aJ] at h;by_cases q:g.nm=nm
  ·simp_all
  ·rw [if_neg q] at h;rcases List.mem_cons.1 hf with rfl | hf
   ·exact q
   ·exact aJb h f hf
def xH {nm:ByteArray}:∀ {F:List Fi},((dQ nm F).map Fi.nm).Sublist (F.map Fi.nm)∧(dQ nm F).length<=F.length
 | []=>⟨.slnil,Nat.le_refl _⟩
 | g :: r=>by
  rw [dQ];by_cases q:g.nm=nm
  ·simp_all
  ·rw [if_neg q,List.map_cons,List.map_cons]; exact ⟨(xH (F:=r)).1.cons_cons _,by have:=(xH (nm:=nm) (F:=r)).2; simp only [List.length_cons]; omega⟩
theorem zO {nm:ByteArray} {f:Fi}:∀ {F:List Fi},aJ nm F=some f->aV (dQ nm F)+f.n=aV F∧((F.map Fi.born).Nodup->((dQ nm F).map Fi.born).Nodup)∧(∀ g∈dQ nm F,g∈F)
 | [],h=>by cases h
 | g :: r,h=>by
  rw [aJ] at h; rw [dQ];by_cases q:g.nm=nm
  ·rw [if_pos q] at h ⊢;grind[aV]
  rw [if_neg q] at h ⊢;obtain ⟨h1,h2,h3⟩:=zO h;refine ⟨by grind[aV],fun hd=>?_,fun x a=>?_⟩
  ·simp_all
  grind
def aAc:∀ {F H:List Fi},aV (F++H)=aV F+aV H
 | [],H=>by simp [aV]
 | f :: r,H=>by simp only [List.cons_append,aV,aAc (F:=r)]; omega
def aFN {f:Fi}:F.map Fi.fe++[f.fe]=(F++[f]).map Fi.fe:=by simp
theorem DkR.app {f:Fi} (h:DkR F clk) (p:f.born=clk) (j:aV F+f.n<=1000000000) (k:aJ f.nm F=none) (l:f.nm.size<=100) (m:F.length<100000):DkR (F++[f]) (clk+1):=by
 refine ⟨?_,?_,fun x c=>?_,by grind,fun x c=>?_,by simp_all[aAc,aV]⟩
 ·rw [x7];refine yd.2 ⟨h.nd,by simp,fun a g b e=>?_⟩;obtain ⟨y,i,rfl⟩:=ql.1 g;simp only [wu,zw,qd] at e;have:=h.old y i;omega
 ·rw [x7];refine yd.2 ⟨h.un,by simp,fun a g b e=>?_⟩;obtain ⟨y,i,rfl⟩:=ql.1 g;grind[aJb]
 ·rcases qn.1 c with c | c
  ·exact h.gn x c
  simp_all
 rcases qn.1 c with c | c
 ·have:=h.old x c; omega
 simp_all
theorem aTa (h:∀ f∈F,f.born<clk):∀ f∈dF nm F,f.born<clk:=fun f a=>by
 have:f.born∈(dF nm F).map Fi.born:=ql.2 ⟨f,a,rfl⟩;grind[xK]
def DkR.sy (h:DkR F clk):DkR (dF nm F) clk :=
 ⟨by rw [xK.2]; exact h.nd,by rw [zT]; exact h.un,fun f c=>by
   have:f.nm∈(dF nm F).map Fi.nm:=ql.2 ⟨f,c,rfl⟩;rw [zT] at this;obtain ⟨g,a,e⟩:=ql.1 this;rw [← e]; exact h.gn g a,by have:=congrArg wm (zT (nm:=nm) (F:=F)); simp only [qw] at this; rw [this]; exact h.cnt,aTa h.old,by rw [xK.1]; exact h.few⟩
def DkR.del {f:Fi} (h:DkR F clk) (a:aJ nm F=some f):DkR (dQ nm F) clk :=
 ⟨(zO a).2.1 h.nd,h.un.sublist xH.1,fun g c=>h.gn g ((zO a).2.2 g c),wl xH.2 h.cnt,fun g c=>h.old g ((zO a).2.2 g c),by have:=(zO a).1; have:=h.few; omega⟩
def aBM {nm:ByteArray} {f:Fi}:∀ {F:List Fi},aJ nm F=none->f.nm=nm->aJ nm (F++[f])=some f
 | [],_,e=>by rw [List.nil_append,aJ,if_pos e]
 | g :: r,h,e=>by
  rw [List.cons_append,aJ];rw [aJ] at h;by_cases q:g.nm=nm
  ·simp_all
  ·rw [if_neg q] at h ⊢; exact aBM h e
def aT (bm:Nat) (room done:Nat):List Value:=[.map (some bm),.int .i64 (room:Int),.bool false,.int .i64 (-1),.int .i64 (done:Int)]
instance qldk {bm room done:Nat}:QLen (aT bm room done) 5:=⟨rfl⟩
def aNw (a b:BitVec 64):∀ u∈[uv .u64 a,uv .u64 b],u.oneCell'=true:=by
 intro u c;simp only [qe,qf,or_false] at c;rcases c with rfl|rfl<;>rfl
theorem aVu {m:BitVec 64} (hm:m.toNat<=1000000) (h:(((m+1#64).toNat:Int) == 0||false||((m+1#64-1#64).toNat:Int) != (m.toNat:Int))=true):False:=by
 grind
def aVt {a b c d:BitVec 64} (h : [uv .u64 a,uv .u64 b]=[uv .u64 c,uv .u64 d]):a.toNat=c.toNat:=by
 have e:=(List.cons.inj h).1;unfold uv at e;have f:=(Value.int.inj e).2;exact Int.ofNat_inj.1 f
def rD (d:Nat):List Y:=[48#8,48#8,48#8,48#8,48#8,qb 8 (48+d)]
def zJ (d k:Nat):List Y:=(rD d).drop (6-k)
def sA (n:BitVec 64) (k:Nat):BitVec 64:=if k=0 then n else 0#64
def aSE {d:Nat} (h:k<=6):(zJ d k).length=k:=by simp [zJ,rD]; omega
theorem aSD {n:BitVec 64} (h:1<=k):(sA n k).toNat=0:=by unfold sA; grind
theorem aSF {n:BitVec 64} (e:n.toNat<10) (a:k<6) : [(48#64+sA n k%10#64).setWidth 8]++zJ n.toNat k=zJ n.toNat (k+1):=by
 match k,a with
 | 0,_ =>
  have c:(48#64+sA n 0%10#64).setWidth 8=qb 8 (48+n.toNat):=by
   grind[sA,vg,kb]
  rw [c]; rfl
 | 1,_=>rfl
 | 2,_=>rfl
 | 3,_=>rfl
 | 4,_=>rfl
 | 5,_=>rfl
def aSC {n:BitVec 64} (a:n.toNat<10):sA n k / 10#64=sA n (k+1):=by
 unfold sA;by_cases h:k=0
 ·rw [if_pos h,if_neg om];apply wj;simp_all
 simp_all
def aLG (d:Nat):ByteArray:=aQ (yb (aQ (rD d))++yb ⟨#[46,116,97,98]⟩)
def aLE (d:Nat):ByteArray:=aQ (yb (aQ (rD d))++yb ⟨#[46,108,111,103]⟩)
def aLF (d:Nat):ByteArray:=aQ (yb ⟨#[109,97,110,105,102,101,115,116,45]⟩++yb (aQ (rD d)))
def aLD:ByteArray:=⟨#[99,117,114,114,101,110,116]⟩
def aLH:ByteArray:=⟨#[99,117,114,114,101,110,116,46,116,109,112]⟩
def cK (k d:Nat):ByteArray:=if k=1 then aLE d else if k=2 then aLG d else if k=3 then aLF d else if k=4 then aLD else if k=5 then aLH else ⟨#[]⟩
def aWH {d:Nat} (h:k=1):aQ (yb (aQ (rD d))++yb ⟨#[46,108,111,103]⟩)=cK k d:=by subst h; rfl
def aWI {d:Nat} (h:k=2):aQ (yb (aQ (rD d))++yb ⟨#[46,116,97,98]⟩)=cK k d:=by subst h; rfl
def aWJ {d:Nat} (h:k=3):aQ (yb ⟨#[109,97,110,105,102,101,115,116,45]⟩++yb (aQ (rD d)))=cK k d:=by subst h; rfl
def aWK {d:Nat} (h:k=4):(⟨#[99,117,114,114,101,110,116]⟩ : ByteArray)=cK k d:=by subst h; rfl
def aWL {d:Nat} (h:k=5):(⟨#[99,117,114,114,101,110,116,46,116,109,112]⟩ : ByteArray)=cK k d:=by subst h; rfl
def aWG {d:Nat} (h1:k≠1) (h2:k≠2) (h3:k≠3) (c:k≠4) (a:k≠5):(⟨#[]⟩ : ByteArray)=cK k d:=by
 simp_all[cK]
def aZj {s:ByteArray} (h:s.size≠0):(s.toList == (⟨#[]⟩ : ByteArray).toList)=false:=by
 refine beq_eq_false_iff_ne.2 fun e=>h ?_;have a:=bM s;simp_all[yb]
def eC (s:ByteArray):Prop:=s.size≠0∧s.size<=100
def aLJ:eC (cK 4 0):=⟨dc,dc⟩
def aLK:eC (cK 5 0):=⟨dc,dc⟩
def FilesR (G:PM) (F:List Fi):Prop:=∀ f∈F,∃ xs:List Y,SlR G 1 aH f.h xs∧f.n=xs.length
def FilesR.mono {G c:PM} {F:List Fi} (h:FilesR G F) (a:PM.le G c):FilesR c F:=fun f g=>by obtain ⟨e,j,i⟩:=h f g; exact ⟨e,j.mono a,i⟩
theorem FilesR.nil {G:PM}:FilesR G []:=fun f a=>absurd a qf
def FilesR.sy {G:PM} {nm:ByteArray}:∀ {F:List Fi},FilesR G F->FilesR G (dF nm F)
 | [],h=>h
 | g :: r,h=>by
  have hr:FilesR G r:=fun f a=>h f (qj _ a);have c:=h g (qh ..);rw [dF];split
  ·simp_all[FilesR]
  ·intro f a;rcases qe.1 a with rfl | a
   ·exact c
   ·exact hr.sy f a
def aJT {nm:ByteArray}:∀ {F:List Fi} {f:Fi},f∈dQ nm F->f∈F
 | [],_,h=>h
 | g :: r,f,h=>by
  rw [dQ] at h;split at h
  ·simp_all
  ·rcases List.mem_cons.1 h with rfl | h
   ·simp
   ·exact List.mem_cons_of_mem _ (aJT h)
def FilesR.del {G:PM} (h:FilesR G F):FilesR G (dQ nm F):=fun f a=>h f (aJT a)
theorem FilesR.snoc {G:PM} {f:Fi} {xs:List Y} (h:FilesR G F) (e:SlR G 1 aH f.h xs) (i:f.n=xs.length):FilesR G (F++[f]):=fun g c=>by
 rcases qn.1 c with a | a
 ·exact h g a
 grind
def aJZ {nm:ByteArray}:∀ {F:List Fi} {f:Fi},aJ nm F=some f->f∈F
 | [],_,h=>by cases h
 | g :: r,f,h=>by
  rw [aJ] at h;split at h
  ·cases h; exact List.mem_cons_self ..
  ·exact List.mem_cons_of_mem _ (aJZ h)
def FilesR.ren {G:PM} {f:Fi} {a:ByteArray} {b:Nat} (h:FilesR G F) (c:aJ nm F=some f):FilesR G (dQ nm F++[{ f with nm:=a,born:=b }]):=by
 obtain ⟨i,g,e⟩:=h f (aJZ c);exact h.del.snoc g e
section
variable {α:Type} {lt:α→α→Bool}
structure Wk0 (lt:α→α→Bool):Prop where
 irr:∀ a,lt a a=false
 tr:∀ {a b c},lt a b=true→lt b c=true→lt a c=true
 co:∀ {a b} c,lt a b=true→lt a c=true∨lt c b=true
theorem Wk0.as (h:Wk0 lt) {a b:α} (c:lt a b=true):lt b a=false:=by
 cases e:lt b a with
 | false=>rfl
 | true=>have:=h.tr c e; rw [h.irr] at this; grind
def TL (lt:α->α->Bool) (x y:α×Nat):Prop:=lt x.1 y.1=true∨(lt y.1 x.1=false∧x.2<y.2)
def TL.irr (h:Wk0 lt) (x:α×Nat):¬ TL lt x x:=by
 rintro (a | ⟨_,a⟩)
 ·rw [h.irr] at a; cases a
 ·omega
theorem TL.tr (h:Wk0 lt) {x y z:α×Nat} (e:TL lt x y) (c:TL lt y z):TL lt x z:=by
 rcases e with e | ⟨e,t1⟩<;>rcases c with c | ⟨c,g⟩
 ·exact .inl (h.tr e c)
 ·rcases h.co z.1 e with a | a
  ·grind[TL]
  simp_all
 ·rcases h.co x.1 c with a | a
  ·simp_all
  simp_all[TL]
 refine .inr ⟨?_,om⟩;cases a:lt z.1 x.1 with
 | false=>rfl
 | true =>
  rcases h.co y.1 a with f | f
  ·simp_all
  simp_all
def TL.as (h:Wk0 lt) {x y:α×Nat} (h1:TL lt x y):¬ TL lt y x:=fun a=>TL.irr h _ (h1.tr h a)
def aPY {u v:α×Nat} (h:Wk0 lt) (ht:u.2<v.2):TL lt u v↔lt v.1 u.1=false:=by
 unfold TL;constructor
 ·rintro (a | ⟨a,_⟩)
  ·exact h.as a
  omega
 simp_all
def Srt (lt:α->α->Bool) (l:List (α×Nat)):Prop:=l.Pairwise (TL lt)
def aHo (h:Wk0 lt):∀ {l l':List (α×Nat)},Srt lt l->Srt lt l'->l.Perm l'->l=l'
 | [],l',_,_,hp=>by simpa using hp.symm.eq_nil
 | x :: l,[],_,_,hp=>by simpa using hp.eq_nil
 | x :: l,y :: l',h1,h2,hp=>by
  have hx:=wz.1 h1; have f:=wz.1 h2;have e:x=y:=by
   have c:x∈y :: l':=hp.mem_iff.1 (qh ..);have a:y∈x :: l:=hp.mem_iff.2 (qh ..);rcases qe.1 c with e | c
   ·exact e
   ·rcases qe.1 a with e | a
    ·exact e.symm
    ·exact absurd (f.1 x c) (TL.as h (hx.1 y a))
  subst e;rw [aHo h hx.2 f.2 (List.Perm.cons_inv hp)]
def xN (lt:α->α->Bool) (l:List α) (m:α):List α:=l.takeWhile (fun x => !lt m x)++m :: l.dropWhile (fun x => !lt m x)
def xO (lt:α->α->Bool) (l:List (α×Nat)) (m:α×Nat):List (α×Nat):=l.takeWhile (fun x => !lt m.1 x.1)++m :: l.dropWhile (fun x => !lt m.1 x.1)
def aUB (l:List (α×Nat)) (m:α×Nat):(xO lt l m).map (·.1)=xN lt (l.map (·.1)) m.1:=by
 unfold xO xN;rw [x7,wu,List.takeWhile_map,List.dropWhile_map]; rfl
theorem aJ7 (l:List (α×Nat)) (m:α×Nat):(xO lt l m).Perm (l++[m]):=by
 grind[xO,yq,x5]
theorem aUC (h:Wk0 lt) {l:List (α×Nat)} {m:α×Nat} (hs:Srt lt l) (ht:∀ x∈l,x.2<m.2):Srt lt (xO lt l m):=by
 unfold xO;have hl:=yq (p:=fun x:α×Nat => !lt m.1 x.1) (l:=l);have hs':=hs;unfold Srt at hs' ⊢;rw [← hl] at hs';obtain ⟨s1,s2,s3⟩:=yi.1 hs';have hd:∀ y∈l.dropWhile (fun x => !lt m.1 x.1),TL lt m y:=by
  intro y hy;cases hdw:l.dropWhile (fun x => !lt m.1 x.1) with
  | nil=>simp_all
  | cons z r =>
   have hz:lt m.1 z.1=true:=by
    grind[List.head?_dropWhile_not]
   rw [hdw] at hy s2;rcases qe.1 hy with rfl | hy
   ·exact .inl hz
   grind[TL.tr,wz,TL]
 have ht':∀ x∈l.takeWhile (fun x => !lt m.1 x.1),TL lt x m:=by
  intro x hx;grind[List.all_takeWhile,TL]
 simp_all[yi]
def jP (lt:α->α->Bool) (l:List α):List α:=l.foldl (xN lt) []
theorem aJm (h:Wk0 lt):∀ (l:List α) (k:Nat) (acc:List (α×Nat)),Srt lt acc->(∀ x∈acc,x.2<k)->∃ T,Srt lt T∧T.Perm (acc++l.zipIdx k)∧T.map (·.1)=l.foldl (xN lt) (acc.map (·.1))
 | [],k,acc,hs,_=>⟨acc,hs,by simp,rfl⟩
 | m :: l,k,acc,hs,hk=>by
  obtain ⟨T,h1,h2,h3⟩:=aJm h l (k+1) (xO lt acc (m,k)) (aUC h hs hk) (fun x a=>by
   grind[aJ7])
  refine ⟨T,h1,h2.trans ?_,?_⟩
  ·rw [List.zipIdx_cons,show acc++(m,k) :: l.zipIdx (k+1)=(acc++[(m,k)])++l.zipIdx (k+1) by simp];exact (aJ7 _ _).append_right _
  simp_all[aUB]
theorem aY8 (h:Wk0 lt) (l:List α):∃ T,Srt lt T∧T.Perm (l.zipIdx 0)∧T.map (·.1)=jP lt l:=by
 obtain ⟨T,e,c,a⟩:=aJm h l 0 [] .nil (fun _ h=>by cases h);grind[jP]
def aMp (h:Wk0 lt) {l:List α} {T:List (α×Nat)} (a:Srt lt T) (c:T.Perm (l.zipIdx 0)):T.map (·.1)=jP lt l:=by
 obtain ⟨i,g,f,e⟩:=aY8 h _;rw [← e,aHo h a g (c.trans f.symm)]
theorem aUA (l:List α) (m:α):(xN lt l m).Perm (l++[m]):=by
 unfold xN;grind[yq,x5]
theorem aJl:∀ (m l:List α),(m.foldl (xN lt) l).Perm (l++m)
 | [],l=>by simp
 | x :: m,l=>by
  rw [List.foldl_cons];refine (aJl m _).trans ?_;rw [show l++x :: m=(l++[x])++m by simp];exact (aUA l x).append_right _
theorem aGo (l:List α):(jP lt l).Perm l:=by grind[aJl,jP]
def aY7 (l:List α):(jP lt l).length=l.length:=(aGo _).length_eq
end
section
variable {α:Type}
def sH {l:List α} {z:α} (h:k<l.length):l[k]? = some (l.getD k z):=by simp [h]
def aTg {X Y Z L:List α} {x y z0:α} (c:L=X++x :: (Y++y :: Z)) (a:i=X.length):L.getD i z0=x:=by simp_all
theorem aZx {X Y Z L:List α} {x y z0:α} (e:L=X++x :: (Y++y :: Z)) (c:i=X.length) (a:j=X.length+1+Y.length):(L.set j (L.getD i z0)).set i (L.getD j z0)=X++y :: (Y++x :: Z):=by
 grind
end
structure CmpR (P:Program) (f:FuncId) (vc:List Value) (cv:Meta→Meta→Int) (G:PM):Prop where
 ok:∀ G',PM.le G G'→∀ a b:Meta,Ct P f ([a.val,b.val]++vc).toArray G' [] fun _ μ' u=>μ'=[]∧u=.int .i64 (cv a b)
def CmpR.mono {vc:List Value} {cv:Meta->Meta->Int} {G c:PM} (h:CmpR P f vc cv G) (a:PM.le G c):CmpR P f vc cv c:=⟨fun g e=>h.ok g (a.trans e)⟩
abbrev TM:=Meta×Nat
variable {A D:List TM}
def z0:TM:=(Meta.zero,0)
def ms (T:List TM):List Meta:=T.map (·.1)
theorem aGC (A B:List TM):ms (A++B)=ms A++ms B:=x7 ..
theorem aDb (x:TM) (B:List TM):ms (x :: B)=x.1 :: ms B:=rfl
theorem aAL (A:List TM):(ms A).length=A.length:=qw ..
def fQ (cv:Meta->Meta->Int) (a b:Meta):Bool:=decide (cv a b<0)
section
variable {lt:Meta→Meta→Bool}
theorem aZM (c:Srt lt A) (a:i<j) (e:j<A.length):TL lt (A.getD i z0) (A.getD j z0):=by
 have:=xb.1 c i j om e a;grind
theorem aTZ (h:Wk0 lt) (f:Srt lt A) {y:TM} (a:q=0∨TL lt (A.getD (q-1) z0) y) (k:q<=A.length):∀ x∈A.take q,TL lt x y:=by
 intro x c;obtain ⟨i,j,rfl⟩:=List.mem_iff_getElem.1 c;rw [qq] at j;rw [List.getElem_take];have e:A.getD i z0=A[i]:=by grind
 rw [← e];rcases a with a | a
 ·omega
 ·by_cases g:i=q-1
  ·simp_all
  ·exact (aZM f (show i<q-1 by omega) om).tr h a
end
def aZO {lt:Meta->Meta->Bool} (S:List TM):Srt lt (S.take 1):=by
 cases S<;>simp_all[Srt]
def aSa {S:List TM} (h:q<S.length):S.drop q=S.getD q z0 :: S.drop (q+1):=by
 simp_all
def aNR {S:List TM} (h:q<S.length):S.take (q+1)=S.take q++[S.getD q z0]:=by
 simp_all
theorem aNS {B:List TM} (h:0<A.length):A.take (A.length-1)++A.getD (A.length-1) z0 :: B=A++B:=by
 have:=aNR (S:=A) (q:=A.length-1) om;grind
def aUG {S B c:List TM} (e:q<S.length) (a:A++B=c) (f:c.Perm (S.take q)):(A++S.getD q z0 :: B).Perm (S.take (q+1)):=by
 rw [aNR e];refine ye.trans ?_;rw [a];exact (f.cons _).trans (x5 (l₁:=[S.getD q z0]) (l₂:=S.take q))
def aKA {P B R:List TM} {y:TM} (a:j=P.length+A.length):(ms (P++(A++y :: B++D)++R)).getD j Meta.zero=y.1:=by
 simp_all[aGC,aDb,aAL]
theorem aJ8 {P B R:List TM} {y:TM} (a:0<A.length):ms (P++(A++y :: B++D)++R)=ms (P++A.take (A.length-1))++(A.getD (A.length-1) z0).1 :: ([]++y.1 :: ms (B++D++R)):=by
 have h:=aNS (B:=y :: B) a;grind[aDb,aGC]
theorem aJ9 {P B R:List TM} {y:TM} (a:0<A.length) (c:j=P.length+A.length-1):(ms (P++(A++y :: B++D)++R)).getD j Meta.zero=(A.getD (A.length-1) z0).1 :=
 aTg (aJ8 a) (by grind[aAL])
theorem aUI {P B R:List TM} {y:TM} (a:0<A.length) (e:i=P.length+A.length-1) (c:j=P.length+A.length) :
  ((ms (P++(A++y :: B++D)++R)).set j ((ms (P++(A++y :: B++D)++R)).getD i Meta.zero)).set i ((ms (P++(A++y :: B++D)++R)).getD j Meta.zero)=ms (P++(A.take (A.length-1)++y :: (A.getD (A.length-1) z0 :: B)++D)++R):=by
 rw [aZx (aJ8 a) (by grind[aAL]) (by grind[aAL]),qy,←aDb,←aDb,←aGC]; simp
def aUD {cv:Meta->Meta->Int} {P B R:List TM} {y:TM} (c:∀ z∈B,TL (fQ cv) y z) (a:0<A.length∧cv ((ms (P++(A++y :: B++D)++R)).getD (P.length+A.length) Meta.zero) ((ms (P++(A++y :: B++D)++R)).getD (P.length+A.length-1) Meta.zero)<0):∀ z∈A.getD (A.length-1) z0 :: B,TL (fQ cv) y z:=by
 rw [aKA rfl,aJ9 a.1 rfl] at a;simp_all[fQ,TL]
theorem aUH {cv:Meta->Meta->Int} {P S B e R:List TM} (f:Wk0 (fQ cv)) (h:Srt (fQ cv) e) (c:A++B=e) (v:∀ z∈B,TL (fQ cv) (S.getD q z0) z) (t:S.Pairwise fun x y=>x.2<y.2) (i:e.Perm (S.take q)) (p:q<S.length) (j:0<A.length->0<=cv ((ms (P++(A++S.getD q z0 :: B++S.drop (q+1))++R)).getD (P.length+A.length) Meta.zero) ((ms (P++(A++S.getD q z0 :: B++S.drop (q+1))++R)).getD (P.length+A.length-1) Meta.zero)):Srt (fQ cv) (A++S.getD q z0 :: B):=by
 have a:=h;rw [← c] at a;obtain ⟨s1,m,s3⟩:=yi.1 a;have w:∀ x∈A,TL (fQ cv) x (S.getD q z0):=by
  by_cases C:A.length=0
  ·simp_all
  ·have l:=j om;rw [aKA rfl,aJ9 om rfl] at l;have g:(A.getD (A.length-1) z0).2<(S.getD q z0).2:=by
    have r:A.getD (A.length-1) z0∈S.take q:=i.mem_iff.1 (by grind);grind[wn,qh]
   have k:TL (fQ cv) (A.getD (A.length-1) z0) (S.getD q z0):=(aPY f g).2 (by simp_all[fQ]);intro x n;have:=aTZ f s1 (q:=A.length) (y:=S.getD q z0) (.inr k) (qc _) x (by simp_all);omega
 simp_all[yi,Srt]
section
variable {cv:Meta→Meta→Int} {P A B R:List TM}
end
inductive Ck (lt:Meta→Meta→Bool) (bs:Nat):List TM→List TM→Prop
 | last {s o:List TM} (h:s.length≤bs) (hs:Srt lt s) (hp:s.Perm o):Ck lt bs s o
 | cons {s o T O:List TM} (h:s.length=bs) (hs:Srt lt s) (hp:s.Perm o) (hT:Ck lt bs T O):Ck lt bs (s++T) (o++O)
section
variable {lt:Meta→Meta→Bool} {bs:Nat} {T O:List TM}
theorem Ck.perm (h:Ck lt bs T O):T.Perm O:=by
 induction h with
 | last h hs hp=>exact hp
 | cons h hs hp hT ih=>grind
def Ck.big (h:Ck lt bs T O) (c:0<bs) (a:T.length<=bs):Srt lt T∧T.Perm O:=by
 refine ⟨?_,h.perm⟩;cases h with
 | last h hs hp=>exact hs
 | @cons s o T O h hs hp hT =>
  rw [qa] at a;have:T=[]:=wo om;simp_all
def Ck.one (h:Ck lt bs T O) (c:0<bs) (a:bs<T.length):∃ s o T' O',T=s++T'∧O=o++O'∧s.length=bs∧o.length=bs∧Srt lt s∧s.Perm o∧Ck lt bs T' O'∧0<T'.length:=by
 cases h with
 | last h hs hp=>omega
 | @cons s o T O h hs hp hT=>exact ⟨s,o,T,O,rfl,rfl,h,by rw [← hp.length_eq]; exact h,hs,hp,hT,by simp_all⟩
def bB0 (h:Ck lt bs T O) (k:0<bs) (j:bs+bs<=T.length):∃ s1 s2 a o2 T' O',T=s1++s2++T'∧O=a++o2++O'∧s1.length=bs∧s2.length=bs∧a.length=bs∧o2.length=bs∧Srt lt s1∧Srt lt s2∧s1.Perm a∧s2.Perm o2∧Ck lt bs T' O':=by
 obtain ⟨s1,a,m,n,rfl,rfl,i,f,e,c,l,p⟩:=h.one k om;rw [qa] at j;cases l with
 | last g hs hp=>exact ⟨s1,m,a,n,[],[],by simp,by simp,i,om,f,by rw [← hp.length_eq]; omega,e,hs,c,hp,.last (qo _) .nil (List.Perm.refl _)⟩
 | @cons s o T O g hs hp hT=>exact ⟨s1,s,a,o,T,O,by simp,by simp,i,g,f,by rw [← hp.length_eq]; exact g,e,hs,c,hp,hT⟩
theorem Ck.rest (h:Ck lt bs T O) (c:0<bs) (e:bs<T.length) (h2:T.length<bs+bs):∃ s1 s2 a o2,T=s1++s2∧O=a++o2∧s1.length=bs∧0<s2.length∧a.length=bs∧Srt lt s1∧Srt lt s2∧s1.Perm a∧s2.Perm o2:=by
 obtain ⟨s1,a,p,q,rfl,rfl,n,m,l,k,f,j⟩:=h.one c e;rw [qa] at h2;obtain ⟨i,g⟩:=f.big c om;grind
def aV4 (xs:List Meta):ms (xs.zipIdx 0)=xs:=by simp[ms]
def bAB (xs:List Meta):(xs.zipIdx 0).Pairwise fun x y=>x.2<y.2:=by
 simp[xb]
def aV3 (h:Wk0 lt) {xs:List Meta} {T:List TM} (a:Srt lt T) (c:T.Perm (xs.zipIdx 0)):ms T=jP lt xs:=aMp h a c
end
def zF (x y:Int):Int:=if x<y then -1 else if y<x then 1 else 0
def tO (x y:ByteArray):Int:=if lt x y then -1 else if lt y x then 1 else 0
def kO (i:Int) (a b:Meta):Int:=if i=0 then zF b.number a.number else tO a.min b.min
def qM (i:Int) (a b:Meta):Bool:=if i=0 then decide (b.number<a.number) else lt a.min b.min
theorem aKe (i:Int):fQ (kO i)=qM i:=by
 funext a b;unfold fQ kO qM zF tO;grind
theorem aKf (i:Int):Wk0 (qM i):=by
 unfold qM;by_cases h:i=0
 ·simp only [h,if_true];refine ⟨fun a=>by simp,fun {a b c} e f=>?_,fun {a b} c e=>?_⟩
  ·grind
  grind
 simp only [h,if_false];refine ⟨fun a=>vY _,fun {a b c} e f=>aAD e f,fun {a b} c e=>?_⟩;grind[aBb,aAD]
def aRL {x y:ByteArray} (h:Op.bytesLess x.toList y.toList=true):tO x y = -1:=by simp_all[tO,lt]
def aRK {x y:ByteArray} (h:Op.bytesLess x.toList y.toList=false) (h2:(!(Op.bytesLess x.toList y.toList||x.toList == y.toList))=true):tO x y=1:=by
 have a:lt y x=true:=by
  have:le x y=false:=by simp_all[le]
  simp_all[aKT]
 simp_all[tO,lt]
def aRJ {x y:ByteArray} (h:Op.bytesLess x.toList y.toList=false) (h2:(!(Op.bytesLess x.toList y.toList||x.toList == y.toList))=false):tO x y=0:=by
 simp_all[lt,tO]
theorem aFD (h:m.wf):(fU m).length<=m.min.size+m.max.size+112:=by
 have i:=h.level; have g:=h.gen; have f:=h.epoch; have e:=h.number; have c:=h.minL; have a:=h.maxL;grind[iJ,bA3,bM,aB8,fU]
theorem aKs {R:Nat}:∀ (l:List Meta),(∀ m∈l,m.wf∧m.min.size<=R∧m.max.size<=R)->(l.flatMap fU).length<=l.length*(2*R+112)
 | [],_=>by simp
 | m :: l,h=>by
  have h1:=h m (qh ..);have e:=aFD h1.1;have c:=aKs l fun x a=>h x (qj _ a);grind[Nat.succ_mul]
theorem aBH (h:e.wf) (q:e.add.length<=1000000) (hd:e.drop.length<=1000000):(oC e).length<=(e.add.flatMap fU).length+20*e.drop.length+110:=by
 have j:=h.log; have f:=h.next; have c:=h.seq; have a:=h.least;unfold u64 at j f c a;have n1:=iJ (n:=e.log.toNat) om; have n2:=iJ (n:=e.next.toNat) om; have p:=iJ (n:=e.seq.toNat) om; have m:=iJ (n:=e.least.toNat) om;have l:=iJ (n:=e.add.length) om; have k:=iJ (n:=e.drop.length) om;have g:((qg 5).flatMap fun i=>bK (e.gens i).toNat).length<=10*5:=by
  have:=nP (ns:=pJ e) (aBT h);trivial
 have d:=aFd h.drop;grind[oC]
abbrev cF:=Nat→List Meta
def dB (L:cF) (k:Nat) (l:List Meta):cF:=fun i=>if i=k then l else L i
theorem aHC (L:cF) (k:Nat) (l:List Meta):dB L k l k=l:=by simp [dB]
theorem aD8 {L:cF} {l:List Meta} (h:i≠k):dB L k l i=L i:=by grind[dB]
def iI (g:Gone) (m:Meta):Bool:=m.number == g.number
def gI (g:Gone) (L:cF):Option cF :=
 if g.level<5 then (if fP (iI g) (L g.level.toNat)<0 then none else some (dB L g.level.toNat ((L g.level.toNat).take (fP (iI g) (L g.level.toNat)).toNat++(L g.level.toNat).drop ((fP (iI g) (L g.level.toNat)).toNat+1)))) else none
def lE (m:Meta) (L:cF):Option cF:=if m.level<5 then some (dB L m.level.toNat (L m.level.toNat++[m])) else none
def cQ {β:Type} (f:β->cF->Option cF):List β->cF->Option cF
 | [],L=>some L
 | b :: bs,L=>(f b L).bind (cQ f bs)
def aJj {a:Type} {f:a->cF->Option cF}:∀ {bs:List a} {b:a} {L:cF},cQ f (bs++[b]) L=(cQ f bs L).bind (f b)
 | [],b,L=>by simp [cQ]
 | c :: bs,b,L=>by
  simp only [List.cons_append,cQ];cases f c L with
  | none=>rfl
  | some L1=>exact aJj
def aJk {a:Type} {f:a->cF->Option cF} {c:List a} {b:a} {L:cF} (h:c[k]? = some b):cQ f (c.take (k+1)) L=(cQ f (c.take k) L).bind (f b):=by
 simp_all[we,aJj]
theorem aJi {a:Type} {f:a->cF->Option cF}:∀ {bs cs:List a} {L:cF},cQ f (bs++cs) L=(cQ f bs L).bind (cQ f cs)
 | [],cs,L=>rfl
 | b :: bs,cs,L=>by
  simp only [List.cons_append,cQ];cases f b L with
  | none=>rfl
  | some L1=>exact aJi
theorem aTU {a:Type} {f:a->cF->Option cF} {c:List a} {L:cF} (h:cQ f (c.take k) L=none):cQ f c L=none:=by
 grind[wn,aJi]
def nN (e:Edit) (L:cF):State:=⟨L,e.log,e.next,e.seq,e.least,e.gens⟩
noncomputable def vK (X:State):Option State:=if fT X then some X else none
def pL (s:State) (e:Edit):Bool := !rT s e&&(decide ((e.add.length:Int)<=1024)&&decide ((e.drop.length:Int)<=1024))
def fM (L:cF):cF:=fun i=>jP (qM i) (L i)
noncomputable def kI (s:State) (e:Edit):Option State :=
 if pL s e then (cQ gI e.drop s.lv).bind fun L1=>(cQ lE e.add L1).bind fun L2=>vK (nN e (fM L2)) else none
structure EqS (X Y:State):Prop where
 lv:∀ i,i<5→X.lv i=Y.lv i
 log:X.log=Y.log
 next:X.next=Y.next
 seq:X.seq=Y.seq
 least:X.least=Y.least
 gens:X.gens=Y.gens
def EqS.refl (X:State):EqS X X:=⟨fun _ _=>rfl,rfl,rfl,rfl,rfl,rfl⟩
theorem EqS.tot {X Y:State} (h:EqS X Y):∀ n,n<=5->tot X n=tot Y n
 | 0,_=>rfl
 | n+1,hn=>by simp only [Go.Tan.tot,h.tot n (by omega),h.lv n (by omega)]
def EqS.all {X Y:State} (h:EqS X Y):∀ n,n<=5->cS X n=cS Y n
 | 0,_=>rfl
 | n+1,hn=>by simp only [cS,h.all n (by omega),h.lv n (by omega)]
theorem EqS.good {X Y:State} (h:EqS X Y) (m:Meta):Go.Tan.good X m=Go.Tan.good Y m:=by unfold Go.Tan.good; rw [h.next,h.gens]
theorem EqS.right' {X Y:State} (h:EqS X Y) (a:RightP X):RightP Y:=by
 refine ⟨h.seq▸a.seq,h.least▸a.least,by rw [← h.log,←h.next]; exact a.log,by rw [← h.tot 5 (qc _)]; exact a.few,fun i c=>?_,?_⟩
 ·have:=a.lv i c;rw [h.lv i c] at this;exact ⟨fun m e=>⟨(this.1 m e).1,by grind[good,uZ]⟩,this.2⟩
 rw [← h.all 5 (qc _)]; exact a.apart
def EqS.symm {X Y:State} (h:EqS X Y):EqS Y X:=⟨fun i a=>(h.lv i a).symm,h.log.symm,h.next.symm,h.seq.symm,h.least.symm,h.gens.symm⟩
def EqS.right {X Y:State} (h:EqS X Y):fT X=fT Y:=by
 cases c:fT X with
 | true=>exact (yF (h.right' (mU c))).symm
 | false =>
  cases a:fT Y with
  | false=>rfl
  | true=>have:=yF (h.symm.right' (mU a)); simp_all
def AppR (s:State) (e:Edit) (X:State) (err:Int):Prop :=
 (fT s=false∧err=1∧X=State.zero)∨(fT s=true∧kI s e=none∧err=180∧X=State.zero)∨(fT s=true∧err=0∧∃ Y,kI s e=some Y∧EqS X Y)
def aQG {s:State} (h:pL s e=false):kI s e=none:=by simp_all[kI]
def yW {s:State} (h:cQ gI e.drop s.lv=none):kI s e=none:=by
 simp_all[kI]
def aQE {s:State} {a:cF} (h1:cQ gI e.drop s.lv=some a) (h:cQ lE e.add a=none):kI s e=none:=by
 simp_all[kI]
def aEc {s:State} {c a:cF} (f:pL s e=true) (h1:cQ gI e.drop s.lv=some c) (h2:cQ lE e.add c=some a):kI s e=vK (nN e (fM a)):=by
 simp_all[kI]
def aRB {X Y:State} (h:EqS X Y) (a:fT X=true):vK Y=some Y:=by unfold vK; rw [← h.right,a]; rfl
def aRC {X Y:State} (h:EqS X Y) (a:fT X=false):vK Y=none:=by unfold vK; rw [← h.right,a]; rfl
theorem qD {p:Meta->Bool} {l:List Meta} (h:¬ fP p l<0):(fP p l).toNat<l.length∧fP p l=((fP p l).toNat:Int):=by
 grind[fP,yo]
theorem aSX {L a:cF} (h:gI g L=some a):∀ i,(a i).Sublist (L i):=by
 unfold gI at h;split at h
 ·split at h
  ·cases h
  ·simp only [Option.some.injEq] at h;subst h;intro i;by_cases c:i=g.level.toNat
   ·subst c;rw [aHC];have:=(List.Sublist.refl ((L g.level.toNat).take (fP (iI g) (L g.level.toNat)).toNat)).append (List.drop_sublist_drop_left (L g.level.toNat) (Nat.le_succ (fP (iI g) (L g.level.toNat)).toNat));simp_all
   simp_all[aD8]
 grind
def aC4:∀ {gs:List Gone} {L L':cF},cQ gI gs L=some L'->∀ i,(L' i).Sublist (L i)
 | [],L,L',h,i=>by simp_all[cQ]
 | g :: gs,L,L',h,i=>by
  simp only [cQ] at h;cases hf:gI g L with
  | none=>simp_all
  | some L1=>rw [hf] at h; exact (aC4 h i).trans (aSX hf i)
def pY (i:Nat) (m:Meta):Bool:=m.level.toNat == i
def aA0:∀ {ms:List Meta} {L L':cF},cQ lE ms L=some L'->∀ i,L' i=L i++ms.filter (pY i)
 | [],L,L',h,i=>by simp_all[cQ]
 | m :: ms,L,L',h,i=>by
  simp only [cQ] at h;unfold lE at h;split at h
  ·simp only [Option.bind_some] at h;rw [aA0 h i];by_cases hi:i=m.level.toNat
   ·subst hi;rw [aHC,List.filter_cons_of_pos (by simp [pY])]; simp
   ·rw [aD8 hi,List.filter_cons_of_neg (by simp [pY]; omega)]
  ·cases h
def sC {s:State} {e:List Gone} {L:cF} (a:RightP s) (h:cQ gI e s.lv=some L) (c:i<5):(L i).length<=1024:=by
 have j:=(aC4 h i).length_le;have g:=aAE s c;have f:=a.few;omega
theorem yU {ms:List Meta} {L a:cF} {N:Nat} (h:cQ lE ms L=some a) (c:(L i).length<=N):(a i).length<=N+ms.length:=by
 rw [aA0 h i,qa];grind
def aSY {s:State} {f:List Gone} {L:cF} (a:∀ i,i<5->∀ m∈s.lv i,m.wf) (h:cQ gI f s.lv=some L):∀ i,i<5->∀ m∈L i,m.wf:=fun i e m c=>a i e m ((aC4 h i).subset c)
theorem aPp {ms:List Meta} {L a:cF} (e:∀ i,i<5->∀ m∈L i,m.wf) (hm:∀ m∈ms,m.wf) (h:cQ lE ms L=some a):∀ i,i<5->∀ m∈a i,m.wf:=by
 intro i f m c;rw [aA0 h i] at c;grind
def aZL (L:cF) (i:Nat):(fM L i).length=(L i).length:=aY7 _
def aMs {L:cF}:m∈fM L i↔m∈L i:=(aGo _).mem_iff
def xC (w0 w1 w2 w3 w4:Value) (e:Edit):List Value:=[w0,w1,w2,w3,w4,.int .u64 e.log,.int .u64 e.next,.int .u64 e.seq,.int .u64 e.least]++(qg 5).map fun i=>.int .u64 (e.gens i)
def pk {α:Type} (k i:Nat) (a b:α):α:=if i<k then a else b
def hx5 (a b c d f:Sh):Nat->Sh:=fun i=>match i with | 0=>a | 1=>b | 2=>c | 3=>d | _=>f
theorem aZT {G:PM} {X:State} {a b c d f:Sh} (k:SlR G 40 Meta.cells a (X.lv 0)) (h1:SlR G 40 Meta.cells b (X.lv 1)) (h2:SlR G 40 Meta.cells c (X.lv 2)) (h3:SlR G 40 Meta.cells d (X.lv 3)) (j:SlR G 40 Meta.cells f (X.lv 4)) (h:∀ i,i<5->(X.lv i).length<=1000000) (e:∀ i,i<5->∀ m∈X.lv i,m.wf):StR G X (hx5 a b c d f):=by
 refine ⟨fun i g=>?_,fun i g=>?_,e⟩
 ·grind[hx5]
 grind
def bBp {a b c d f:Sh} {L:cF}:xC (a.val (L 0).length) (b.val (L 1).length) (c.val (L 2).length) (d.val (L 3).length) (f.val (L 4).length) e=(nN e L).cells (hx5 a b c d f):=rfl
def bBq {w0 g f c a:Value} (k:w0.oneCell'=true) (h1:g.oneCell'=true) (h2:f.oneCell'=true) (h3:c.oneCell'=true) (j:a.oneCell'=true):∀ u∈xC w0 g f c a e,u.oneCell'=true:=by
 intro u h;simp only [xC,qn,ql,qe,qf,or_false] at h;rcases h with (rfl|rfl|rfl|rfl|rfl|rfl|rfl|rfl|rfl) | ⟨i,_,rfl⟩<;>first|trivial|rfl
theorem aBE {L:cF} (h:g.level=(q:Int)) (c:q<5) (a:fP (iI g) (L q)=(k:Int)):gI g L=some (dB L q ((L q).take k++(L q).drop (k+1))):=by
 unfold gI;grind
def aBF {L:cF} (h:g.level=(q:Int)) (a:fP (iI g) (L q)<0):gI g L=none:=by
 simp_all[gI]
def aSV {L:cF} (h:5<=g.level):gI g L=none:=by simp_all[gI,if_neg]
theorem lS {L:cF} (h:m.level=(q:Int)) (a:q<5):lE m L=some (dB L q (L q++[m])):=by
 unfold lE;grind
def aPo {L:cF} (h:5<=m.level):lE m L=none:=by simp_all[lE]
def jL {a:Type} {f:a->cF->Option cF} {c:List a} {b:a} {e L g:cF} (i:c[j]? = some b) (k:cQ f (c.take j) e=some L) (h:f b L=some g):cQ f (c.take (j+1)) e=some g:=by simp_all[aJk]
def xJ {a:Type} {f:a->cF->Option cF} {c:List a} {b:a} {e L:cF} (g:c[j]? = some b) (i:cQ f (c.take j) e=some L) (h:f b L=none):cQ f c e=none:=aTU (k:=j+1) (by simp_all[aJk])
theorem aB4 {M a:cF} (h:∀ i,M i=if i<k then fM a i else a i):∀ i,dB M k (jP (fQ (kO (k:Int))) (M k)) i=if i<k+1 then fM a i else a i:=by
 intro i;by_cases c:i=k
 ·simp_all[aKe,dB,fM]
 ·rw [aD8 c,h i];grind
theorem aQF {s:State} (h:((decide ((e.add.length:Int) > 1024)||decide ((e.drop.length:Int) > 1024))||rT s e)=true):kI s e=none:=by
 refine aQG ?_;unfold pL;grind
theorem aWo {s:State} (h:((decide ((e.add.length:Int) > 1024)||decide ((e.drop.length:Int) > 1024))||rT s e)=false):pL s e=true∧e.add.length<=1024∧e.drop.length<=1024:=by
 grind[pL]
theorem aLX {s:State} (h:pL s e=true):e.add.length<=1024∧e.drop.length<=1024:=by
 unfold pL at h;grind
theorem aA2 {s:State} {Y:State} (h:kI s e=some Y):pL s e=true∧fT Y=true∧∃ L1 L2,cQ gI e.drop s.lv=some L1∧cQ lE e.add L1=some L2∧Y=nN e (fM L2):=by
 unfold kI at h;split at h
 ·rename_i c;cases hd:cQ gI e.drop s.lv with
  | none=>simp_all
  | some L1 =>
   rw [hd] at h;simp only [qu] at h;cases a:cQ lE e.add L1 with
   | none=>simp_all
   | some L2 =>
    rw [a] at h;simp only [qu] at h;unfold vK at h;grind
 grind
section
variable {enc mac:Nat→Y} {va vr vp v:Value} {h:Hd} {used u:Int} {torn b:Bool}
end
theorem aJ0 {a b:Hd} (h:a.kind=b.kind∧a.level=b.level∧a.gen=b.gen∧a.epoch=b.epoch∧a.num=b.num):a=b:=by
 obtain ⟨i,g,f,e,c⟩:=a;simp_all
instance:DecidableEq Hd:=fun a b=>decidable_of_iff (a.kind=b.kind∧a.level=b.level∧a.gen=b.gen∧a.epoch=b.epoch∧a.num=b.num) ⟨aJ0,fun h=>by subst h; exact ⟨rfl,rfl,rfl,rfl,rfl⟩⟩
theorem bBH {k:IntKind} {x y:BitVec k.bits} (h:uv k x=uv k y):x=y:=by
 simp only [uv,Value.int.injEq,true_and] at h;grind[wj]
theorem aTm {a b:Hd}:decide (a=b)=true↔[V a.kind,V a.level,uv .u64 a.gen,uv .u64 a.epoch,uv .u64 a.num]=[V b.kind,V b.level,uv .u64 b.gen,uv .u64 b.epoch,uv .u64 b.num]:=by
 rw [decide_eq_true_eq];constructor
 ·simp_all
 ·intro h;simp only [List.cons.injEq,and_true] at h;grind[aJ0,bBH]
def aJz (a:Hd):Conf [.int .u8,.int .u8,.int .u64,.int .u64,.int .u64] [V a.kind,V a.level,uv .u64 a.gen,uv .u64 a.epoch,uv .u64 a.num]:=.u8 (.u8 (.u64 (.u64 (.u64 .nil))))
def vS (s:State):Edit:=⟨s.log,s.next,s.seq,s.least,s.gens,[],[]⟩
def sV (m:Meta):Edit:=⟨0,0,0,0,fun _=>0,[m],[]⟩
def vU (e:Edit):Dg:=gB (oC e)
def zZ (s:State):List Dg:=vU (vS s) :: (cS s 5).map fun m=>vU (sV m)
def aMC (s:State):Dg:=fH (zZ s)
def aDw (mark:BitVec 64) (x:State) (e:Edit):List Y:=cM mark 8++yl 32 (aMC x)++oC e
theorem aL3 (a:BitVec 64) (x:State) (e:Edit):(aDw a x e).length=40+(oC e).length:=by
 grind[aDw,jJ,bL]
def AppR.right {s:State} {e:Edit} {X:State} (h:AppR s e X 0):fT s=true∧∃ Z,kI s e=some Z∧EqS X Z∧fT Z=true∧fT X=true:=by
 rcases h with ⟨_,h,_⟩ | ⟨_,_,h,_⟩ | ⟨g,_,Z,f,c⟩
 ·cases h
 ·cases h
 ·obtain ⟨_,a,_⟩:=aA2 f;exact ⟨g,Z,f,c,a,by rw [c.right]; exact a⟩
theorem aH2:∀ {ms:List Meta} {L L':cF},cQ lE ms L=some L'->∀ m∈ms,m.level<5
 | [],L,L',_,m,hm=>by cases hm
 | x :: ms,L,L',h,m,hm=>by
  simp only [cQ] at h;unfold lE at h;split at h
  ·rename_i h5;rcases List.mem_cons.1 hm with rfl | hm
   ·exact h5
   ·exact aH2 h m hm
  grind
def aPr {s:State} {Z:State} (h:kI s e=some Z):(∀ m∈e.add,m.fits)∧e.add.length<=1024∧e.drop.length<=1024:=by
 obtain ⟨i,n,r,j,q,g,rfl⟩:=aA2 h;refine ⟨fun m k=>?_,(aLX i).1,(aLX i).2⟩;have p:=aH2 g m k;have l:m.level.toNat<5:=by omega
 have c:m∈j m.level.toNat:=by
  rw [aA0 g];simp_all[pY]
 have a:m∈(nN e (fM j)).lv m.level.toNat:=aMs.2 c;have f:=(((mU n).lv _ l).1 m a).2;unfold good at f;simp only [dT] at f;exact ⟨om,om,om,om⟩
theorem aX4 {s:State} (h:fT s=true) (c:i<5):∀ m∈s.lv i,m.min.size<=1024∧m.max.size<=1024:=by
 intro m a;have e:=(((mU h).lv _ c).1 m a).2;unfold good at e;grind
def LayR (root:Nat->Y) (h:Hd) (n mark:BitVec 64) (s:State) (e:Edit) (L:List Y) (X:State) (r:Int):Prop :=
 ∃ X0 r0,AppR s e X0 r0∧((r0≠0∧L=[]∧X=State.zero∧r=r0)∨(r0=0∧∃ L1 r1,(L1,r1)=lW root h n (aDw mark X0 e)∧((r1≠0∧L=[]∧X=State.zero∧r=r1)∨(r1=0∧L=L1∧X=X0∧r=0))))
theorem Tr.cutRow {p G:PM} {K0:List Nat} {w0 w:World} {μ:aB} {b m cap:Nat} {xs:List Value} (h:Tr p K0 w0 G (.row (.slice (some ⟨b,0,none⟩) m cap) E sz m xs :: μ) w) (v:q<=m) :
  Tr p K0 w0 G (.row (.slice (some ⟨b,0,none⟩) q cap) E sz q (xs.take (q*sz)) :: μ) w:=by
 have i:keys (.row (.slice (some ⟨b,0,none⟩) q cap) E sz q (xs.take (q*sz)) :: μ)=keys (.row (.slice (some ⟨b,0,none⟩) m cap) E sz m xs :: μ):=by rfl
 have a:w.ownsRow 0 E sz (.slice (some ⟨b,0,none⟩) m cap) m xs:=h.sat.own _ (qh ..);refine { h with sat:=⟨h.sat.sub,fun r f=>?_,by rw [i]; exact h.sat.apart,by rw [i]; exact h.sat.nodup⟩,mine:=by rw [i]; exact h.mine };rcases qe.1 f with rfl | f
 ·have C:=a.1;have t:q*sz<=m*sz:=Nat.mul_le_mul_right _ v;rcases a.2 with ⟨e,_⟩ | ⟨g,n,l,e,A,y,x,k,j,c⟩
  ·cases e
  simp only [Value.slice.injEq,Option.some.injEq,Addr.mk.injEq,and_true,true_and] at e;obtain ⟨rfl,rfl⟩:=e;refine ⟨by simp_all,.inr ⟨b,cap,l,rfl,A,y,om,k,j,?_⟩⟩;grind
 exact h.sat.own r (qj _ f)
theorem aOG {X:Cx} {f:Code} {k:List KI} {ρ:aF} {G:PM} {μ c:aB} {b cap:Nat} (A B:List α) (i:∀ x∈xs,(enc x).length=sz) (hm:MTake μ (rS sz enc (.slice (some ⟨b,0,none⟩) xs.length cap) E xs) c) (e:xs=A++B) (h:Wk X f k ρ G (rS sz enc (.slice (some ⟨b,0,none⟩) A.length cap) E A :: c)):Wk X f k ρ G μ :=
 ⟨fun a w j g=>h.out a w j (by
  subst e;have:=(g.perm hm.perm).cutRow (q:=A.length) (by simp);grind[aFW,vi])⟩
section
variable {dr:Bool} {mc:Md} {P:Program} {n:Fm} {l:List Oper} {K:aF→PM→aB→Prop} {i:Nat} {σ:List Nat} {ρ:aF} {G:PM} {μ:aB}
variable {d t:Nat} {p:String} {af:Array Edge} {g:Option (Nat×Bool)} {c:Bool}
theorem aP8 (A:Nat):BitVec.ofNat 64 A &&& BitVec.ofNat 64 1=BitVec.ofNat 64 (A%2):=by
 apply wj;grind
theorem an1 {T F:TypeId} {m k:Int} (A:Nat) (C:nth l i=some ⟨some d,.binOp .and T x y F,t,p,af,g⟩) (D:Gd l ρ g c) (v:Ev ρ c x (.int .i64 m)) (r:Ev ρ c y (.int .i64 k)) (j:m=A) (f:k=1) (h:Wo dr mc P n l K σ ((d,c,.int .i64 ((A%2:Nat):Int)) :: ρ) G μ):Wo dr mc P n l K (i :: σ) ρ G μ :=
 .pure C (.inl rfl) D (fun a q w e=>by
  subst j; subst f;have E:(binOp .and T (.int .i64 (A:Int)) (.int .i64 1)).run P w=.ok (.int .i64 ((A%2:Nat):Int)) w:=by
   have j:qk 64 (A:Int)=qb 64 A:=by simp
   have f:qk 64 (1:Int)=qb 64 1:=rfl;have I:IntKind.i64.wrap ((qb 64 (A%2)).toNat:Int)=((A%2:Nat):Int):=by
    grind[cP]
   have H:(Op.intBits .and .i64 (A:Int) 1)=pure (.int .i64 (IntKind.i64.wrap ((qk 64 (A:Int) &&& qk 64 (1:Int)).toNat:Int))):=rfl;simp_all[binOp,aP8]
  simp only [execOp,v.eval e a,r.eval e a,Sem.run_bind,mM,Result.andThen_ok,E]; rfl) h
end
def fA (S:List (Nat×Dg)):List Dg:=(S.map (·.2)).reverse
def aAb (a:Nat) (r:Dg) (S:List (Nat×Dg)):fA ((a,r) :: S)=fA S++[r]:=by simp [fA]
theorem yL (S:List (Nat×Dg)):(fA S).length=S.length:=by simp [fA]
def zD:Dg:=fun _=>0#8
theorem aMy (a:Nat) (r:Dg) (S:List (Nat×Dg)):(fA ((a,r) :: S)).getD S.length zD=r:=by
 simp[aAb,yL]
def sG (d:Dg) (L:List Dg):Nat->Dg
 | 0=>d
 | j+1=>sG (oG (L.getD j zD) d) L j
def aFT:∀ (j:Nat) (d x:Dg) (L:List Dg),j<=L.length->sG d (L++[x]) j=sG d L j
 | 0,_,_,_,_=>rfl
 | j+1,d,x,L,h=>by
  have e:(L++[x]).getD j zD=L.getD j zD:=by rw [wc,ym om,←wc]
  simp only [sG,e]; exact aFT j _ x L om
def aTG {d:Dg} {L:List Dg} (h:0<j):sG d L j=sG (oG (L.getD (j-1) zD) d) L (j-1):=by
 obtain ⟨i,rfl⟩ : ∃ i,j=i+1:=⟨j-1,om⟩;rfl
theorem aZg {c:List (Nat×Dg)} {a:Nat} {s:Dg} (h:S=(a,s) :: c):(fA S).getD ((fA S).length-1) zD=s:=by
 grind[yL,aMy]
def aJd:∀ (S:List (Nat×Dg)) (d:Dg),sG d (fA S) S.length=finD d S
 | [],d=>rfl
 | (a,r) :: S,d=>by
  simp only [List.length_cons,sG,finD,aMy];rw [aAb,aFT _ _ _ _ (by rw [yL]; exact Nat.le_refl _),aJd S]
def aZf {L:List Dg} (h:Stk S L) (c:0<L.length):0<(fA S).length∧fH L=sG ((fA S).getD ((fA S).length-1) zD) (fA S) ((fA S).length-1):=by
 rw [yL];match S,h with
 | [],h=>cases h; cases c
 | (a,r) :: S,h =>
  refine ⟨yy _,?_⟩;rw [h.done,←aJd S r];simp[aAb,aFT,yL]
def aXE {d:Dg} {a:Nat} {l:List Dg} (h:Pend S d a l) (eq:q=l.length / 2^a) (c:q%2=0):∃ s S',S=(a,s) :: S'∧Pend S' (oG s d) (a+1) l∧q / 2=l.length / 2^(a+1):=by
 subst eq; exact h.even c
def aXG {d:Dg} {a:Nat} {l:List Dg} (h:Pend S d a l) (eq:q=l.length / 2^a) (c:¬ q%2=0):Stk ((a,d) :: S) l:=by
 subst eq; exact h.odd om
theorem aXH {d:Dg} {a:Nat} {l:List Dg} (h:Pend S d a l) (eq:q=l.length / 2^a):0<q:=by
 obtain ⟨L,c,j,g,f,e,i⟩:=h.out;subst eq;exact Nat.div_pos (by grind) (Nat.pow_pos dc)
theorem aXF {d:Dg} {a:Nat} {l:List Dg} (h:Pend S d a l):S.length<=l.length:=by
 obtain ⟨L,c,f,i,g,e,j⟩:=h.out;have:=f.short;grind
section
variable {dr:Bool} {mc:Md} {P:Program} {n:Fm} {l:List Oper} {K:aF→PM→aB→Prop} {i:Nat} {σ:List Nat} {ρ:aF} {G:PM} {μ:aB}
variable {d t:Nat} {p:String} {af:Array Edge} {g:Option (Nat×Bool)} {c:Bool}
def kaf {k:Operand} {xs:List Operand} {e:Array TypeId} {vc:List Value} {μ₁ μ₂:aB} {m:Option Nat} (x:nth l i=some ⟨m,.call { callee:=.value k,args:=xs.toArray,argTypes:=e },t,p,af,none⟩) (hm:mc.c=true∨dr=false) (g:Ev ρ true k (.func (.func f) #[] vc.toArray)) (A:eT P f=true) (q:∀ a,Ag n ρ a->true=true->xs.map a.eval=vs) (r:μ.Perm (μ₁++μ₂)) (y:Ct P f (vs++vc).toArray G μ₁ post) (h:∀ v G' μ',PM.le G G'->post G' μ' v->Wo dr mc P n l K σ (bV ρ m true v) G' (μ'++μ₂)):Wo dr mc P n l K (i :: σ) ρ G μ :=
 .act x (by simp_all[bB]) .no r (fun a w j _=>.inr ⟨f,_,by
  have C:=q a j rfl;simp [execOp,resolve,Deferred.ofValue,g.eval j rfl,invoke,aBz A];omega,y⟩) h
end
theorem SlR.one1 {G:PM} {b:Nat} {x:α} {T:TypeId}:SlR (G.add b (cl (enc x) T)) sz enc ⟨some ⟨b,0,none⟩,1⟩ [x]:=by
 refine ⟨fun _=>rfl,qc _,fun i y a j v c=>?_⟩;cases i with
 | succ i=>grind
 | zero =>
  simp only [List.getElem?_cons_zero,Option.some.injEq] at a;subst a;rw [vd,Nat.add_zero];exact RdP.blk (bI _ _ _) (by simp_all[Sh.o])
structure StN (s:State):Prop where
 log:u64 s.log
 next:u64 s.next
 seq:u64 s.seq
 least:u64 s.least
 gens:∀ i,i<5→u64 (s.gens i)
def aTo {s:State} (h:StN s):(vS s).wf:=⟨h.log,h.next,h.seq,h.least,h.gens,(fun m a=>absurd a qf),(fun g c=>absurd c qf)⟩
def aWr (h:m.wf):(sV m).wf:=by
 have z:u64 0:=⟨dc,dc⟩;refine ⟨z,z,z,z,fun _ _=>z,fun x c=>?_,(fun g a=>absurd a qf)⟩;simp_all[sV]
def aWq (h:m.wf):((sV m).add.flatMap fU).length<=m.min.size+m.max.size+112:=by
 show ([m].flatMap fU).length<=_;simp_all[aFD]
def aTn {s:State}:((vS s).add.flatMap fU).length<=10:=by simp_all[vS]
def nL (s:State) (k j:Nat):List Dg:=vU (vS s) :: ((cS s k++(s.lv k).take j).map fun m=>vU (sV m))
def aVK (s:State):nL s 0 0=[]++[vU (vS s)]:=by rfl
def aVO {s:State} (h:(s.lv k)[j]? = some m):nL s k j++[vU (sV m)]=nL s k (j+1):=by
 simp_all[nL,we]
def aVN {s:State} (h:(s.lv k).length<=j):nL s k j=nL s (k+1) 0:=by
 simp_all[nL,wd,cS]
def aVL (s:State):nL s 5 0=zZ s:=by simp[nL,zZ]
theorem aVM (s:State) (k j:Nat):((nL s k j).length:Int)<=1+tot s k+(s.lv k).length:=by
 grind[aCZ,nL,qq]
def bAp {s:State} (h:k<5):tot s k+(s.lv k).length<=tot s 5:=aCC _ (show k+1<=5 by omega)
def aVc (s:State) (hd:Nat->Sh) {j:Int} (h:k<5) (e:j.toNat=k):((List.range 5).map fun i=>(hd i).val (s.lv i).length)[j.toNat]? = some ((hd k).val (s.lv k).length):=by
 simp_all
theorem aVJ (s:State):((zZ s).length:Int)=1+tot s 5:=by
 grind[aCZ,zZ]
theorem bBZ {ρ:aF} {G:PM} {μ:aB} {X:Cx} {e:Code} {k:List KI} {b:Nat} {c:aB} (x:α) (hm:MTake μ (.blk b (cl (enc x) E)) c) (j:(enc x).length=sz) (h:Wk X e k ρ G (rS sz enc (.slice (some ⟨b,0,none⟩) 1 1) E [x] :: c)):Wk X e k ρ G μ :=
 ⟨fun a w g f=>by
  have i : [x].flatMap enc=enc x:=by simp
  refine h.out a w g ?_;show Tr _ _ _ _ (.row _ E sz [x].length ([x].flatMap enc) :: c) w;rw [i];exact (f.perm hm.perm).asRow (m:=1) (cap:=1) (sz:=sz) om (qc _) (by trivial) (by grind) (by grind)⟩
structure StL (s:State):Prop where
 few:tot s 5≤100000
 short:∀ i,i<5→∀ m∈s.lv i,m.min.size+m.max.size≤900000000000
structure Fl where
 h:Hd
 n:BitVec 64
 safe:Bool
def Fl.cells (f:Fl):List Value:=f.h.cells++[uv .u64 f.n,.bool f.safe]
def Fl.zero:Fl:=⟨Hd.zero,0,false⟩
def pt (b:Nat):Value:=.pointer (some ⟨b,0,none⟩)
structure Db where
 dk:Nat
 tr:Nat
 root:Nat→Y
 o:Opts
 ep:BitVec 64
 s:State
 hd:Nat→Sh
 next:BitVec 64
 seq:BitVec 64
 turn:BitVec 64
 held:Nat
 lg:Fl
 ol:Fl
 mn:Fl
 now:Nat
 wt:Option Nat:=none
 flt:Int:=0
 cls:Bool:=false
def ptO (o:Option Nat):Value:=.pointer (o.map fun b=>⟨b,0,none⟩)
def Db.cells (b:Db):List Value :=
 [pt b.dk,pt b.tr]++ba 32 b.root++b.o.cells++[uv .u64 b.ep]++b.s.cells b.hd++[uv .u64 b.next,uv .u64 b.seq,uv .u64 b.turn,.map (some b.held)]++b.lg.cells++b.ol.cells++b.mn.cells++[pt b.now,ptO b.wt,.int .i64 b.flt,.bool b.cls]
def aOc (b:Db) (v:BitVec 64):b.cells.set 56 (uv .u64 v)=Db.cells { b with next:=v }:=rfl
def aOf (b:Db) (v:BitVec 64):b.cells.set 57 (uv .u64 v)=Db.cells { b with seq:=v }:=rfl
def aCL (b:Db) (f:Fl):put b.cells 60 f.cells=Db.cells { b with lg:=f }:=rfl
def aHU (b:Db) (f:Fl):put b.cells 74 f.cells=Db.cells { b with mn:=f }:=rfl
def aHW (b:Db) (s:State) (hd:Nat->Sh):put b.cells 42 (s.cells hd)=Db.cells { b with s:=s,hd:=hd }:=rfl
def aOb (b:Db) (n:BitVec 64):b.cells.set 65 (uv .u64 n)=Db.cells { b with lg:={ b.lg with n:=n } }:=rfl
def aCM (b:Db) (s:Bool):b.cells.set 66 (.bool s)=Db.cells { b with lg:={ b.lg with safe:=s } }:=rfl
def aHV (b:Db) (n:BitVec 64):b.cells.set 79 (uv .u64 n)=Db.cells { b with mn:={ b.mn with n:=n } }:=rfl
def Fl.one (f:Fl):∀ u∈f.cells,u.oneCell'=true:=by
 intro u a;simp only [Fl.cells,Hd.cells,ww,qy,qe,qf,or_false] at a;rcases a with rfl|rfl|rfl|rfl|rfl|rfl|rfl<;>rfl
def iW (a b:Int):Edit:=⟨a,b,0,0,fun _=>0,[],[]⟩
def gL (a b:Int):State:=⟨fun _=>[],a,b,0,0,fun _=>0⟩
def aFB {a b:Int} (h:u64 a) (f:u64 b):(iW a b).wf:=by
 have z:u64 0:=⟨dc,dc⟩;exact ⟨h,f,z,z,fun _ _=>z,(fun m c=>absurd c qf),(fun g e=>absurd e qf)⟩
def aGs {G:PM} {a b:Int}:StR G (gL a b) eE:=⟨fun _ _=>dD,fun _ _=>qo _,fun _ _ m c=>nomatch c⟩
theorem aQa {a b:Int} (f:0<=a) (e:0<=b):rT State.zero (iW a b)=false:=by
 rw [aEe (fun i c=>by grind[iW,State.zero])];grind[iW,State.zero]
def aL7 {a b:Int} (g:0<=a) (f:a<=b):fT (gL a b)=true:=by
 refine yF ⟨by simp_all[gL],by simp_all[gL],by trivial,by simp[tot,gL],fun i e=>?_,fun x y c _=>?_⟩
 ·simp_all[uZ,gL]
 trivial
def aZS {a b:Int} (h:k<5):((gL a b).cells eE).set (0+k*1) (.slice none 0 0)=(gL a b).cells eE:=by
 match k,h with
 | 0,_=>rfl | 1,_=>rfl | 2,_=>rfl | 3,_=>rfl | 4,_=>rfl
def aZR {a b:Int} (h:k<5):((gL a b).cells eE)[0+k*1]? = some (.slice none 0 0):=by
 match k,h with
 | 0,_=>rfl | 1,_=>rfl | 2,_=>rfl | 3,_=>rfl | 4,_=>rfl
def aLC {j:Int} (h:j.toNat<5):((List.range 5).map (fun _=>Value.slice none 0 0))[j.toNat]? = some (.slice none 0 0):=by simp [h]
def aMv {a b:Int} (e:u64 a) (c:u64 b):StN (gL a b):=⟨e,c,⟨by simp_all[gL],by simp_all[gL]⟩,⟨by simp_all[gL],by simp_all[gL]⟩,fun _ _=>⟨by simp_all[gL],by simp_all[gL]⟩⟩
def aZQ {a b:Int}:StL (gL a b):=⟨by simp[tot,gL],fun _ _ m c=>absurd c qf⟩
theorem aVD {root:Nat->Y} {h:Hd} {n:BitVec 64} {p L:List Y} {e:Int} (g:p.length<=400) (a:(L,e)=lW root h n p):e=0∧L.length<=600:=by
 unfold lW at a;rw [if_pos om] at a;obtain ⟨f,i⟩:=Prod.mk.inj a;have c:(kB (fF root (aU h)) (fG root (aU h)) (iQ n) (aU h) p).length=p.length+16:=by rw [uJ]
 generalize kB (fF root (aU h)) (fG root (aU h)) (iQ n) (aU h) p=S at f c;have j:aGV S=qV S ((S.length+127) / 128):=rfl;grind[aGP]
section
variable {dr:Bool} {mc:Md} {P:Program} {n:Fm} {l:List Oper} {K:aF→PM→aB→Prop} {i:Nat} {σ:List Nat} {ρ:aF} {G:PM} {μ:aB}
variable {t:Nat} {p:String} {af:Array Edge}
theorem stp {T c:TypeId} {b o:Nat} {v:Value} {cs cs':List Value} {a:aB} (m:nth l i=some ⟨none,.store T x y,t,p,af,none⟩) (g:Ev ρ true x (.pointer (some ⟨b,o,none⟩))) (f:Ev ρ true y v) (j:v.cells=vs.toArray) (e:jC P T=some vs.length) (hm:MTake μ (.blk b (cl cs c)) a) (q:o+vs.length<=cs.length) (h1:∀ u∈vs,u.oneCell'=true) (k:put cs o vs=cs') (h:Wo dr mc P n l K σ ρ G (.blk b (cl cs' c) :: a)):Wo dr mc P n l K (i :: σ) ρ G μ:=by
 grind[st]
end
section
variable {mc:Md} {P:Program} {n:Fm} {l:List Oper} {K:aF→PM→aB→Prop} {i:Nat} {σ:List Nat} {ρ:aF} {G:PM} {μ:aB}
variable {d t:Nat} {p:String} {af:Array Edge}
end
theorem bBC {o:Oper} {a:Act} {next c:Act->World->Prop} {Q f:Exit->Act->World->Prop} (h1:∀ a w,next a w->c a w) (h2:∀ ch a w,Q (.panic ch) a w->f (.panic ch) a w) (h3:LetsOut Q->LetsOut f) :
  ∀ r,o.upon P a next Q r->o.upon P a c f r:=by
 intro r h;unfold Oper.upon at h ⊢;split at h
 ·simp_all
 ·simp_all
 ·simp_all
 ·refine h.mono fun e i g=>?_;grind
 ·exact h.mono fun v i g=>h1 _ _ g
 ·simp_all
 omega
def aCI {P:Program} {c:Array Oper} {Q:Exit->Act->World->Prop} {e:List Nat}:∀ {σ1:List Nat} {a:Act} {w:World},wpOps P c (Exit.then (wpOps P c Q e) Q) σ1 a w->wpOps P c Q (σ1++e) a w
 | [],a,w,h=>h
 | i :: σ1,a,w,h=>by
  simp only [wpOps,List.cons_append] at h ⊢;cases ho:c[i]? with
  | none=>simp only [ho] at h; exact aCI h
  | some o =>
   simp only [ho] at h;dsimp only;split at h
   ·rename_i hw;rw [if_pos hw];rcases h with h | ⟨h,hl⟩
    ·exact .inl (bBC (fun a w h=>aCI h) (fun ch a w h=>h) (fun h=>h) _ h)
    ·exact .inr ⟨h,hl⟩
   ·rename_i hw;rw [if_neg hw]; exact aCI h
abbrev Cx.dfr (X:Cx) (d:Deferred) (die1:List PanicEntry→aF→PM→aB→Prop)
  (ok1:∀ ch ρ G μ a w,die1 ch ρ G μ→Ag ⟨X.n.n,[d],die1⟩ ρ a→Tr X.G0 X.K0 X.w0 G μ w→Leaves X.P X.fn a.tmps (RR X.post X.die X.G0 X.K0 X.w0) a.defers (.panicking ch) w):Cx :=
 ⟨X.P,X.fn,⟨X.n.n,[d],die1⟩,X.G0,X.K0,X.w0,X.post,X.die,ok1⟩
def aAw {X Y:Cx} (h1:X.P=Y.P) (h2:X.fn=Y.fn) (h3:X.R=Y.R):∀ k,gH X k=gH Y k
 | []=>by simp_all[gH]
 | .code c :: k=>by simp only [gH,aAw h1 h2 h3 k,h1]
 | .blk id :: k=>by simp only [gH,aAw h1 h2 h3 k]
 | .lp I :: k=>by simp only [gH,aAw h1 h2 h3 k]
structure DefOp (P:Program) (n:Fm) (l:List Oper) (j:Nat) (d:Deferred) (ρ:aF):Prop where
 of:∃ o,nth l j=some o∧o.guard=none∧o.dst=none∧∀ a w,Ag n ρ a→(execOp a.eval o).run P w=.ok (.defer d) w
theorem Wk.defer {X:Cx} {k:List KI} {e:aF} {G:PM} {f:aB} {x:Nat} {l:List Oper} (g:List Nat) (j:Nat) (d:Deferred) (c:List PanicEntry->aF->PM->aB->Prop)
  (m:∀ ch e G f a w,c ch e G f->Ag ⟨X.n.n,[d],c⟩ e a->Tr X.G0 X.K0 X.w0 G f w->Leaves X.P X.fn a.tmps (RR X.post X.die X.G0 X.K0 X.w0) a.defers (.panicking ch) w)
  (y:List.range l.length=g++[j]) (v:tR X.n l=true) (E:X.n.ds=[])
  (h:Wo false ⟨false,false⟩ X.P X.n l (fun e G f=>DefOp X.P X.n l j d e∧We (X.dfr d c m) .normal k e G f) g e G f):Wk X (.region x l.toArray false) k e G f:=by
 refine ⟨fun a w i t=>wp_region ?_⟩;have A:qg l.toArray.size=g++[j]:=by omega
 rw [A];refine aCI ?_;refine Wo.run (Q:=Exit.then (wpOps X.P l.toArray (gH X k) [j]) (gH X k)) (aC7 v) (fun _=>vC _ k) (fun e G f D a w i t=>?_) _ _ _ _ a w h i t;obtain ⟨⟨o,C,F,q,p⟩,r⟩:=D;show wpOps X.P l.toArray (gH X k) [j] a w;simp only [wpOps,jY,C];rw [if_pos (by grind[Region.wanted])];refine .inl ?_;unfold Oper.wp;rw [p a w i];simp only [Oper.upon,wpOps,q,Act.put];have:=r.out { a with defers:=d :: a.defers } w ⟨i.size,by show d :: a.defers=[d]; rw [i.defers,E],i.get⟩ t;rwa [aAw (X:=X.dfr d c m) (Y:=X) rfl rfl rfl k] at this
def We.finD {X:Cx} {ρ:aF} {G:PM} {μ:aB} (h:∀ a w,Ag X.n ρ a->Tr X.G0 X.K0 X.w0 G μ w->Leaves X.P X.fn a.tmps X.R X.n.ds .returning w):We X .ret [] ρ G μ :=
 ⟨fun a w c e=>by
  show Leaves X.P X.fn a.tmps X.R a.defers .returning w;rw [c.defers]; simp_all⟩
def ifT (P:Program) (T:TypeId):Bool:=match P.underlying T with | some (.interface _)=>true | _=>false
theorem aJ6 {T:TypeId} (h:ifT P T=true):∃ q,P.underlying T=some (.interface q):=by
 grind[ifT]
def dfc (f:FuncId) (args:List Value):Deferred:={ target:=.fn (.func f) #[],args:=args.toArray }
theorem aPe {X:Cx} {ρ:aF} {G:PM} {μ c:aB} {k:List ResultVar} {args:List Value} (t:eT X.P f=true) (g:X.n.ds=[dfc f args]) (m:∀ w,CallsD X.P f args.toArray .returning w (fun e j i=>(∃ v,e=.returned v)∧j=.returning∧i=w)) (r:X.fn.results=k.toArray) (h:Rs X.P ρ G μ k vs) (hM:MSub c μ) (p:X.post G c (fX vs)):We X .ret [] ρ G μ :=
 We.finD fun a w q l=>by
  rw [g];refine leaves_cons (by simp) (f:=f) (args:=args.toArray) (by grind[invoke,aBz]) ((m w).mono ?_);rintro e j i ⟨⟨v,rfl⟩,rfl,rfl⟩;exact ⟨_,aGW (by simp_all) q l.sat,.inl ⟨_,G,c,rfl,hM.tr l,p⟩⟩
def bBa {X:Cx} {k:List KI} {ρ:aF} {G:PM} {μ:aB} {g:Nat} {l:List Oper} {c:Array TypeId} {v:Value} {t:Nat} {p:String} {y:Array Edge} (j:l=[⟨none,.defer { callee:=.value (.func f),args:=#[x],argTypes:=c },t,p,y,none⟩]) (r:X.n.ds=[]) (i:ev ρ x=some (true,v)) (h:We (X.dfr (dfc f [v]) (fun _ _ _ _=>False) (fun _ _ _ _ _ _ e=>e.elim)) .normal k ρ G μ):Wk X (.region g l.toArray false) k ρ G μ:=by
 subst j;refine Wk.defer [] 0 (dfc f [v]) (fun _ _ _ _=>False) (fun _ _ _ _ _ _ e=>e.elim) rfl rfl r (.nil ⟨⟨_,rfl,rfl,rfl,fun a w q=>?_⟩,h⟩);have A:a.eval x=v:=q.eval i rfl;have m:a.eval (.func f)=.func (.func f) #[] #[]:=rfl;simp_all[execOp,resolve,Deferred.ofValue,dfc]
def Rs.congr {ρ a:aF} {G:PM} {μ:aB} {c:List ResultVar} (h:Rs P ρ G μ c vs) (e:∀ i,cT a i=cT ρ i):Rs P a G μ c vs:=by
 induction h<;>simp_all[nil,tmp,cell]
structure DQ where
 f:FuncId
 args:List Value
 vc:List Value
def DQ.d (q:DQ):Deferred:={ target:=.fn (.func q.f) q.vc.toArray,args:=q.args.toArray }
def aHm (P:Program) (G:PM) (μ:aB) (q:DQ):Prop :=
 eT P q.f=true∧∀ w,Sat G μ w->CallsD P q.f (q.args++q.vc).toArray .returning w (fun e u' w'=>(∃ v,e=.returned v)∧u'=.returning∧w'=w)
def aKV {P:Program} {fn:Func} {a:Array Value} {R:Ending->World->Prop} {G:PM} {μ:aB} {w:World} (g:Sat G μ w) (i:Leaves P fn a R [] .returning w) :
  ∀ {ds:List DQ},(∀ q∈ds,aHm P G μ q)->Leaves P fn a R (ds.map DQ.d) .returning w
 | [],_=>i
 | q :: ds,h=>by
  have hq:=h q (qh ..);refine leaves_cons (by simp) (f:=q.f) (args:=(q.args++q.vc).toArray) (by simp [invoke,aBz hq.1]) ((hq.2 w g).mono ?_);rintro e l k ⟨⟨v,rfl⟩,rfl,rfl⟩;exact aKV g i fun j c=>h j (qj _ c)
abbrev Cx.dfs (X:Cx) (d:Deferred) (die1:List PanicEntry→aF→PM→aB→Prop)
  (ok1:∀ ch ρ G μ a w,die1 ch ρ G μ→Ag ⟨X.n.n,d :: X.n.ds,die1⟩ ρ a→Tr X.G0 X.K0 X.w0 G μ w→Leaves X.P X.fn a.tmps (RR X.post X.die X.G0 X.K0 X.w0) a.defers (.panicking ch) w):Cx :=
 ⟨X.P,X.fn,⟨X.n.n,d :: X.n.ds,die1⟩,X.G0,X.K0,X.w0,X.post,X.die,ok1⟩
theorem Wk.defers {X:Cx} {k:List KI} {e:aF} {G:PM} {f:aB} {x:Nat} {l:List Oper} (g:List Nat) (j:Nat) (d:Deferred) (c:List PanicEntry->aF->PM->aB->Prop)
  (m:∀ ch e G f a w,c ch e G f->Ag ⟨X.n.n,d :: X.n.ds,c⟩ e a->Tr X.G0 X.K0 X.w0 G f w->Leaves X.P X.fn a.tmps (RR X.post X.die X.G0 X.K0 X.w0) a.defers (.panicking ch) w)
  (y:List.range l.length=g++[j]) (v:tR X.n l=true)
  (h:Wo false ⟨false,false⟩ X.P X.n l (fun e G f=>DefOp X.P X.n l j d e∧We (X.dfs d c m) .normal k e G f) g e G f):Wk X (.region x l.toArray false) k e G f:=by
 refine ⟨fun a w i t=>wp_region ?_⟩;have A:qg l.toArray.size=g++[j]:=by omega
 rw [A];refine aCI ?_;refine Wo.run (Q:=Exit.then (wpOps X.P l.toArray (gH X k) [j]) (gH X k)) (aC7 v) (fun _=>vC _ k) (fun e G f D a w i t=>?_) _ _ _ _ a w h i t;obtain ⟨⟨o,C,E,q,p⟩,r⟩:=D;show wpOps X.P l.toArray (gH X k) [j] a w;simp only [wpOps,jY,C];rw [if_pos (by grind[Region.wanted])];refine .inl ?_;unfold Oper.wp;rw [p a w i];simp only [Oper.upon,wpOps,q,Act.put];have:=r.out { a with defers:=d :: a.defers } w ⟨i.size,by show d :: a.defers=d :: X.n.ds; rw [i.defers],i.get⟩ t;rwa [aAw (X:=X.dfs d c m) (Y:=X) rfl rfl rfl k] at this
def aOh {n:Fm} {l:List Oper} {ρ:aF} {vc:List Value} {c:Array TypeId} {t:Nat} {p:String} {k:Array Edge} (g:nth l j=some ⟨none,.defer { callee:=.value x,args:=#[],argTypes:=c },t,p,k,none⟩) (e:ev ρ x=some (true,.func (.func f) #[] vc.toArray)):DefOp P n l j (DQ.d ⟨f,[],vc⟩) ρ :=
 ⟨⟨_,g,rfl,rfl,fun a w i=>by
  have h:a.eval x=.func (.func f) #[] vc.toArray:=i.eval e rfl;simp_all[execOp,resolve,Deferred.ofValue,DQ.d]⟩⟩
def aAy {X:Cx} {ρ:aF} {G:PM} {μ c:aB} {g:List ResultVar} (ds:List DQ) (f:X.n.ds=ds.map DQ.d) (i:∀ q∈ds,aHm X.P G μ q) (l:X.fn.results=g.toArray) (h:Rs X.P ρ G μ g vs) (hM:MSub c μ) (j:X.post G c (fX vs)):We X .ret [] ρ G μ :=
 We.finD fun a w k e=>by
  rw [f];exact aKV e.sat ⟨_,aGW (by simp_all) k e.sat,.inl ⟨_,G,c,rfl,hM.tr e,j⟩⟩ i
def zro {α:Type}:α->Nat:=fun _=>0
def cG (y:α):zro y<1:=vt
theorem Wk.jn {X:Cx} {k:List KI} {ρ:aF} {G:PM} {μ:aB} {c:Code} (E:α->aF) (M:α->aB) (F:α->PM->Prop) (f:aF) (g:aB) (hE:ESub f ρ) (hM:MSub g μ) (h:Wk X c (.lp (fun a w=>∃ y,zro y<1∧Inv X G (fun x=>E x++f) (fun x=>M x++g) F y a w) :: k) ρ G μ) (h2:∀ y i,PM.le G i->F y i->We X .normal k (E y++f) i (M y++g)):Wk X c k ρ G μ :=
 ⟨fun a w m j=>wp_mono (h.out a w m j) fun e a w n=>by
  cases e with
  | normal =>
   obtain ⟨y,_,i,l,p,m,j⟩:=n;exact (h2 y i l p).out a w m j
  | _=>exact n⟩
section
variable {dr:Bool} {mc:Md} {P:Program} {n:Fm} {l:List Oper} {K:aF→PM→aB→Prop} {i:Nat} {σ:List Nat} {ρ:aF} {G:PM} {μ:aB}
variable {d t:Nat} {p:String} {af:Array Edge}
def apZ {f:Nat} (v:nth l i=some ⟨some d,.call { callee:=.builtin .append,args:=#[x,y],argTypes:=#[T,T] },t,p,af,none⟩) (C:bY P T=some (E,sz,f)) (q:Ev ρ true x (.slice none 0 0)) (m:Ev ρ true y (.slice none 0 0)) (h:Wo dr mc P n l K σ ((d,true,.slice none 0 0) :: ρ) G μ) (hmc:mc.a=false∨dr=false:=by first|exact .inl rfl|exact .inr rfl):Wo dr mc P n l K (i :: σ) ρ G μ:=by
 obtain ⟨r,k,A,rfl,rfl⟩:=fW C;refine .act (μ₁:=[]) (μ₂:=μ) (post:=fun D c j=>D=G∧j=.slice none 0 0∧c=[]) v (by simp_all[bB]) .no (.refl _) (fun a w g e=>.inl ?_) ?_
 ·exact ⟨.slice none 0 0,w,G,[],.inl (by simp [execOp,resolve,invoke,builtin,q.eval g rfl,m.eval g rfl,Builtin.append_,run_underlying r,sizeOf,typeInfo,A,Builtin.lenOf,Builtin.firstCells,loadCells,loadCellsFrom]),gX (Sat.left (μ:=[]) e),rfl,rfl,rfl⟩
 simp_all[bV]
end
def DefOp.fn {n:Fm} {l:List Oper} {ρ:aF} {xs:List Operand} {c:Array TypeId} {t:Nat} {p:String} {k:Array Edge} (g:nth l j=some ⟨none,.defer { callee:=.value (.func f),args:=xs.toArray,argTypes:=c },t,p,k,none⟩) (e:∀ a,Ag n ρ a->true=true->xs.map a.eval=vs):DefOp P n l j (DQ.d ⟨f,vs,[]⟩) ρ :=
 ⟨⟨_,g,rfl,rfl,fun a w i=>by
  have m:=e a i rfl;have h:a.eval (.func f)=.func (.func f) #[] #[]:=rfl;simp_all[execOp,resolve,Deferred.ofValue,DQ.d]⟩⟩
theorem le_add {G:PM} {b:Nat} {o:Obj} (h:G b=none):PM.le G (G.add b o):=fun c u a=>by
 unfold PM.add;grind
theorem aCY {G:PM} {b c:Nat} {o:Obj} (h:c≠b):G.add b o c=G c:=by simp_all[PM.add]
def uA {μ f e c a:aB} {j i h g:Res} (h1:MTake μ j f) (h2:MTake f i e) (h3:MTake e h c) (k:MTake c g a):μ.Perm ([j,i,h,g]++a):=h1.perm.trans ((fK h2 h3 k).cons _)
def aAM {μ g f e c a:aB} {l k j i h:Res} (h1:MTake μ l g) (h2:MTake g k f) (h3:MTake f j e) (n:MTake e i c) (m:MTake c h a):μ.Perm ([l,k,j,i,h]++a):=h1.perm.trans ((uA h2 h3 n m).cons _)
def aV5 {μ h g f e c a:aB} {n m l k j i:Res} (h1:MTake μ n h) (h2:MTake h m g) (h3:MTake g l f) (r:MTake f k e) (q:MTake e j c) (p:MTake c i a):μ.Perm ([n,m,l,k,j,i]++a):=h1.perm.trans ((aAM h2 h3 r q p).cons _)
def jX {G:PM} {μ:aB} {b:Nat} {o:Obj} {Q:aB->Value->Prop} (h:∀ G2,PM.le G G2->PB G2 b o->Ct P f args G2 μ (fun _ μ' u=>Q μ' u)) :
  Ct P f args G (.blk b o :: μ) (fun _ μ' u=>∃ ν,μ'=.blk b o :: ν∧Q ν u):=fun w a =>
 uT (h _ (le_add (a.apart b (by simp [keys,Res.keys]))) ⟨bI _ _ _⟩) w a
theorem aDS {G:PM} {μ:aB} {b1 b2 b3:Nat} {k j o3:Obj} {Q:aB->Value->Prop} (h:∀ G2,PM.le G G2->PB G2 b1 k->PB G2 b2 j->PB G2 b3 o3->Ct P f args G2 μ (fun _ a u=>Q a u)) :
  Ct P f args G (.blk b1 k :: .blk b2 j :: .blk b3 o3 :: μ) (fun _ a u=>∃ c,a=.blk b1 k :: .blk b2 j :: .blk b3 o3 :: c∧Q c u):=fun w l=>by
 have g:=l.nodup;have n:keys (.blk b1 k :: .blk b2 j :: .blk b3 o3 :: μ)=b1 :: b2 :: b3 :: keys μ:=by rfl
 rw [n] at g;have t:b1≠b2:=fun e=>(xa.1 g).1 (by simp_all);have r:b1≠b3:=fun e=>(xa.1 g).1 (by simp_all);have p:b2≠b3:=fun e=>(xa.1 (xa.1 g).2).1 (by simp_all);have x:G b1=none:=l.apart b1 (by simp_all);have D:G b2=none:=l.apart b2 (by simp_all);have C:G b3=none:=l.apart b3 (by simp_all);have m:PM.le G (((G.add b1 k).add b2 j).add b3 o3):=((le_add x).trans (le_add (by grind[aCY]))).trans (le_add (by grind[aCY]));have v:=h (((G.add b1 k).add b2 j).add b3 o3) m ⟨by simp_all[aCY,bI]⟩ ⟨by simp_all[aCY,bI]⟩ ⟨bI _ _ _⟩;exact (uT (Q:=fun a u=>∃ c,a=.blk b2 j :: .blk b3 o3 :: c∧Q c u) ((uT (Q:=fun a u=>∃ c,a=.blk b3 o3 :: c∧Q c u) (uT v)).mono fun A a u ⟨c,e,i,y,q⟩=>⟨i,by grind,q⟩)).mono (fun A a u ⟨c,e,i,y,q⟩=>⟨i,by grind,q⟩) w l
theorem aAo {G:PM} {μ:aB} {v:Value} {xs:List Y} (h:∀ (s:Sh) (G2:PM),PM.le G G2->v=s.val xs.length->SlR G2 1 aH s xs->Ct P f args G2 μ post):Ct P f args G (rB v E xs :: μ) post:=by
 intro w c;have k:w.ownsRow 0 E 1 v xs.length (xs.map V):=c.own _ (qh ..);rcases k.2 with ⟨rfl,I⟩ | ⟨g,i,e,rfl,_,C,t,F,D,n⟩
 ·have A:xs=[]:=wo I;subst A;have m:keys (rB (.slice none 0 0) E [] :: μ)=keys μ:=by rfl
  have a:Sat G μ w:=⟨c.sub,fun r l=>c.own r (qj _ l),by rw [← m]; exact c.apart,by rw [← m]; exact c.nodup⟩;have:=h ⟨none,0⟩ G (PM.le.refl _) rfl dD w a;simp_all
 have m:keys (rB (.slice (some ⟨g,0,none⟩) xs.length i) E xs :: μ)=keys (.blk g (.cells e E (0,0)) :: μ):=by rfl
 have a:Sat G (.blk g (.cells e E (0,0)) :: μ) w:=by
  refine ⟨c.sub,fun r l=>?_,by rw [← m]; exact c.apart,by rw [← m]; exact c.nodup⟩;rcases qe.1 l with rfl | l
  ·exact C
  exact c.own r (qj _ l)
 have H:G g=none:=a.apart g (by simp [keys,Res.keys]);have p:SlR (G.add g (.cells e E (0,0))) 1 aH ⟨some ⟨g,0,none⟩,i⟩ xs:=by
  refine rO (fun _ _=>rfl) t (fun _=>rfl) ?_;rw [tV];intro j u J y q;show y.cell? ⟨g,0+j,none⟩=some u;rw [wb,cell_of_row y g j e E (0,0) (q g _ (bI _ _ _))];grind
 have:=rI (fun x=>h ⟨some ⟨g,0,none⟩,i⟩ _ x rfl p) w a;simp_all
def aFQ {nm:ByteArray}:∀ {F:List Fi},nm∉F.map Fi.nm->aJ nm F=none
 | [],_=>rfl
 | f :: r,h=>by
  rw [List.map_cons,List.mem_cons,not_or] at h;rw [aJ,if_neg (fun e=>h.1 e.symm)]; exact aFQ h.2
def aJY {nm:ByteArray}:∀ {F:List Fi},nm∈F.map Fi.nm->∃ f,aJ nm F=some f
 | [],h=>by cases h
 | f :: r,h=>by
  rw [aJ];by_cases q:f.nm=nm
  ·simp_all
  ·rw [if_neg q];rw [List.map_cons,List.mem_cons] at h;exact aJY (h.resolve_left fun e=>q e.symm)
def wN (x:ByteArray):List ByteArray->List ByteArray
 | []=>[]
 | y :: r=>if y=x then r else y :: wN x r
def aFK {nm:ByteArray}:∀ {F:List Fi},(dQ nm F).map Fi.nm=wN nm (F.map Fi.nm)
 | []=>rfl
 | f :: r=>by
  rw [dQ,List.map_cons,wN];by_cases q:f.nm=nm
  ·simp_all
  ·rw [if_neg q,if_neg q,List.map_cons,aFK]
def pR:(cK 3 0).size=15:=by kernel_rfl
def sz5:(cK 5 0).size=11:=by kernel_rfl
def sz4:(cK 4 0).size=7:=by kernel_rfl
def aLI:eC (cK 3 0):=⟨by simp[pR],by simp[pR]⟩
def aGF {a b:ByteArray} {m:Nat} (h1:a.size=m) (h2:b.size=k) (h:m≠k):a≠b:=fun e=>h (by simp_all)
def aWN:cK 5 0∉[cK 3 0]:=fun h=>aGF sz5 pR dc (qd.1 h)
def aWM:cK 4 0∉[cK 3 0]:=fun h=>aGF sz4 pR dc (qd.1 h)
def aMA:wN (cK 5 0) [cK 3 0,cK 5 0]=[cK 3 0]:=by
 simp[wN,aGF,pR,sz5]
theorem bBf {f:Fi} (e:DkR F clk) (h1:f.nm=nm) (h2:f.n=n) (h3:f.born=clk) (c:aJ nm F=none) (h:nm.size<=100) (g:aV F+n<=1000000000) (i:F.length<100) :
  DkR (dF nm (F++[f])) (clk+1)∧(dF nm (F++[f])).map Fi.nm=F.map Fi.nm++[nm]∧aV (dF nm (F++[f]))=aV F+n:=by
 have a:DkR (F++[f]) (clk+1):=e.app h3 om (by simp_all) (by simp_all) om;refine ⟨a.sy,?_,?_⟩
 ·grind[zT]
 simp_all[xK,aAc,aV]
def aYA {f:Fi} {a:ByteArray} (g:DkR F clk) (e:aJ nm F=some f) (c:aJ a (dQ nm F)=none) (h:a.size<=100) (l:F.length<100) :
  DkR (dQ nm F++[{ f with nm:=a,born:=clk }]) (clk+1)∧(dQ nm F++[{ f with nm:=a,born:=clk }]).map Fi.nm=wN nm (F.map Fi.nm)++[a]∧aV (dQ nm F++[{ f with nm:=a,born:=clk }])=aV F:=by
 have j:=(zO e).1;have i:=g.few;have k:=(xH (nm:=nm) (F:=F)).2;refine ⟨(g.del e).app rfl (by simp_all) c h om,?_,?_⟩
 ·simp[aFK]
 simp_all[aAc,aV]
def Db.new (dk tr:Nat) (root:Nat->Y) (o:Opts) (ep:BitVec 64) (held now:Nat):Db:=⟨dk,tr,root,o,ep,State.zero,eE,0#64,0#64,0#64,held,Fl.zero,Fl.zero,Fl.zero,now,none,0,false⟩
def qC (ep:BitVec 64) (n:BitVec 64):Fl:=⟨⟨3#8,0#8,0#64,ep,0#64⟩,n,false⟩
def zQ (ep:BitVec 64) (n:BitVec 64):Fl:=⟨⟨1#8,0#8,0#64,ep,1#64⟩,n,false⟩
def Db.d1 (dk tr:Nat) (root:Nat->Y) (o:Opts) (ep:BitVec 64) (held now:Nat):Db:={ Db.new dk tr root o ep held now with next:=1#64,mn:=qC ep 0#64 }
def Db.d2 (dk tr:Nat) (root:Nat->Y) (o:Opts) (ep:BitVec 64) (held now:Nat):Db:={ Db.new dk tr root o ep held now with next:=2#64,mn:=qC ep 0#64,lg:=zQ ep 0#64 }
def yP (dk tr:Nat) (root:Nat->Y) (o:Opts) (ep:BitVec 64) (held now:Nat):Db:={ Db.new dk tr root o ep held now with next:=2#64,mn:=qC ep 1#64,lg:=zQ ep 0#64,s:=gL 1 2 }
def aCN:DkR [] 0:=⟨xx,xx,(fun f a=>absurd a qf),dc,(fun f a=>absurd a qf),dc⟩
def aNn:u64 1:=⟨dc,dc⟩
def aNo:u64 2:=⟨dc,dc⟩
def aJB:((iW 1 0).cells ⟨none,0⟩ ⟨none,0⟩).set 9 (.slice none 0 0)=(iW 1 0).cells ⟨none,0⟩ ⟨none,0⟩:=rfl
def aSo:((iW 1 0).cells ⟨none,0⟩ ⟨none,0⟩).set 1 (uv .u64 2#64)=(iW 1 2).cells ⟨none,0⟩ ⟨none,0⟩:=rfl
def bBR {c:ByteArray} {q:BitVec 64}:WayN [Nd.z] c q (fun _=>0):=by
 have f:∀ k,bF [Nd.z] 0 k=0:=fun _=>rfl;refine ⟨rfl,fun k _=>vt,fun k _=>.inl ⟨rfl,.inl rfl⟩,fun a e k _=>?_⟩;simp_all
def jV (nm:ByteArray) (h:Sh) (n safe:Nat):List Fi->List Fi
 | []=>[]
 | g :: r=>if g.nm=nm then ⟨nm,h,n,safe,g.born⟩ :: r else g :: jV nm h n safe r
def aKz {nm:ByteArray} {h:Sh} {n safe:Nat}:∀ {F:List Fi},(aJ nm F).isSome=true->qP nm (.agg [h.val n,.int .i64 (safe:Int)].toArray) (F.map Fi.fe)=(jV nm h n safe F).map Fi.fe
 | [],h=>by cases h
 | g :: r,hs=>by
  rw [List.map_cons,qP,jV];rw [aJ] at hs;by_cases q:g.nm=nm
  ·rw [if_pos q,if_pos (show g.fe.1=nm from q)]; rw [← q]; rfl
  ·rw [if_neg q] at hs; rw [if_neg q,if_neg (show ¬ g.fe.1=nm from q),aKz hs]; rfl
theorem aFY {nm:ByteArray} {h:Sh} {n safe:Nat}:∀ {F:List Fi},(jV nm h n safe F).map Fi.nm=F.map Fi.nm∧(jV nm h n safe F).map Fi.born=F.map Fi.born∧aV (jV nm h n safe F)<=aV F+n
 | []=>⟨rfl,rfl,Nat.zero_le _⟩
 | g :: r=>by
  rw [jV];by_cases q:g.nm=nm
  ·rw [if_pos q];refine ⟨by simp_all,rfl,?_⟩;grind[aV]
  rw [if_neg q];obtain ⟨h1,h2,h3⟩:=aFY (nm:=nm) (h:=h) (n:=n) (safe:=safe) (F:=r);refine ⟨by rw [wu,wu,h1],by rw [wu,wu,h2],?_⟩;simp only [aV]; omega
theorem aKn {c:Type} {f:α->c} {a b:List α} (h:a.map f=b.map f):a.length=b.length:=by
 have:=congrArg wm h; grind
theorem DkR.put (a:DkR F clk) (l:aV F+n<=1000000000):DkR (jV nm h n safe F) clk:=by
 obtain ⟨i,k,m⟩:=aFY (nm:=nm) (h:=h) (n:=n) (safe:=safe) (F:=F);refine ⟨by rw [k]; exact a.nd,by rw [i]; exact a.un,fun f j=>?_,by rw [aKn i]; exact a.cnt,fun f j=>?_,om⟩
 ·have:f.nm∈F.map Fi.nm:=by grind
  obtain ⟨g,c,e⟩:=ql.1 this;rw [← e]; exact a.gn g c
 have:f.born∈F.map Fi.born:=by grind
 obtain ⟨g,c,e⟩:=ql.1 this;rw [← e]; exact a.old g c
structure Opn where
 kind:Y
 user:ByteArray
 value:ByteArray
def Opn.cells (o:Opn):List Value:=[V o.kind,.string o.user,.string o.value]
def Opn.val (o:Opn):Value:=.agg o.cells.toArray
def Opn.len (o:Opn):o.cells.length=3:=rfl
def Opn.one (o:Opn):∀ u∈o.cells,u.oneCell'=true:=by
 intro u a;simp only [Opn.cells,qe,qf,or_false] at a;rcases a with rfl|rfl|rfl<;>rfl
instance qo10 {o:Opn}:QOne o.cells:=⟨Opn.one o⟩
instance ql11 {o:Opn}:QLen o.cells 3:=⟨rfl⟩
def aLb (l:List Opn):∀ u∈l.flatMap Opn.cells,u.oneCell'=true:=fun u a=>by
 obtain ⟨x,_,h⟩:=xo.1 a; exact x.one u h
def oD (q:BitVec 64) (o:Opn):Ent:=⟨o.user,q,o.kind,o.value⟩
def bZ:Nat->List Opn->List Ent
 | _,[]=>[]
 | j,o :: r=>oD (BitVec.ofNat 64 (j+1)) o :: bZ (j+1) r
theorem nI:∀ {l:List Opn} {j:Nat},(bZ j l).length=l.length
 | [],_=>rfl
 | o :: r,j=>by rw [bZ,List.length_cons,List.length_cons,nI]
theorem aBL:∀ {l:List Opn} {j k:Nat} {o:Opn},l[k]? = some o->(bZ j l)[k]? = some (oD (BitVec.ofNat 64 (j+k+1)) o)
 | [],_,_,_,h=>by grind
 | x :: r,j,0,o,h=>by simp_all[bZ]
 | x :: r,j,k+1,o,h=>by
  rw [List.getElem?_cons_succ] at h;rw [bZ,List.getElem?_cons_succ,aBL h];grind
theorem aJM:∀ {l:List Opn} {j k:Nat} {o:Opn},l[k]? = some o->bZ j (l.take k)++[oD (BitVec.ofNat 64 (j+k+1)) o]=bZ j (l.take (k+1))
 | [],_,_,_,h=>by grind
 | x :: r,j,0,o,h=>by simp_all[bZ]
 | x :: r,j,k+1,o,h=>by
  rw [List.getElem?_cons_succ] at h;rw [List.take_succ_cons,List.take_succ_cons,bZ,bZ,List.cons_append];congr 1;have:=aJM (j:=j+1) h;grind
def aQ3:BitVec.ofNat 64 (k+1)+1#64=BitVec.ofNat 64 (k+1+1):=by
 apply wj;simp
section
variable {dr:Bool} {mc:Md} {P:Program} {n:Fm} {l:List Oper} {K:aF→PM→aB→Prop} {i:Nat} {σ:List Nat} {ρ:aF} {G:PM} {μ:aB}
variable {d t:Nat} {p:String} {af:Array Edge} {g:Option (Nat×Bool)} {c:Bool}
theorem apB {b m:Nat} {u:Value} {cs:List Value} (xs:List Y) {ys:List Y} {c:aB} (O:nth l i=some ⟨some d,.call { callee:=.builtin .append,args:=#[x,y],argTypes:=#[T,T] },t,p,af,none⟩) (hT:bY P T=some (E,1,1)) (H:(P.info? E).bind (·.zero)=some (.int .u8 0)) (J:Ev ρ true x (.slice (some ⟨b,0,none⟩) m m)) (Z:cs=xs.map V) (Q:xs.length=m) (I:Ev ρ true y u) (hm:MTake μ (.blk b (cl cs E)) c) (q:Sc G μ u ys) (hb:xs.length+ys.length<=140737488355328) (h:∀ e L,e.oneCell'=true->L=xs++ys->Wo dr mc P n l K σ ((d,true,e) :: ρ) G (rB e E L :: c)) (hmc:mc.a=false∨dr=false:=by first|exact .inl rfl|exact .inr rfl):Wo dr mc P n l K (i :: σ) ρ G μ:=by
 subst Q; subst Z;obtain ⟨oa,v,rfl,N⟩:=q.ex;refine .act (μ₁:=[.blk b (cl (xs.map V) E)]) (μ₂:=c) (post:=fun D c e=>D=G∧e.oneCell'=true∧c=[rB e E (xs++ys)]) O (by simp_all[bB]) .no hm.perm (fun a w C q=>.inl ?_) ?_
 ·have g:Tr G (keys [.blk b (cl (xs.map V) E)]) w G [rB (.slice (some ⟨b,0,none⟩) xs.length xs.length) E xs] w :=
   (gX q.left).asRow (sz:=1) (by simp) (qc _) (by grind[maxLen]) (by simp) (by simp[wd])
  obtain ⟨e,F,f,M⟩:=aAU (ty:=t) (cp:=v) (news:=ys.map V) (k:=ys.length) (oa:=oa) hT H rfl g.sat (by simp) (fun S=>by
   obtain ⟨b,o,r,h2⟩:=N S;exact ⟨b,o,r,fun j u X=>h2 j u X w (q.perm hm.perm.symm)⟩) (aDk _) om (by grind[maxLen])
  refine ⟨e,F,G,[rB e E (xs++ys)],.inl (by simp [execOp,resolve,invoke,builtin,J.eval C rfl,I.eval C rfl,f]),?_,rfl,M.sat.rowOne,rfl⟩;simp_all[rB,keys,Res.keys,Value.ownBlock]
 rintro e D A _ ⟨rfl,r,rfl⟩;exact h e _ r rfl
def apN {r cp:Nat} {z:Value} {oa:Option Addr} {ys:List α} (S:nth l i=some ⟨some d,.call { callee:=.builtin .append,args:=#[x,y],argTypes:=#[T,T] },t,p,af,none⟩) (Z:bY P T=some (E,sz,r)) (N:(P.info? E).bind (·.zero)=some z) (C:z.cells.size=sz) (Q:Ev ρ true x (.slice none 0 0)) (O:Ev ρ true y (Sh.val ⟨oa,cp⟩ ys.length)) (J:SlR G sz enc ⟨oa,cp⟩ ys) (g:∀ u∈ys,(enc u).length=sz) (h1:∀ u∈ys.flatMap enc,u.oneCell'=true) (hb:ys.length*r<=140737488355328) (a0:ys.length<=maxLen) (h:∀ c,c.oneCell'=true->Wo dr mc P n l K σ ((d,true,c) :: ρ) G (.row c E sz ys.length (ys.flatMap enc) :: μ)) (hmc:mc.a=false∨dr=false:=by first|exact .inl rfl|exact .inr rfl):Wo dr mc P n l K (i :: σ) ρ G μ:=by
 refine .act (μ₁:=[]) (μ₂:=μ) (post:=fun G' A c=>G'=G∧c.oneCell'=true∧A=[.row c E sz ys.length (ys.flatMap enc)]) S (by simp_all[bB]) .no (.refl _) (fun a w L F=>.inl ?_) ?_
 ·have f:Sat G μ w:=by simp_all
  have q:Tr G (keys []) w G [.row (.slice none 0 0) E sz 0 []] w:=(gX (Sat.left (μ:=[]) F)).nilRow;obtain ⟨c,M,m,v⟩:=aAU (ty:=t) (cp:=cp) (news:=ys.flatMap enc) (k:=ys.length) (oa:=oa) Z N C q.sat (tX g) (fun hk=>by
   have H:ys≠[]:=fun e=>by simp_all
   refine ⟨_,_,J.there H,fun j u X=>?_⟩;exact (SlR.flat g J j u X).rd w f) h1 (by simp_all) om
  have I:keys [.row (.slice none 0 0) E sz 0 []]=keys []:=by rfl
  rw [I] at v;simp only [wb,qy] at v;have D:c.oneCell'=true:=v.sat.rowOne;exact ⟨c,M,G,_,.inl (by simp [execOp,resolve,invoke,builtin,Q.eval L rfl,O.eval L rfl,Sh.val,m]),v,rfl,D,rfl⟩
 simp_all[bV]
def k00 {e:Nat} {z:Operand} (C:nth l i=some ⟨some d,.slice T x none (some y) (some z),t,p,af,none⟩) (E:bY P T=some (e,sz,j)) (r:Ev ρ true x (.slice none 0 0)) (q:Ev ρ true y (.int .i64 0)) (m:Ev ρ true z (.int .i64 0)) (h:Wo dr mc P n l K σ ((d,true,.slice none 0 0) :: ρ) G μ):Wo dr mc P n l K (i :: σ) ρ G μ:=by
 obtain ⟨c,k,f,A,D⟩:=fW E;refine .pure (v:=.slice none 0 0) C (.inl rfl) .no (fun F a w g=>?_) h;simp [execOp,r.eval g rfl,q.eval g rfl,m.eval g rfl,Instr.sliceAt,run_underlying c,Instr.slice,Instr.sliceBounds,Instr.sliceBound,asIntOf,sizeOf,typeInfo,f]
end
structure Wtg where
 c:Nat
 sh:Sh
 ops:List Opn
 sy:Bool
def Wtg.cells (w:Wtg):List Value:=[.int .i64 (w.c:Int),w.sh.val w.ops.length,.bool w.sy]
def Wtg.len (w:Wtg):w.cells.length=3:=rfl
def Wtg.one (w:Wtg):∀ u∈w.cells,u.oneCell'=true:=by
 intro u a;simp only [Wtg.cells,qe,qf,or_false] at a;rcases a with rfl|rfl|rfl<;>rfl
instance qo12 {w:Wtg}:QOne w.cells:=⟨Wtg.one w⟩
instance ql13 {w:Wtg}:QLen w.cells 3:=⟨rfl⟩
def AllW (G:PM) (ws:List Wtg):Prop:=∀ w,w∈ws->SlR G 3 Opn.cells w.sh w.ops
def AllW.mono {G c:PM} {ws:List Wtg} (h:AllW G ws) (a:PM.le G c):AllW c ws:=fun w e=>(h w e).mono a
theorem AllW.nil {G:PM}:AllW G []:=fun w a=>absurd a qf
theorem AllW.snoc {G:PM} {ws:List Wtg} {w:Wtg} (h:AllW G ws) (c:SlR G 3 Opn.cells w.sh w.ops):AllW G (ws++[w]):=fun x a=>by
 grind[AllW]
def xE (c:Nat):List Value:=[.int .i64 (c:Int),.int .i64 0]
def aC9 (w:Wtg):List Value:=[w.sh.val w.ops.length]
def jn (ws:List Wtg):List Opn:=ws.flatMap Wtg.ops
def aFn {ws:List Wtg} {w:Wtg} (h:ws[k]? = some w):jn (ws.take k)++w.ops=jn (ws.take (k+1)):=by
 simp_all[we,jn]
def aKD {ws:List Wtg} {o:Opn} (h:o∈jn ws):∃ w∈ws,o∈w.ops:=xo.1 h
def cH:List Opn->Nat
 | []=>0
 | o :: r=>o.user.size+o.value.size+cH r
theorem aG0:∀ {l:List Opn} {k:Nat} {o:Opn},l[k]? = some o->cH (l.take (k+1))=cH (l.take k)+(o.user.size+o.value.size)
 | [],_,_,h=>by grind
 | x :: r,0,o,h=>by simp_all[cH]
 | x :: r,k+1,o,h=>by
  rw [List.getElem?_cons_succ] at h;rw [List.take_succ_cons,List.take_succ_cons,cH,cH,aG0 h]; omega
section
variable {P:Program} {f:FuncId} {args:Array Value} {G:PM} {μ:aB}
theorem aHS {v:Value} (p:∀ x∈xs,(enc x).length=sz) (h:∀ (s:Sh) (G2:PM),PM.le G G2->v=s.val xs.length->SlR G2 sz enc s xs->Ct P f args G2 μ post):Ct P f args G (rS sz enc v E xs :: μ) post:=by
 intro w a;have k:w.ownsRow 0 E sz v xs.length (xs.flatMap enc):=a.own _ (qh ..);rcases k.2 with ⟨rfl,J⟩ | ⟨g,i,c,rfl,_,F,y,I,H,n⟩
 ·have D:xs=[]:=wo J;subst D;have m:keys (rS sz enc (.slice none 0 0) E [] :: μ)=keys μ:=by rfl
  have e:Sat G μ w:=⟨a.sub,fun r l=>a.own r (qj _ l),by rw [← m]; exact a.apart,by rw [← m]; exact a.nodup⟩;have:=h ⟨none,0⟩ G (PM.le.refl _) rfl dD w e;simp_all
 have m:keys (rS sz enc (.slice (some ⟨g,0,none⟩) xs.length i) E xs :: μ)=keys (.blk g (.cells c E (0,0)) :: μ):=by rfl
 have e:Sat G (.blk g (.cells c E (0,0)) :: μ) w:=by
  refine ⟨a.sub,fun r l=>?_,by rw [← m]; exact a.apart,by rw [← m]; exact a.nodup⟩;rcases qe.1 l with rfl | l
  ·exact F
  exact a.own r (qj _ l)
 have q:SlR (G.add g (.cells c E (0,0))) sz enc ⟨some ⟨g,0,none⟩,i⟩ xs:=by
  refine rO p y (fun _=>rfl) ?_;intro j u K C t;show C.cell? ⟨g,0+j,none⟩=some u;rw [wb,cell_of_row C g j c E (0,0) (t g _ (bI _ _ _))];grind
 have:=rI (fun A=>h ⟨some ⟨g,0,none⟩,i⟩ _ A rfl q) w e;simp_all
def aVV {l:Nat} {v z:Value} {r:Value} (j:∀ x∈xs,(enc x).length=sz) (h:∀ (s:Sh) (c:PM),PM.le G c->v=s.val xs.length->SlR c sz enc s xs->PB c l (cl [z,v] T)->Ct P f args c μ (fun _ a u=>a=μ∧u=r)) :
  Ct P f args G (.blk l (cl [z,v] T) :: rS sz enc v E xs :: μ) (fun _ a u=>a=.blk l (cl [z,v] T) :: rS sz enc v E xs :: μ∧u=r) :=
 (jX (Q:=fun e u=>e=rS sz enc v E xs :: μ∧u=r) fun y g t=>(pV (Q:=fun e u=>e=μ∧u=r) j fun s c i m n=>h s c (g.trans i) m n (t.mono i)).mono
  fun w a u ⟨e,q,p,k⟩=>⟨by simp_all,k⟩).mono fun w a u ⟨e,q,p,k⟩=>⟨by simp_all,k⟩
end
section
variable {dr:Bool} {mc:Md} {P:Program} {n:Fm} {l:List Oper} {K:aF→PM→aB→Prop} {i:Nat} {σ:List Nat} {ρ:aF} {G:PM} {μ:aB}
variable {d t:Nat} {p:String} {af:Array Edge}
theorem apE {C:Nat} {z:Value} {X:Addr} {s:Sh} {ys:List α} (ho:nth l i=some ⟨some d,.call { callee:=.builtin .append,args:=#[x,y],argTypes:=#[T,T] },t,p,af,none⟩) (hT:bY P T=some (E,sz,C)) (hz:(P.info? E).bind (·.zero)=some z) (F:z.cells.size=sz) (hx:Ev ρ true x (.slice (some X) 0 0)) (hy:Ev ρ true y (s.val ys.length)) (N:SlR G sz enc s ys) (h0:0<ys.length) (A:∀ u∈ys,(enc u).length=sz) (S:∀ u∈ys.flatMap enc,u.oneCell'=true) (hb:ys.length*C<=140737488355328) (L:ys.length<=maxLen) (h:∀ c,c.oneCell'=true->Wo dr mc P n l K σ ((d,true,c) :: ρ) G (rS sz enc c E ys :: μ)) (hmc:mc.a=false∨dr=false:=by first|exact .inl rfl|exact .inr rfl):Wo dr mc P n l K (i :: σ) ρ G μ:=by
 refine .act (μ₁:=[]) (μ₂:=μ) (post:=fun Z D c=>Z=G∧c.oneCell'=true∧D=[rS sz enc c E ys]) ho (by simp_all[bB]) .no (.refl _) (fun a w Q H=>.inl ?_) ?_
 ·have r:Sat G μ w:=by simp_all
  obtain ⟨hu,f,O,rfl,rfl⟩:=fW hT;have g:=hz;rw [O] at g;simp only [qu] at g;have I:=N.nn h0;have q:=tX A;have k:∀ j u,(ys.flatMap enc)[j]? = some u->w.cell? ((⟨s.b,s.o,none⟩ : Addr).add j)=some u:=fun j u hj=>by rw [jS]; exact (SlR.flat A N j u hj) w r.sub
  unfold maxLen at L;have e:=run_append_grow (P:=P) w T t E f _ hu O g X 0 0 [] (by simp) (fun j v h=>by grind) ⟨s.b,s.o,none⟩ ys.length s.cap (ys.flatMap enc) q k om om (growslice_fits om (by simp_all));simp only [wb] at e;have h2:=((gX (Sat.left (μ:=[]) H)).drew).alloc (.cells (([]:List Value).toArray++(ys.flatMap enc).toArray++Builtin.zeroCells z.cells (grownCap w ys.length 0 E-ys.length)) E);have J:=grownCap_ge w ys.length 0 E;have h3:=h2.asRow (m:=ys.length) (cap:=grownCap w ys.length 0 E) (sz:=f.size) (xs:=ys.flatMap enc) q J (grownCap_le_maxLen w ys.length 0 E (by trivial)) (by
   simp only [Array.size_append,List.size_toArray,size_zeroCells,q,qt,F];have:=Nat.add_mul ys.length (grownCap w ys.length 0 E-ys.length) f.size;simp_all) (by simp_all)
  refine ⟨_,_,G,_,.inl (by simp [execOp,resolve,invoke,builtin,hx.eval Q rfl,hy.eval Q rfl,Sh.val,I,e]; rfl),h3,rfl,rfl,?_⟩;rfl
 rintro c Z M _ ⟨rfl,S,rfl⟩;exact h c S
end
def aMT {T:TypeId} (a:pN P T=true) (w:World):(Op.equal T (.pointer none) (.pointer none)).run P w=.ok true w:=by
 unfold pN at a;split at a
 ·rename_i e c;unfold Op.equal;rw [show Op.maxDepth=9999+1 from rfl,Op.equalIn];simp [run_underlying c]
 ·cases a
section
variable {dr:Bool} {mc:Md} {P:Program} {n:Fm} {l:List Oper} {K:aF→PM→aB→Prop} {i:Nat} {σ:List Nat} {ρ:aF} {G:PM} {μ:aB}
variable {d t:Nat} {p:String} {af:Array Edge} {g:Option (Nat×Bool)} {c:Bool}
def pn0 {T A:TypeId} (m:nth l i=some ⟨some d,.binOp .neq T x y A,t,p,af,g⟩) (r:Gd l ρ g c) (v:pN P T=true) (j:Ev ρ c x (.pointer none)) (f:Ev ρ c y (.pointer none)) (h:Wo dr mc P n l K σ ((d,c,.bool false) :: ρ) G μ):Wo dr mc P n l K (i :: σ) ρ G μ :=
 .pure m (.inl rfl) r (fun a q w e=>by
  have k:(eqGuard .neq T x y (.pointer none) (.pointer none)).run P w=.ok () w:=by rfl
  simp [execOp,j.eval e a,f.eval e a,k,binOp,aMT v]) h
end
def aG6 {x:α} (h:xs[k]? = some x):xs.take k++[x]=xs.take (k+1):=by
 simp_all[we]
section
variable {dr:Bool} {mc:Md} {P:Program} {n:Fm} {l:List Oper} {K:aF→PM→aB→Prop} {i:Nat} {σ:List Nat} {ρ:aF} {G:PM} {μ:aB}
variable {d t:Nat} {p:String} {af:Array Edge} {g:Option (Nat×Bool)} {c:Bool}
def kMa {e:Nat} {z:Operand} {s:Sh} (E:nth l i=some ⟨some d,.slice T x none (some y) (some z),t,p,af,none⟩) (F:bY P T=some (e,sz,q)) (f:SlR G sz enc s xs) (C:Ev ρ true x (s.val xs.length)) (A:Ev ρ true y (.int .i64 xs.length)) (v:Ev ρ true z (.int .i64 xs.length)) (h:SlR G sz enc ⟨s.oa,xs.length⟩ xs->Wo dr mc P n l K σ ((d,true,(⟨s.oa,xs.length⟩ : Sh).val xs.length) :: ρ) G μ):Wo dr mc P n l K (i :: σ) ρ G μ:=by
 have H:=h ⟨f.there,qc _,f.rd⟩;refine .pure E (.inl rfl) .no (fun k a w m=>?_) H;obtain ⟨D,r,j,rfl,rfl⟩:=fW F;have c:=C.eval m k;simp only [Sh.val] at c;have I:=f.le;have g:∀ oa:Option Addr,oa.map (fun a=>a.add 0)=oa:=fun oa=>by simp[aA1]
 simp [execOp,c,A.eval m k,v.eval m k,Instr.sliceAt,run_underlying D,Instr.slice,Instr.sliceBounds,Instr.sliceBound,asIntOf,I,sizeOf,typeInfo,j,Sh.val,g]
theorem apM {oa:Option Addr} {k:Sh} {xs ys:List Y} (f:mc.a=false∨dr=false) (w:nth l i=some ⟨some d,.call { callee:=.builtin .append,args:=#[x,y],argTypes:=#[T,T] },t,p,af,none⟩) (A:bY P T=some (E,1,1)) (m:(P.info? E).bind (·.zero)=some (.int .u8 0)) (r:Ev ρ true x ((⟨oa,xs.length⟩ : Sh).val xs.length)) (q:Ev ρ true y (k.val ys.length)) (c:SlR G 1 aH ⟨oa,xs.length⟩ xs) (v:SlR G 1 aH k ys) (F:0<ys.length) (M:xs.length+ys.length<=140737488355328) (h:∀ g L,g.oneCell'=true->L=xs++ys->Wo dr mc P n l K σ ((d,true,g) :: ρ) G (rB g E L :: μ)):Wo dr mc P n l K (i :: σ) ρ G μ:=by
 by_cases D:xs=[]
 ·subst D;have J:ys.length<=140737488355328:=by omega
  have H:ys.flatMap aH=ys.map V:=tV _;cases oa with
  | none =>
   cases k with
   | mk o2 c2 =>
    refine apN (enc:=aH) w A m rfl r q v (fun _ _=>rfl) (fun u j=>?_) om (by grind[maxLen]) (fun g I=>?_) (hmc:=f)
    ·rw [H] at j; obtain ⟨y,_,rfl⟩:=ql.1 j; rfl
    simp_all
  | some a =>
   refine apE (enc:=aH) w A m rfl r q v F (fun _ _=>rfl) (fun u j=>?_) om (by grind[maxLen]) (fun g I=>?_) (hmc:=f)
   ·rw [H] at j; obtain ⟨y,_,rfl⟩:=ql.1 j; rfl
   grind
 obtain ⟨b0,C,e⟩ : ∃ b0 C,oa=some ⟨b0,C,none⟩:=⟨_,_,c.there D⟩;subst e;exact apF f w A m r q c rfl v.sc F (by simp_all) M h
end
def jH (nm:ByteArray) (h:Sh) (n safe clk:Nat) (F:List Fi):List Fi:=if (aJ nm F).isSome=true then jV nm h n safe F else F++[⟨nm,h,n,0,clk⟩]
def rW (nm:ByteArray) (clk:Nat) (F:List Fi):Nat:=if (aJ nm F).isSome=true then clk else clk+1
def lG (n:Nat) (acc:List Y):List Y:=if 0<n∨acc.length<6 then lG (n / 10) (qb 8 (48+n%10) :: acc) else acc
termination_by n+(6-acc.length)
decreasing_by
 grind
def fN (n:Nat):List Y:=lG n []
theorem xD {a:List Y} (h:0<n∨a.length<6):lG n a=lG (n / 10) (BitVec.ofNat 8 (48+n%10) :: a):=by rw [lG,if_pos h]
theorem xB {a:List Y} (h:n=0) (h2:6<=a.length):lG n a=a:=by rw [lG,if_neg om]
def tD (l:List Y):Nat:=l.foldl (fun a y=>10*a+(y.toNat-48)) 0
theorem bBJ {l:List Y}:∀ {a:Nat},l.foldl (fun a y=>10*a+(y.toNat-48)) a=a*10^l.length+tD l:=by
 unfold tD;induction l with
 | nil=>simp
 | cons y r ih =>
  grind
def bBI {y:Y} {l:List Y}:tD (y :: l)=(y.toNat-48)*10^l.length+tD l:=by
 have:tD (y :: l)=l.foldl (fun a y=>10*a+(y.toNat-48)) (10*0+(y.toNat-48)):=rfl;simp_all[bBJ]
theorem aSO (m:Nat):∀ {n:Nat} {a:List Y},n+(6-a.length)<=m->tD (lG n a)=n*10^a.length+tD a:=by
 induction m with
 | zero =>
  intro n a h;rw [xB om om,show n=0 by omega,vd,wb]
 | succ m ih =>
  intro n a h;by_cases c:0<n∨a.length<6
  ·have f:n / 10+(6-(qb 8 (48+n%10) :: a).length)<=m:=by
    grind
   rw [xD c,ih f,bBI,qp,Nat.pow_succ];have e:(qb 8 (48+n%10)).toNat-48=n%10:=by
    grind
   rw [e,←zh];congr 1;generalize 10^a.length=p;rw [Nat.mul_comm p 10,←Nat.mul_assoc,←Nat.add_mul];grind
  simp_all
theorem aSQ (n:Nat):tD (fN n)=n:=by
 rw [fN,aSO _ (qc _)]; simp [tD]
theorem aSM (m:Nat):∀ {n:Nat} {a:List Y},n+(6-a.length)<=m->∀ q,n<10^q->a.length+q<=20->6<=(lG n a).length∧(lG n a).length<=20:=by
 induction m with
 | zero =>
  grind[xB]
 | succ m ih =>
  intro n a h q f g;by_cases c:0<n∨a.length<6
  ·have e:n / 10+(6-(qb 8 (48+n%10) :: a).length)<=m:=by
    grind
   rw [xD c];cases q with
   | zero =>
    have i:n=0:=by omega
    exact ih e 0 om (by grind)
   | succ q=>grind
  grind
def aE6 (h:n<18446744073709551616):6<=(fN n).length∧(fN n).length<=20:=aSM _ (qc _) 20 (yu h dc) (by simp)
def nG (k n:Nat):ByteArray:=if k=1 then aQ (yb (aQ (fN n))++yb ⟨#[46,108,111,103]⟩) else if k=2 then aQ (yb (aQ (fN n))++yb ⟨#[46,116,97,98]⟩) else if k=3 then aQ (yb ⟨#[109,97,110,105,102,101,115,116,45]⟩++yb (aQ (fN n))) else if k=4 then aLD else if k=5 then aLH else ⟨#[]⟩
def nG1 (h:k=1):aQ (yb (aQ (fN n))++yb ⟨#[46,108,111,103]⟩)=nG k n:=by subst h; rfl
def nG2 (h:k=2):aQ (yb (aQ (fN n))++yb ⟨#[46,116,97,98]⟩)=nG k n:=by subst h; rfl
def nG3 (h:k=3):aQ (yb ⟨#[109,97,110,105,102,101,115,116,45]⟩++yb (aQ (fN n)))=nG k n:=by subst h; rfl
def nG4 (h:k=4):(⟨#[99,117,114,114,101,110,116]⟩ : ByteArray)=nG k n:=by subst h; rfl
def nG5 (h:k=5):(⟨#[99,117,114,114,101,110,116,46,116,109,112]⟩ : ByteArray)=nG k n:=by subst h; rfl
def nG0 (h1:k≠1) (h2:k≠2) (h3:k≠3) (c:k≠4) (a:k≠5):(⟨#[]⟩ : ByteArray)=nG k n:=by
 simp_all[nG]
def aSP (h:n<10):fN n=rD n:=by
 simp_all[Nat.div_eq_of_lt,fN,xD,yp,xB,rD]
def aK5 (h:n<10):cK k n=nG k n:=by simp_all[cK,nG,aLE,aLG,aLF,aSP]
theorem aI5 {a b:Nat} (h:fN a=fN b):a=b:=by have:=congrArg tD h; grind[aSQ]
def aV7 {a b:Nat} (h:nG 1 a=nG 1 b):a=b:=aI5 (by have:=qaE (xA h); simp_all[iE])
theorem aAN {a b:Nat} (h:nG 2 a=nG 2 b):a=b:=aI5 (by have:=qaE (xA h); simp_all[iE])
theorem aSL (m:Nat):∀ {n:Nat} {a:List Y},n+(6-a.length)<=m->a.length<=(lG n a).length:=by
 induction m with
 | zero=>intro n a h; rw [xB om om]; omega
 | succ m ih =>
  intro n a h;by_cases c:0<n∨a.length<6
  ·grind[xD]
  simp_all
def aSH {m n:BitVec 64} {b:List Y} (h:lG m.toNat b=fN n.toNat):b.length<=20:=by
 have a:=aSL _ (qc (m.toNat+(6-b.length)));rw [h] at a;have:=(aE6 n.isLt).2; omega
theorem aSI {m:BitVec 64} {b L R:List Y} (c:lG m.toNat b=R) (a:0<m.toNat∨b.length<6) (e:L=[(48#64+m%10#64).setWidth 8]++b):lG (m / 10#64).toNat L=R:=by
 have h:(m%10#64).toNat=m.toNat%10:=vg ..;have g:(m / 10#64).toNat=m.toNat / 10:=qaF ..;have f:(48#64+m%10#64).setWidth 8=qb 8 (48+m.toNat%10):=by
  grind[kb]
 simp_all[xD]
theorem aSG {m:BitVec 64} {b:List Y} (a:0<m.toNat∨b.length<6):(m / 10#64).toNat+(6-(b.length+1))<m.toNat+(6-b.length):=by
 grind[qaF]
def aVZ {f:Fi} (h:aJ nm F=some f):(gS nm (F.map Fi.fe)).isSome=true:=by simp[*,aAA]
def aWE {G:PM} {xs:List Y} (a:SlR G 1 aH h xs) (c:h.oa.isNone=true):xs=[]:=by
 cases xs with
 | nil=>rfl
 | cons x r =>
  have:=a.there (by simp);simp_all
theorem aWl {x:Int} (a:0<=x) (h1:x<18446744073709551616):(BitVec.ofInt 64 x).toNat=x.toNat:=by
 grind
theorem aOa {G:PM} {μ0 ν:aB} {Q:PM->aB->Value->Prop} {xs:List Y} (h:Ct P f args G μ0 Q) (k:∀ c a u,Q c a u->a.Perm (rB u E xs :: ν)) :
  Ct P f args G μ0 (fun c a u=>∃ s:Sh,SlR c 1 aH s xs∧a=ν∧u=s.val xs.length):=by
 intro w i;refine (h w i).mono ?_;rintro e l ⟨v,c,a,rfl,g,j⟩;obtain ⟨r,s,q,p,n,m⟩:=(g.perm (k _ _ _ j)).frzB;grind
def nS (d:Db):Edit:=⟨d.s.log,(d.next.toNat:Int),d.s.seq,d.s.least,d.s.gens,[],[]⟩
def iH (s:ByteArray):List Value:=[.string s]
def SlR.t1 {G:PM} {xs:List ByteArray} (s:SlR G 1 iH h xs) {j:Int} (k:Nat) {x:ByteArray} (c:j.toNat=k) (a:xs[k]? = some x):RdP G ⟨h.b,h.o+j.toNat*1,none⟩ (.string x):=by
 have:=s.rd k x a 0 _ rfl;simp_all
theorem hpb (bits:Int):((fR bits:Nat):Int)=if (if (64:Int)<bits then 64 else bits) > 1 then (if (64:Int)<bits then 64 else bits) else 1:=by grind[fR]
theorem aTr (bits:Int):((qX bits:Nat):Int)=max 1 (min ((fR bits*69 / 100:Nat):Int) 30):=by grind[qX]
section
variable {s:ByteArray} {n k:Nat} {L L' f:List Y}
def aZV (c:0<n) (a:n<500000000):(wH s n k >>> 3).toNat<n:=by rw [aMj]; simp_all[aXJ]
theorem aZW (c:0<n) (a:n<500000000):BitVec.ofInt 32 ((8*n:Nat):Int)≠0#32:=by
 intro e;have:=congrArg BitVec.toNat e;rw [kg,jz,yp om] at this;grind
def aZX {m:Nat} (hm:m=L.length) (e:L'=(rA s L k).set (wH s m k >>> 3).toNat ((rA s L k).getD (wH s m k >>> 3).toNat 0 ||| 1#8 <<< (wH s m k &&& 7#32).toNat)):L'=rA s L (k+1):=by
 subst hm;rw [e,aMj,aQA]; rfl
end
def aDh (h:k<18446744073709551616):(BitVec.ofInt 64 (k:Int)).toNat=k:=by simp_all
section
variable {a b:ByteArray} {k:Nat}
def aPy (e:k<a.size∧k<b.size) (f:∀ j,j<k->(yb a).getD j 0=(yb b).getD j 0) (c:¬ (((yb a).getD k 0).toNat:Int)=(((yb b).getD k 0).toNat:Int)):fX [.int .i64 (k:Int)]=.int .i64 (gA (yb a) (yb b):Int):=by rw [aEl e f c]; rfl
theorem aPx (c:k<=a.size∧k<=b.size) (hm:min a.size b.size<=k) (e:∀ j,j<k->(yb a).getD j 0=(yb b).getD j 0):gA (yb a) (yb b)=min a.size b.size:=by
 grind[aCs,bM]
end
def xY {L A:List Y} {n:BitVec 64} (e:L=A++bK n.toNat):L.length<=A.length+10:=by
 have:=iJ n.isLt;simp_all
def nm0 {L:List Y} {n:BitVec 64} (e:L=[]++bK n.toNat):L.length<=10:=by have:=xY e; omega
def aWp {a b c d:Value} (h1:a.oneCell'=true) (h2:b.oneCell'=true) (h3:c.oneCell'=true) (e:d.oneCell'=true):∀ u∈[a,b,c,d],u.oneCell'=true:=by
 simp_all
theorem aKM (e:Ent):(aQ (dA e)).size=e.user.size+8:=by rw [fJ,zX]
section
variable {last:List Y} {e:Ent} {O L1 L2 L3 L4 L5 L6:List Y} {s:ByteArray}
theorem yT {anew:Bool} (c:e.user.size<=10000000) (a:e.value.size<=10000000) (f:k=lF last (dA e) anew) (h1:L1=[]++bK (BitVec.ofInt 64 (k:Int)).toNat) (h2:L2=L1++bK (BitVec.ofInt 64 (((aQ (dA e)).size:Int)-(k:Int))).toNat) (h3:L3=L2++bK (BitVec.ofInt 64 (e.value.size:Int)).toNat) (i:L4=O++L3) (h:L5=L4++yb (aQ ((yb (aQ (dA e))).drop k))) (g:L6=L5++yb e.value):L6=O++qB last anew e:=by
 grind[aEy,zX,aKM,iE,qB]
def aEz {last a:List Y}:lF last a true=0:=rfl
def aE0 {last a:List Y}:lF last a false=gA last a:=rfl
end
section
variable {l:List Ent} {every:Int} {k:Nat}
theorem aA7:(decide (every<1)||decide (every > 1024) || !cA l||l.any (fun e => !cC e))=true↔(every<1∨1024<every∨cA l=false∨∃ e∈l,cC e=false):=by
 grind
def aQy (h:(decide (every<1)||decide (every > 1024) || !cA l||l.any (fun e => !cC e))=true):([],1)=gY l every:=(aQ1 (aA7.1 h)).symm
def aEo (h:(decide (every<1)||decide (every > 1024) || !cA l||l.any (fun e => !cC e))=false):(1<=every∧every<=1024)∧∀ e∈l,e.user.size<=1024∧e.value.size<=65536:=by
 have a:¬ _:=fun q=>by rw [aA7.2 q] at h; cases h
 refine ⟨⟨by apply zx.1; exact fun q=>a (.inl q),by apply zx.1; exact fun q=>a (.inr (.inl q))⟩,fun e f=>?_⟩;have c:cC e=true:=by
  cases q:cC e with
  | true=>rfl
  | false=>exact absurd (.inr (.inr (.inr ⟨e,f,q⟩))) a
 simp only [cC,dT] at c;omega
theorem aQz (h:(decide (every<1)||decide (every > 1024) || !cA l||l.any (fun e => !cC e))=false) (a:k<l.length) (h1:1048576<(fV every.toNat l (k+1)).length):([],4)=gY l every :=
 (aIZ (fun q=>by grind[aA7]) (.inl ⟨k,a,h1⟩)).symm
theorem aEm (h:(decide (every<1)||decide (every > 1024) || !cA l||l.any (fun e => !cC e))=false) (h1:1048576<(gP every.toNat l).length):([],4)=gY l every :=
 (aIZ (fun q=>by grind[aA7]) (.inr h1)).symm
theorem aEn (h:(decide (every<1)||decide (every > 1024) || !cA l||l.any (fun e => !cC e))=false) (h1:∀ j,j<l.length->(fV every.toNat l (j+1)).length<=1048576) (h2:(gP every.toNat l).length<=1048576):(gP every.toNat l,0)=gY l every :=
 (aEp (fun q=>by grind[aA7]) (fun q=>by
  rcases q with ⟨j,a,q⟩ | q
  ·grind
  ·omega)).symm
theorem aQ0 (h:∀ j,j<k->(fV n l (j+1)).length<=1048576) (c:(fV n l (k+1)).length<=1048576):∀ j,j<k+1->(fV n l (j+1)).length<=1048576:=fun j a=>by
 grind
theorem aW6 (a:n<18446744073709551616) (c:l.length<18446744073709551616) (h:∀ j,j<k->(fV n l (j+1)).length<=1048576):(fV n l k).length<=1048576:=by
 cases k with
 | zero =>
  grind[iJ,fV]
 | succ k=>simp_all
def aVA (h:∀ e∈l,e.user.size<=1024∧e.value.size<=65536) (k:Nat):(aQ (qJ l k)).size<=1032:=by
 cases k with
 | zero=>rw [fJ]; exact qo _
 | succ k =>
  rw [fJ,qJ,zX];by_cases a:k<l.length
  ·simp_all
  simp_all[Ent.zero]
def aCj:ByteArray.empty=aQ []:=aEk rfl
def aQq {x y:Int} (h1:x=n) (h2:y=l.length) (b1:n<18446744073709551616) (b2:l.length<18446744073709551616) : []++bK (BitVec.ofInt 64 x).toNat++bK (BitVec.ofInt 64 y).toNat=fV n l 0:=by
 subst h1; subst h2;rw [aDh b1,aDh b2]; rfl
def aVB {e:Ent} (a:l[k]? = some e):qJ l (k+1)=dA e:=by simp_all[qJ]
theorem aEi {e:Ent} {L:List Y} {last:ByteArray} {anew:Bool} (a:l[k]? = some e) (c:last=aQ (qJ l k)) (f:anew=(((k%n:Nat):Int) == 0)) (g:L=fV n l k++qB (yb last) anew e):L=fV n l (k+1):=by
 have:(((k%n:Nat):Int) == 0)=(k%n == 0):=by
  grind
 simp_all[iE,fV]
theorem aXK {anew:Bool} {P a O:List Y} (c:anew=(((k%n:Nat):Int) == 0)) (g:O=fV n l k) (f:P=oJ n l k) (e:a=if anew=true then P++cM (BitVec.ofInt 64 (O.length:Int)) 4 else P):a=oJ n l (k+1):=by
 rw [e,oJ,f,g,c];grind
theorem aYQ {a:Nat} {anew:Bool} (e:anew=(((k%n:Nat):Int) == 0)) (c:a=mV n k):(if anew=true then a+1 else a)=mV n (k+1):=by
 rw [c,mV,e];grind
def zB {a:Nat} {O P f e c:List Y} (i:O=fV n l l.length) (h:P=oJ n l l.length) (g:a=mV n l.length) (h1:f=O++P) (h2:e=[]++cM (BitVec.ofInt 64 (a:Int)) 4) (h3:c=f++e):c=gP n l:=by
 rw [h3,h2,h1,i,h,g]; rfl
end
section
variable {s:ByteArray} {L:List Y}
theorem bAl (h:(s.size:Int)-8<0):iK (yb s)=(Ent.zero,80):=by unfold iK; rw [if_pos (by grind[bM])]
def aNd (e:L=yb (aQ ((yb s).drop (s.size-8)))):(⟨aQ ((yb s).take (s.size-8)),eA L 8 >>> 8,(eA L 8).setWidth 8,ByteArray.empty⟩ : Ent)=tT (yb s):=by
 simp_all[tT,aBY,iE,bM]
def bAh (h:¬ (s.size:Int)-8<0) (c:cC (tT (yb s))=false):iK (yb s)=(Ent.zero,80):=by simp_all[iK]
def bAi (h:0<=(s.size:Int)-8) (c:cC ⟨aQ ((yb s).take (s.size-8)),eA (yb (aQ ((yb s).drop (s.size-8)))) 8 >>> 8,(eA (yb (aQ ((yb s).drop (s.size-8)))) 8).setWidth 8,ByteArray.empty⟩=false):iK (yb s)=(Ent.zero,80):=by
 simp_all[aNd,bAh]
theorem bAj (h:¬ (s.size:Int)-8<0) (c:cC (tT (yb s))=true):iK (yb s)=(tT (yb s),0):=by unfold iK; rw [if_neg (by grind[bM]),c]; rfl
def bAk (h:0<=(s.size:Int)-8) (c:cC ⟨aQ ((yb s).take (s.size-8)),eA (yb (aQ ((yb s).drop (s.size-8)))) 8 >>> 8,(eA (yb (aQ ((yb s).drop (s.size-8)))) 8).setWidth 8,ByteArray.empty⟩=true):iK (yb s)=(⟨aQ ((yb s).take (s.size-8)),eA (yb (aQ ((yb s).drop (s.size-8)))) 8 >>> 8,(eA (yb (aQ ((yb s).drop (s.size-8)))) 8).setWidth 8,ByteArray.empty⟩,0):=by
 simp_all[aNd,bAj]
end
section
variable {xs L:List Y} {k n:Nat} {y:Y} {e:Int}
theorem bAz (a:k<xs.length) (h:kR ⟨xs.drop k,0⟩=(y,⟨L,e⟩)):y=xs.getD k 0∧L=xs.drop (k+1)∧e=0:=by
 unfold kR at h;rw [if_neg (by simp),if_neg (by grind)] at h;simp_all
def bAy (y:Y):(y.setWidth 64).setWidth 8=y:=by
 simp
def uO (xs:List Y) (n k:Nat):List Y:=xs.take k++List.replicate (n-k) 0#8
theorem bA1 (f:k<n) (c:n<=xs.length):(uO xs n k).set k (xs.getD k 0)=uO xs n (k+1):=by
 unfold uO;have a:(xs.take k).length=k:=by grind
 rw [ke _ _ om,a,jr];obtain ⟨m,e⟩ : ∃ m,n-k=m+1:=⟨n-k-1,om⟩;grind[we]
theorem bA0 {z:Y} (e:k<n) (c:n<=xs.length) (f:j=k) (a:z=xs.getD k 0):(uO xs n k).set j z=uO xs n (k+1):=by grind[bA1]
def bAx:uO xs n n=xs.take n:=by simp[uO]
def bA2:uO xs n 0=List.replicate n 0#8:=by rfl
end
def aOk (e:Ent) (v:ByteArray):e.cells.set 3 (.string v)=({ e with value:=v }:Ent).cells:=rfl
def nV (last xs:List Y):Option (Ent×List Y×List Y):=xF last (fun e key r=>some (e,key,r)) xs
theorem aW8 {a:Type} {k:Nat->List Y->Option α} {c:Nat->List Y->Option a} {f:a->Option α} (h:∀ n r,k n r=(c n r).bind f) (xs:List Y):eJ k xs=(eJ c xs).bind f:=by
 grind[eJ]
theorem aJK (last:List Y) (k:Ent->List Y->List Y->Option α) (xs:List Y):xF last k xs=(nV last xs).bind fun p=>k p.1 p.2.1 p.2.2:=by
 unfold nV xF;grind[aW8]
section
variable {last:ByteArray} {xs L1 L2 L3:List Y} {n1 n2 n3:Nat} {e1 e2 e3:Int}
def aG8 (h1:gK ⟨xs,0⟩=(n1,⟨L1,e1⟩)) (h2:gK ⟨L1,e1⟩=(n2,⟨L2,e2⟩)) (h3:gK ⟨L2,e2⟩=(n3,⟨L3,e3⟩)) :
  nV (yb last) xs=if e3=0∧n1<=last.size∧n2<=L3.length∧n3<=L3.length-n2 then
   (if (iK ((yb last).take n1++L3.take n2)).2=0 then some ({ (iK ((yb last).take n1++L3.take n2)).1 with value:=aQ ((L3.drop n2).take n3) },(yb last).take n1++L3.take n2,(L3.drop n2).drop n3) else none) else none:=by
 have h:=((aHr (b:=xs) (k:=eJ fun a=>eJ fun rest=>eJ fun v r =>
  if a<=(yb last).length∧rest<=r.length∧v<=r.length-rest then
   (if (iK ((yb last).take a++r.take rest)).2=0 then some ({ (iK ((yb last).take a++r.take rest)).1 with value:=aQ ((r.drop rest).take v) },(yb last).take a++r.take rest,(r.drop rest).drop v) else none)
  else none)).numE h1).numE h2 |>.numE h3
 rcases h with ⟨q1,_,c⟩ | ⟨q1,q2⟩
 ·simp only at q1;refine (show nV (yb last) xs=_ from c).trans ?_;simp[bM,q1]
 refine (show nV (yb last) xs=none from q1).trans ?_;simp_all
end
section
variable {xs L1 L2 rest:List Y} {n1 n2:Nat} {e1 e2:Int} {l acc:List Ent}
theorem aDt (h1:gK ⟨xs,0⟩=(n1,⟨L1,e1⟩)) (h2:gK ⟨L1,e1⟩=(n2,⟨L2,e2⟩)):nR xs=if e2=0∧n1<=1024 then (match (jF n2 [] [] L2).bind fun l=>if gY l n1=(xs,0) then some l else none with
  | some l=>((l,0):List Ent×Int)
  | none=>([],100)) else ([],100):=by
 have h:=(aHr (b:=xs) (k:=eJ fun a=>eJ fun n r=>if a<=1024 then (jF n [] [] r).bind fun l=>if gY l a=(xs,0) then some l else none else none)).numE h1 |>.numE h2
 unfold nR;rcases h with ⟨q1,_,c⟩ | ⟨q1,q2⟩
 ·grind
 simp_all
def aXf (h1:gK ⟨xs,0⟩=(n1,⟨L1,e1⟩)) (h2:gK ⟨L1,e1⟩=(n2,⟨L2,e2⟩)) (c:¬ e2=0∨1024<(n1:Int)):([],100)=nR xs:=by
 rw [aDt h1 h2,if_neg]; omega
def aXg (h1:gK ⟨xs,0⟩=(n1,⟨L1,e1⟩)) (h2:gK ⟨L1,e1⟩=(n2,⟨L2,e2⟩)) (c:e2=0∧(n1:Int)<=1024) (h:jF n2 [] [] L2=none):([],100)=nR xs:=by
 rw [aDt h1 h2,if_pos ⟨c.1,om⟩,h]; rfl
theorem aXd (h1:gK ⟨xs,0⟩=(n1,⟨L1,e1⟩)) (h2:gK ⟨L1,e1⟩=(n2,⟨L2,e2⟩)) (c:e2=0∧(n1:Int)<=1024) (h:jF n2 [] [] L2=some l) {L:List Y} {a:Int} (e:(L,a)=gY l n1) (f:¬ a=0∨¬ L=xs):([],100)=nR xs:=by
 rw [aDt h1 h2,if_pos ⟨c.1,om⟩,h,qu,←e,if_neg];grind
def aXe (h1:gK ⟨xs,0⟩=(n1,⟨L1,e1⟩)) (h2:gK ⟨L1,e1⟩=(n2,⟨L2,e2⟩)) (c:e2=0∧(n1:Int)<=1024) (h:jF n2 [] [] L2=some l) {L:List Y} {a:Int} (f:(L,a)=gY l n1) (g:a=0) (e:L=xs):(l,0)=nR xs:=by
 rw [aDt h1 h2,if_pos ⟨c.1,om⟩,h,qu,←f,g,e,if_pos rfl]
def bBs:yb ByteArray.empty=[]:=by rw [aCj,iE]
theorem aQm {l:List Ent} {every a:Int} {L:List Y} (h:(L,a)=gY l every):L.length<=1048576:=by
 unfold gY at h;split at h
 ·simp_all
 ·split at h
  ·simp_all
  grind[uS]
def aSu {last:List Y} {E:Ent} {a r:List Y} (c:0<n) (h:nV last rest=some (E,a,r)):jF n last acc rest=jF (n-1) a (acc++[E]) r:=by
 obtain ⟨m,rfl⟩ : ∃ m,n=m+1:=⟨n-1,om⟩;simp_all[jF,aJK]
def aSt {last:List Y} (a:0<n) (h:nV last rest=none):jF n last acc rest=none:=by
 obtain ⟨m,rfl⟩ : ∃ m,n=m+1:=⟨n-1,om⟩;simp_all[jF,aJK]
theorem bAv {last:List Y} {E:Ent} {e r:List Y} (h:nV last rest=some (E,e,r)):r.length+1<=rest.length∧e.length+r.length<=last.length+rest.length:=by
 unfold nV xF at h;obtain ⟨a,i,rfl,l,h⟩:=wF h;obtain ⟨b,g,rfl,k,h⟩:=wF h;obtain ⟨c,f,rfl,j,h⟩:=wF h;grind[aGI]
end
section
variable {P:Program} {n:Fm} {l:List Oper} {K K':aF→PM→aB→Prop} {mc:Md}
theorem Sat.nil {G:PM} {w:World} (h:∀ b o,G b=some o->w.heap[b]? = some o):Sat G [] w:=⟨h,by simp,by simp [keys],by trivial⟩
theorem aPm {ρ:aF} {G:PM} {μ:aB} {y q:Oper} {c:Bool} {v:Value} (F:lQ K) (g:nth l j=some q) (e:Apart l y q) (hd:iV n y.dst) (H:Wo true mc P n l K [j] (bV ρ y.dst c v) G μ):Wo true mc P n l (fun ρ' p k=>PM.le G p∧(∃ c' r,ρ'=bV ρ q.dst c' r)∧K (bV ρ' y.dst c v) p k) [j] ρ G μ:=by
 have I:∀ {ρ G μ},Wo true mc P n l K [] ρ G μ->K ρ G μ:=fun h=>by cases h with | nil h=>exact h
 have sw:∀ {c':Bool} {r:Value} {p:PM} {k:aB},Wo true mc P n l K [] (bV (bV ρ y.dst c v) q.dst c' r) p k->K (bV (bV ρ q.dst c' r) y.dst c v) p k:=fun h=>F.1 _ _ _ _ (mP e.dd) (I h);cases H with
 | @pure _ _ _ _ _ o cj vj ho hk hg hr h =>
  obtain rfl:q=o:=Option.some.inj (g.symm.trans ho);refine .pure g hk (pI e.ij hg) (fun D a w i=>nH hd e.sj e.ij (Φ:=fun s=>s.run P w=.ok (.value vj) w) (fun a i=>hr D a w i) a i) (.nil ⟨PM.le.refl _,⟨_,_,rfl⟩,sw h⟩)
 | @read _ _ _ _ _ o cj vj ho hk hg hr h =>
  obtain rfl:q=o:=Option.some.inj (g.symm.trans ho);refine .read g hk (pI e.ij hg) (fun D a w i A=>nH hd e.sj e.ij (Φ:=fun s=>s.run P w=.ok (.value vj) w) (fun a i=>hr D a w i A) a i) (.nil ⟨PM.le.refl _,⟨_,_,rfl⟩,sw h⟩)
 | @make _ _ _ _ _ o ob mkv ho hk hg hr h =>
  obtain rfl:q=o:=Option.some.inj (g.symm.trans ho);exact .make g hk hg hr fun b=>.nil ⟨PM.le.refl _,⟨_,_,rfl⟩,sw (h b)⟩
 | @box _ _ _ _ _ o ob mkv ho hk hg hr h =>
  obtain rfl:q=o:=Option.some.inj (g.symm.trans ho);exact .box g hk (pI e.ij hg) (fun a w i=>nH hd e.sj e.ij (Φ:=fun s=>s.run P w=.ok (.value (mkv w.heap.size)) (w.alloc ob)) (fun a i=>hr a w i) a i) fun b=>.nil ⟨PM.le.refl _,⟨_,_,rfl⟩,sw (h b)⟩
 | @callv _ _ _ _ _ o cj f args vj Gp ho hk hg hr hf h =>
  obtain rfl:q=o:=Option.some.inj (g.symm.trans ho);exact .callv g hk (pI e.ij hg) (fun D a w i=>nH hd e.sj e.ij (Φ:=fun s=>s.run P w=.ok (.enter f args) w) (fun a i=>hr D a w i) a i) hf (.nil ⟨PM.le.refl _,⟨_,_,rfl⟩,sw h⟩)
 | @call _ _ _ _ _ o f args post ho hk hg hr hf h =>
  obtain rfl:q=o:=Option.some.inj (g.symm.trans ho);exact .call g hk (pI e.ij hg) (fun a w i=>nH hd e.sj e.ij (Φ:=fun s=>s.run P w=.ok (.enter f args) w) (fun a i=>hr a w i) a i) hf fun r p k m C=>.nil ⟨m,⟨_,_,rfl⟩,sw (h r p k m C)⟩
 | callg hdf _ _ _ _ _=>grind
 | callp hdf _ _ _ _ _ _ _=>grind
 | pan hdf _ _ _ _=>grind
 | @fresh _ _ _ _ _ o μ₁ μ₂ post ho hk hg C hr hw h =>
  obtain rfl:q=o:=Option.some.inj (g.symm.trans ho);exact .fresh g hk hg C (fun a w i A=>nH hd e.sj e.ij (Φ:=fun s=>∃ v w' p x t,s.run P w=.ok (.value v) w'∧Tr G (keys μ₁) w p (x++t) w'∧post p x t v) (fun a i=>hr a w i A) a i) hw fun r p x t m E=>.nil ⟨m,⟨_,_,rfl⟩,sw (h r p x t m E)⟩
 | @act _ _ _ _ _ o μ₁ μ₂ post ho hk hg C hr h =>
  obtain rfl:q=o:=Option.some.inj (g.symm.trans ho);exact .act g hk (pI e.ij hg) C (fun a w i A=>nH hd e.sj e.ij (Φ:=fun s=>(∃ v w' p k,(s.run P w=.ok (.value v) w'∨s.run P w=.ok .skip w'∧v=undef)∧Tr G (keys μ₁) w p k w'∧post p k v) ∨
    (∃ f args,s.run P w=.ok (.enter f args) w∧Ct P f args G μ₁ post)) (fun a i=>hr a w i A) a i) fun r p k m E=>.nil ⟨m,⟨_,_,rfl⟩,sw (h r p k m E)⟩
def qR (mc:Md) (l:List Oper) (listed:Array Bool) (i:Nat):Bool :=
 (cJ l listed).contains i&&match nth l i with
 | some oi=>(bB mc oi.op == .read)&&(qg l.length).all fun j=>listed.getD j true||j == i||match nth l j with
  | some oj=>rZ l l.length j i||oi.apart l.toArray oj
  | none=>false
 | none=>false
def PRd (P:Program) (n:Fm) (l:List Oper) (o:Oper) (c:Bool) (v:Value) (ρ:aF) (G:PM):Prop :=
 Gd l ρ o.guard c∧(c=true->∀ a w,Ag n ρ a->(∀ b u,G b=some u->w.heap[b]? = some u)->(execOp a.eval o).run P w=.ok (.value v) w)
def aFu (l:List Oper) (j:Nat):Bool:=(qg l.length).all fun i=>i == j||rZ l l.length j i
def Wp (mc:Md) (P:Program) (n:Fm) (l:List Oper) (K:aF->PM->aB->Prop):Nat->Array Bool->aF->PM->aB->Prop
 | 0,listed,ρ,G,μ=>cJ l listed=[]∧K ρ G μ
 | m+1,listed,ρ,G,μ=>(∃ i,mQ mc l listed i=true∧Wo true mc P n l (fun ρ' G' μ'=>Wp mc P n l K m (listed.setIfInBounds i true) ρ' G' μ') [i] ρ G μ) ∨
   (cJ l listed≠[]∧∀ j∈cJ l listed,Wo true mc P n l (fun ρ' G' μ'=>Wp mc P n l K m (listed.setIfInBounds j true) ρ' G' μ') [j] ρ G μ) ∨
   (∃ i o c v,qR mc l listed i=true∧nth l i=some o∧PRd P n l o c v ρ G∧Wp mc P n l K m (listed.setIfInBounds i true) (bV ρ o.dst c v) G μ) ∨
   (∃ j,cJ l listed=[j]∧aFu l j=true∧Wo false mc P n l (fun ρ' G' μ'=>Wp mc P n l K m (listed.setIfInBounds j true) ρ' G' μ') [j] ρ G μ)
def PRd.congr {o:Oper} {c:Bool} {v:Value} {ρ f:aF} {G:PM} (h:PRd P n l o c v ρ G) (e:∀ i,cT ρ i=cT f i):PRd P n l o c v f G :=
 ⟨h.1.congr fun _ t _ _ _=>e t,fun j a w k g=>h.2 j a w (k.congr e) g⟩
def rP (a:lQ K):∀ (m:Nat) (listed:Array Bool),lQ (fun ρ G μ=>Wp mc P n l K m listed ρ G μ)
 | 0,listed=>⟨fun ρ ρ' G μ e h=>⟨h.1,a.1 _ _ _ _ e h.2⟩,fun ρ G μ μ' p h=>⟨h.1,a.2 _ _ _ _ p h.2⟩⟩
 | m+1,listed=>by
  refine ⟨fun ρ ρ' G μ e h=>?_,fun ρ G μ μ' p h=>?_⟩
  ·rcases h with ⟨i,h1,h2⟩ | ⟨h1,h2⟩ | ⟨i,o,c,v,h1,h2,h3,h4⟩ | ⟨j,h1,h2,h3⟩
   ·exact .inl ⟨i,h1,h2.congr (rP a m _) e⟩
   ·exact .inr (.inl ⟨h1,fun j hj=>(h2 j hj).congr (rP a m _) e⟩)
   ·exact .inr (.inr (.inl ⟨i,o,c,v,h1,h2,h3.congr e,(rP a m _).1 _ _ _ _ (qK e _ _ _) h4⟩))
   exact .inr (.inr (.inr ⟨j,h1,h2,h3.congr (rP a m _) e⟩))
  rcases h with ⟨i,h1,h2⟩ | ⟨h1,h2⟩ | ⟨i,o,c,v,h1,h2,h3,h4⟩ | ⟨j,h1,h2,h3⟩
  ·exact .inl ⟨i,h1,h2.perm (rP a m _) p⟩
  ·exact .inr (.inl ⟨h1,fun j hj=>(h2 j hj).perm (rP a m _) p⟩)
  ·exact .inr (.inr (.inl ⟨i,o,c,v,h1,h2,h3,(rP a m _).2 _ _ _ _ p h4⟩))
  exact .inr (.inr (.inr ⟨j,h1,h2,h3.perm (rP a m _) p⟩))
def aWs {a:Array Bool} (f:i≠j) (h:qR mc l a i=true):qR mc l (a.setIfInBounds j true) i=true:=by
 unfold qR at h ⊢;simp only [qi] at h ⊢;obtain ⟨p,c⟩:=h;refine ⟨by simp_all[wM],?_⟩;cases m:nth l i with
 | none=>simp_all
 | some oi =>
  simp only [m,qi] at c ⊢;refine ⟨c.1,wg.2 fun k g=>?_⟩;have n:=wg.1 c.2 k g;by_cases e:j=k
  ·simp_all
  simp_all
theorem aKS {a:Array Bool} (k:Closed l a) (g:a.getD i true=false) (c:i<l.length) (f:j∈cJ l a) (e:i≠j) (h:aFu l j=true):False:=by
 have m:=wg.1 h i (xh.2 c);grind[aBn]
theorem Wp.front (hK:lQ K) (L:Region.noSelect l.toArray=true) (M:∀ j y,nth l j=some y->bB mc y.op=.make->vB P y) (D:∀ j y,nth l j=some y->iV n y.dst) :
  ∀ (m:Nat) (listed:Array Bool) (j:Nat) (ρ:aF) (G:PM) (μ:aB),pS listed=m+1->Closed l listed->j∈cJ l listed->Wp mc P n l K (m+1) listed ρ G μ->Wo true mc P n l (fun p J r=>Wp mc P n l K m (listed.setIfInBounds j true) p J r) [j] ρ G μ∨(aFu l j=true∧Wo false mc P n l (fun p J r=>Wp mc P n l K m (listed.setIfInBounds j true) p J r) [j] ρ G μ)
 | m,listed,j,ρ,G,μ,hu,hcl,hj,H=>by
  rcases H with ⟨i,h1,h2⟩ | ⟨_,h2⟩ | ⟨i,S,c,v,h1,g,h2,h3⟩ | ⟨j',h1,h2,h3⟩
  ·by_cases e:j=i
   ·simp_all
   have T:i∈cJ l listed:=by simp_all[mQ]
   have O:=wM hj e;have k:=(jZ.1 T).1;have C:=(jZ.1 hj).1;have a3:=aAg k;have t:(listed.setIfInBounds i true).getD j true=false:=by simp_all[Ne.symm]
   have hp:=aHB t;obtain ⟨F,rfl⟩ : ∃ F,m=F+1:=⟨m-1,om⟩;obtain ⟨_,S,g,_⟩:=jZ.1 T;have Q:i<l.length:=by
    have:=(jY _ _).trans g;grind
   obtain ⟨_,y,f,_⟩:=jZ.1 hj;have h3:Wo true mc P n l (fun p J r=>Wp mc P n l K F ((listed.setIfInBounds i true).setIfInBounds j true) p J r) (i :: [j]) ρ G μ :=
    h2.bind1 fun p J r h=>(Wp.front hK L M D F (listed.setIfInBounds i true) j p J r om (hcl.set T) O h).resolve_right fun hl=>aKS hcl k Q hj (fun q=>e q.symm) hl.1
   have A:=aBn hcl k hj l.length;have N:j<l.length:=by
    have:=(jY _ _).trans f;grind
   have x:=h1;unfold mQ at x;simp only [qi,g] at x;obtain ⟨_,a8,E⟩:=x;have Z:=wg.1 E j (xh.2 N);simp only [C,f,A,zz,x4,beq_iff_eq,e,false_or,qi,bne_iff_ne] at Z;simp only [x4,beq_iff_eq] at a8;have a7:bB mc S.op=.pure∨(bB mc S.op=.read∧bB mc y.op≠.act)∨bB mc y.op=.make:=by
    grind
   have h5:=Wo.swap (rP hK F _) rfl g f (yX L g f Z.1) D (M j y f) a7 h3;refine .inl (h5.cut1.bind1 fun p J r h=>.nil (.inl ⟨i,aLZ (Ne.symm e) h1,?_⟩));grind[jp]
  ·simp_all
  ·by_cases e:j=i
   ·subst e;have a6:bB mc S.op=.read:=by
     simp_all[qR]
    exact .inl (.read g (.inl a6) h2.1 (fun hc a w X L=>h2.2 hc a w X L.sub) (.nil h3))
   have T:i∈cJ l listed:=by simp_all[qR]
   have O:=wM hj e;have k:=(jZ.1 T).1;have C:=(jZ.1 hj).1;have a3:=aAg k;have t:(listed.setIfInBounds i true).getD j true=false:=by simp_all[Ne.symm]
   have hp:=aHB t;obtain ⟨F,rfl⟩ : ∃ F,m=F+1:=⟨m-1,om⟩;obtain ⟨_,y,f,_⟩:=jZ.1 hj;have A:=aBn hcl k hj l.length;have N:j<l.length:=by
    have:=(jY _ _).trans f;grind
   have x:=h1;unfold qR at x;simp only [qi,g] at x;obtain ⟨_,_,E⟩:=x;have Z:=wg.1 E j (xh.2 N);simp only [C,f,A,zz,x4,beq_iff_eq,e,false_or] at Z;have I:=yX L g f Z;have Q:i<l.length:=by
    have:=(jY _ _).trans g;grind
   have h5:=(Wp.front hK L M D F (listed.setIfInBounds i true) j _ G μ om (hcl.set T) O h3).resolve_right fun hl=>aKS hcl k Q hj (fun q=>e q.symm) hl.1;refine .inl ((aPm (rP hK F _) f I (D i S g) h5).bind1 fun p J r ⟨a4,⟨c',v',a2⟩,h⟩=>.nil (.inr (.inr (.inl ⟨i,S,c,v,aWs (Ne.symm e) h1,g,?_,?_⟩))))
   ·subst a2;refine ⟨xL I.ji h2.1,fun hc a w X L=>?_⟩;exact vT (D j y f) I.si I.ji (Φ:=fun s=>s.run P w=.ok (.value v) w) (fun a X=>h2.2 hc a w X (fun b u hb=>L b u (a4 b u hb))) a X
   grind[jp]
  simp_all
theorem Wp.any {Q:Exit->Act->World->Prop} {F:PM} {K0:List Nat} {w0:World} (A:lQ K) (t:Region.noSelect l.toArray=true) (p:∀ j oj,nth l j=some oj->bB mc oj.op=.make->vB P oj) (e:∀ j oj,nth l j=some oj->iV n oj.dst)
  (y:∀ ρ G μ,K ρ G μ->∀ a w,Ag n ρ a->Tr F K0 w0 G μ w->Q .normal a w) (C:∀ ch ρ G μ a w,n.die ch ρ G μ->Ag n ρ a->Tr F K0 w0 G μ w->Q (.panic ch) a w) :
  ∀ (m:Nat) (listed:Array Bool) (ρ:aF) (G:PM) (μ:aB) (a:Act) (w:World),pS listed=m->Closed l listed->Wp mc P n l K m listed ρ G μ->Ag n ρ a->Tr F K0 w0 G μ w->wpAny P .any l.toArray Q m listed a w
 | 0,listed,ρ,G,μ,a,w,_,_,H,ha,ht=>⟨H.1,y _ _ _ H.2 a w ha ht⟩
 | m+1,listed,ρ,G,μ,a,w,hu,hcl,H,ha,ht=>by
  refine ⟨fun h0=>?_,fun j hj=>?_⟩
  ·rcases H with ⟨i,h1,_⟩ | ⟨h1,_⟩ | ⟨i,oi,c,v,h1,_⟩ | ⟨j',h1,_⟩
   ·simp_all[cJ,mQ]
   ·trivial
   ·simp_all[cJ,qR]
   simp_all[cJ]
  have hj':j∈cJ l listed:=hj;have L:=aAg (jZ.1 hj').1;obtain ⟨o,M,h⟩ : ∃ o,nth l j=some o∧if Region.wanted o (yielded l.toArray a.tmps) then o.wp P a w (wpAny P .any l.toArray Q m (listed.setIfInBounds j true)) Q else wpAny P .any l.toArray Q m (listed.setIfInBounds j true) (a.put o.dst undef) w:=by
   rcases Wp.front A t p e m listed j ρ G μ hu hcl hj' H with x | ⟨_,x⟩
   ·exact x.head ha ht (next:=wpAny P .any l.toArray Q m (listed.setIfInBounds j true)) (Q:=Q) e (fun J=>om)
     (fun f I g D r E q k=>by cases E with | nil h=>exact Wp.any A t p e y C m _ f I g D r om (hcl.set hj') h q k)
   exact x.head ha ht (next:=wpAny P .any l.toArray Q m (listed.setIfInBounds j true)) (Q:=Q) e (fun _=>C)
    (fun f I g D r E q k=>by cases E with | nil h=>exact Wp.any A t p e y C m _ f I g D r om (hcl.set hj') h q k)
  simp only [wpOp,jY,M];grind
def Wk.mixp {X:Cx} {k:List KI} {m:Nat} {ρ:aF} {G:PM} {μ:aB} (mc:Md) (hm:X.P.follows .mixedOrders=true) (c:aBh X.P X.n.n l=true)
  (h:Wp mc X.P X.n l (fun ρ G μ=>We X .normal k ρ G μ) l.length (Array.replicate l.length false) ρ G μ):Wk X (.region m l.toArray true) k ρ G μ:=by
 simp only [aBh,qi] at c;obtain ⟨⟨v,t⟩,r⟩:=c;refine ⟨fun a w i f=>wp_region_any hm ?_⟩;have p:pS (Array.replicate l.length false)=l.length:=by simp [pS]
 have:=Wp.any (Q:=gH X k) (aEV .normal) v (fun j e g q=>aF4 q (wg.1 r e (aAH g)))
  (fun j e g=>by
   have:=wg.1 t e (aAH g);cases hd:e.dst with
   | none=>trivial
   | some d=>rw [hd] at this; show d<X.n.n; simp_all) (fun _ _ _ h a w i f=>h.out a w i f) (vC _ k) l.length _ ρ G μ a _ p (Closed.none _) h i f.drew
 omega
def kH {X:Cx} {k:List KI} {m:Nat} {ρ:aF} {G:PM} {μ:aB} (h:Wp ⟨true,false⟩ X.P X.n l (fun ρ G μ=>We X .normal k ρ G μ) l.length (Array.replicate l.length false) ρ G μ) (hm:X.P.follows .mixedOrders=true:=by kernel_rfl) (c:aBh X.P X.n.n l=true:=by kernel_rfl):Wk X (.region m l.toArray true) k ρ G μ:=.mixp _ hm c h
variable {ρ:aF} {G:PM} {μ:aB} {m:Nat} {listed:Array Bool}
def Wp.last (a:cJ l listed=[]) (h:K ρ G μ):Wp mc P n l K 0 listed ρ G μ:=⟨a,h⟩
def Wp.one (i:Nat) (a:mQ mc l listed i=true) (h:Wo true mc P n l (fun ρ' G' μ'=>Wp mc P n l K m (listed.setIfInBounds i true) ρ' G' μ') [i] ρ G μ):Wp mc P n l K (m+1) listed ρ G μ:=.inl ⟨i,a,h⟩
theorem Wp.pr (i:Nat) (j:qR mc l listed i=true) (h:Wo true mc P n l (fun ρ' G' μ'=>(G'=G∧μ'=[])∧Wp mc P n l K m (listed.setIfInBounds i true) ρ' G μ) [i] ρ G []):Wp mc P n l K (m+1) listed ρ G μ:=by
 have k:=j;unfold qR at k;simp only [qi] at k;cases e:nth l i with
 | none=>simp_all
 | some oi =>
  have q:bB mc oi.op=.read:=by simp_all
  cases h with
  | @read _ _ _ _ _ o c v ho hk hg hr h =>
   obtain rfl:oi=o:=Option.some.inj (e.symm.trans ho);cases h with
   | nil h=>exact .inr (.inr (.inl ⟨i,oi,c,v,j,e,⟨hg,fun g a w r p=>hr g a w r (Sat.nil p)⟩,h.2⟩))
  | @pure _ _ _ _ _ o cj vj ho hk _ _ _=>simp_all
  | @make _ _ _ _ _ o _ _ ho hk _ _ _=>simp_all
  | @box _ _ _ _ _ o _ _ ho hk _ _ _=>simp_all
  | @callv _ _ _ _ _ o cj f args vj Gp ho hk _ _ _ _=>simp_all
  | @call _ _ _ _ _ o f args post ho hk _ _ _ _=>simp_all
  | callg hdf _ _ _ _ _=>grind
  | callp hdf _ _ _ _ _ _ _=>grind
  | pan hdf _ _ _ _=>grind
  | @fresh _ _ _ _ _ o μ₁ μ₂ post ho hk _ _ _ _ _=>simp_all
  | @act _ _ _ _ _ o μ₁ μ₂ post ho hk _ _ _ _=>simp_all
def Wp.b1 (j:Nat) (e:cJ l listed=[j]) (h:Wo true mc P n l (fun ρ' G' μ'=>Wp mc P n l K m (listed.setIfInBounds j true) ρ' G' μ') [j] ρ G μ):Wp mc P n l K (m+1) listed ρ G μ :=
 .inr (.inl ⟨by simp_all,fun c a=>by simp_all⟩)
theorem Wp.b2 (j a:Nat) (f:cJ l listed=[j,a]) (h:Wo true mc P n l (fun ρ' G' μ'=>Wp mc P n l K m (listed.setIfInBounds j true) ρ' G' μ') [j] ρ G μ)
  (h2:Wo true mc P n l (fun ρ' G' μ'=>Wp mc P n l K m (listed.setIfInBounds a true) ρ' G' μ') [a] ρ G μ):Wp mc P n l K (m+1) listed ρ G μ :=
 .inr (.inl ⟨by simp_all,fun e c=>by
  grind⟩)
theorem Wp.b3 (j c a:Nat) (g:cJ l listed=[j,c,a]) (h:Wo true mc P n l (fun ρ' G' μ'=>Wp mc P n l K m (listed.setIfInBounds j true) ρ' G' μ') [j] ρ G μ)
  (h2:Wo true mc P n l (fun ρ' G' μ'=>Wp mc P n l K m (listed.setIfInBounds c true) ρ' G' μ') [c] ρ G μ) (h3:Wo true mc P n l (fun ρ' G' μ'=>Wp mc P n l K m (listed.setIfInBounds a true) ρ' G' μ') [a] ρ G μ):Wp mc P n l K (m+1) listed ρ G μ :=
 .inr (.inl ⟨by simp_all,fun f e=>by
  grind⟩)
def aA (i:Nat) (h:Wo true mc P n l (fun ρ' G' μ'=>Wp mc P n l K m (listed.setIfInBounds i true) ρ' G' μ') [i] ρ G μ) (a:mQ mc l listed i=true:=by kernel_rfl):Wp mc P n l K (m+1) listed ρ G μ:=Wp.one i a h
def fI (i:Nat) (h:Wo true mc P n l (fun ρ' G' μ'=>(G'=G∧μ'=[])∧Wp mc P n l K m (listed.setIfInBounds i true) ρ' G μ) [i] ρ G []) (a:qR mc l listed i=true:=by kernel_rfl):Wp mc P n l K (m+1) listed ρ G μ:=Wp.pr i a h
def aG (j:Nat) (h:Wo true mc P n l (fun ρ' G' μ'=>Wp mc P n l K m (listed.setIfInBounds j true) ρ' G' μ') [j] ρ G μ) (a:cJ l listed=[j]:=by kernel_rfl):Wp mc P n l K (m+1) listed ρ G μ:=Wp.b1 j a h
def bG (h:K ρ G μ) (a:cJ l listed=[]:=by kernel_rfl):Wp mc P n l K 0 listed ρ G μ:=Wp.last a h
end
def aK2 {μ f e c a:aB} {j i h g:Res} (h1:MTake μ j f) (h2:MTake f i e) (h3:MTake e h c) (k:MTake c g a):μ.Perm ([j,i,h,g]++a):=h1.perm.trans ((fK h2 h3 k).cons _)
def fO:ByteArray:=xc
def aFF (l:List ByteArray):∀ x∈l,(iH x).length=1:=fun _ _=>rfl
def aSy {l:List ByteArray} {j:Int} (k:Nat) (c:0+j.toNat*1=k) (a:k<l.length):(l.flatMap iH)[0+j.toNat*1]? = some (.string (l.getD k fO)):=by
 rw [c];have:=aDI (aFF _) (qv a);rw [Nat.mul_one] at this;have e:=congrArg (fun z=>z[0]?) this;simp only [List.getElem?_take,List.getElem?_drop] at e;simp_all[iH]
def aBK {l:List ByteArray} {o:Nat} (k:Nat) (c:o=k) (a:k<l.length):(l.flatMap iH)[o]? = some (.string (l.getD k fO)):=by
 have:=aSy (l:=l) (j:=(k:Int)) k om a;simp_all
def aEw:∀ (l:List ByteArray) (p y:ByteArray),rX p (l++[y])=rX p l++(if y=l.getLastD p then [] else [y])
 | [],p,y=>by rfl
 | b :: l,p,y=>by
  simp only [List.cons_append,rX,List.getLastD_cons];split
  ·rename_i h; subst h; exact aEw l _ y
  ·rw [aEw l b y]; rfl
def aTf {l:List ByteArray} (h:k<l.length):l.getD k fO=l[k]:=by simp_all
theorem aCp {l:List ByteArray} (h1:1<=j) (h2:j<l.length):iU (l.take (j+1))=iU (l.take j)++(if l.getD j fO=l.getD (j-1) fO then [] else [l.getD j fO]):=by
 cases l with
 | nil=>simp
 | cons a l =>
  obtain ⟨i,rfl⟩ : ∃ i,j=i+1:=⟨j-1,om⟩;have c:i<l.length:=by simp_all
  rw [vb,vb,we,qv c];simp only [iU,Option.toList_some,aEw,ww];grind
def aEt {l:List ByteArray}:∀ k,k<=l.length->(∀ j,1<=j->j<k->¬ l.getD j fO=l.getD (j-1) fO)->iU (l.take k)=l.take k
 | 0,_,_=>rfl
 | 1,h,_=>by
  cases l with
  | nil=>rfl
  | cons a l=>rfl
 | k+2,h,hj=>by
  rw [aCp (by omega) (by omega),aEt (k+1) (by omega) (fun j h1 h2=>hj j h1 (by omega)),if_neg (hj (k+1) (by omega) (by omega)),List.take_add_one (i:=k+1),List.getElem?_eq_getElem (by omega),aTf (by omega)];rfl
theorem aRP {l:List ByteArray} (h:(l.length:Int)<2):iU l=l:=by
 match l with
 | []=>rfl
 | [a]=>rfl
 | a :: b :: r=>grind
def aRO {l:List ByteArray} (h:l.length<=k) (a:∀ j,1<=j->j<k->¬ l.getD j fO=l.getD (j-1) fO):iU l=l:=by
 have:=aEt l.length (qc _) fun j c e=>a j c om;simp_all
structure CmR (l M:List ByteArray) (c j:Nat):Prop where
 len:M.length=l.length
 cj:c<j
 jl:j≤l.length
 c1:1≤c
 fst:M.take c=iU (l.take j)
 rest:∀ i,j≤i+1→M.getD i fO=l.getD i fO
def aOY {l:List ByteArray} (a:1<=k) (c:k<l.length) (e:∀ j,1<=j->j<k->¬ l.getD j fO=l.getD (j-1) fO) (f:l.getD k fO=l.getD (k-1) fO):CmR l l k (k+1) :=
 ⟨rfl,om,om,a,by rw [aCp a c,aEt k om e,if_pos f,wh],fun _ _=>rfl⟩
def CmR.same {l M:List ByteArray} {c:Nat} (h:CmR l M c j) (e:j<l.length) (a:M.getD j fO=M.getD (j-1) fO):CmR l M c (j+1):=by
 have g:=h.c1; have f:=h.cj;refine ⟨h.len,om,om,g,?_,fun i k=>h.rest i om⟩;rw [h.rest j om,h.rest (j-1) om] at a;rw [aCp om e,if_pos a,wh]; exact h.fst
def CmR.next {l M:List ByteArray} {c:Nat} (h:CmR l M c j) (f:j<l.length) (g:¬ M.getD j fO=M.getD (j-1) fO):CmR l (M.set c (M.getD j fO)) (c+1) (j+1):=by
 have n:=h.c1; have k:=h.cj; have e:=h.len;have a:=g;rw [h.rest j om,h.rest (j-1) om] at a;refine ⟨by simp_all,om,om,om,?_,fun i m=>?_⟩
 ·rw [aCp om f,if_neg a,←h.fst,we,List.getElem?_set_self om,List.take_set_of_le (qc _),h.rest j om]; rfl
 have:c≠i:=by omega
 rw [wc,List.getElem?_set_ne this,←wc];exact h.rest i om
def CmR.fin {l M:List ByteArray} {c:Nat} (h:CmR l M c j) (a:l.length<=j):M.take c=iU l:=by
 rw [h.fst,wd om]
def aZk {a b:ByteArray} (h:(a.toList == b.toList)=false):¬ a=b:=fun e=>by simp_all
theorem aRH {l:List ByteArray} (h:∀ j,1<=j->j<k->¬ l.getD j fO=l.getD (j-1) fO) (c:((l.getD k fO).toList == (l.getD (k-1) fO).toList)=false):∀ j,1<=j->j<k+1->¬ l.getD j fO=l.getD (j-1) fO:=fun j e a=>by
 grind
def aYI {X A L:List Y} (a:X.length<18446744073709551616) (e:A=[]++bK (BitVec.ofInt 64 (X.length:Int)).toNat) (c:L=A++yl 32 (gB X)):L=jO X:=by
 rw [c,e,aDh a]; rfl
def gW (enc mac:Nat->Y) (va vo vl:Value):List Value:=ba 32 enc++ba 32 mac++[va,vo,vl]
section
variable {enc mac:Nat→Y} {va vo vl v:Value}
def aEE:(gW enc mac va vo vl).length=67:=by rfl
def aOK:((gW enc mac va vo vl).drop 0).take 64=ba 32 enc++ba 32 mac:=by rfl
def aOJ:(gW enc mac va vo vl)[64]? = some va:=by rfl
def tF:(gW enc mac va vo vl)[65]? = some vo:=by rfl
def aEF:(gW enc mac va vo vl)[66]? = some vl:=by rfl
def aHK:(gW enc mac va vo vl).set 65 v=gW enc mac va v vl:=by rfl
def bBj:(gW enc mac va vo vl).set 66 v=gW enc mac va vo v:=by rfl
end
def mJ (h:Hd) (l:List Ent) (blk every:Int):Prop:=¬ h.kind=2#8∨h.right=false∨l=[]∨blk<1∨1048576<blk∨every<1∨1024<every∨(∃ e∈l,cC e=false)∨cA l=false
def cD (root:Nat->Y) (h:Hd) (l:List Ent) (blk every bits:Int):Tab:=⟨root,h,every.toNat,bits,dP blk l⟩
def oY (root:Nat->Y) (h:Hd) (l:List Ent) (blk every bits:Int) (L:List Y) (m:Meta) (er:Int):Prop :=
 (mJ h l blk every∧L=[]∧m=Meta.zero∧er=1)∨(¬ mJ h l blk every∧L=(cD root h l blk every bits).bytes∧m=(cD root h l blk every bits).info∧er=0)
section
variable {root:Nat→Y} {h:Hd} {l:List Ent} {blk every bits:Int}
theorem aNW:(((h.kind.toNat:Int) != 2) || !h.right||((l.length:Int) == 0)||decide (blk<1)||decide (blk > 1048576)||decide (every<1)||decide (every > 1024)||l.any (fun e => !cC e) || !cA l)=true↔mJ h l blk every:=by
 have a:(((h.kind.toNat:Int) != 2)=true)↔¬ h.kind=2#8:=by
  rw [bne_iff_ne];exact ⟨fun q e=>q (by simp_all),fun q e=>q (wj (by grind))⟩
 simp_all[mJ,or_assoc]
def bAV (c:(((h.kind.toNat:Int) != 2) || !h.right||((l.length:Int) == 0)||decide (blk<1)||decide (blk > 1048576)||decide (every<1)||decide (every > 1024)||l.any (fun e => !cC e) || !cA l)=true):oY root h l blk every bits [] Meta.zero 1:=.inl ⟨aNW.1 c,rfl,rfl,rfl⟩
theorem aFe (a:¬ mJ h l blk every) (e:lightE l):(cD root h l blk every bits).Good:=by
 have f:(cD root h l blk every bits).ents=l:=oB _ _;have c:1<=every∧every<=1024:=⟨zx.1 fun q=>a (.inr (.inr (.inr (.inr (.inr (.inl q)))))),zx.1 fun q=>a (.inr (.inr (.inr (.inr (.inr (.inr (.inl q))))))) ⟩;refine ⟨⟨by simp_all,aE4 _ _,by show every.toNat<=1024; omega⟩,?_,?_,by show 1<=every.toNat; omega,?_,?_,?_⟩
 ·apply Classical.byContradiction; intro q; exact a (.inl q)
 ·grind[cD,mJ]
 ·grind[mJ]
 ·simp_all[mJ]
 grind[Tab.ents,mJ]
theorem bAa (c:(((h.kind.toNat:Int) != 2) || !h.right||((l.length:Int) == 0)||decide (blk<1)||decide (blk > 1048576)||decide (every<1)||decide (every > 1024)||l.any (fun e => !cC e) || !cA l)=false) (a:lightE l):¬ mJ h l blk every∧(cD root h l blk every bits).Good∧1<=every:=by
 grind[aNW,aFe]
end
theorem aQo {t:Tab} (g:t.Good) (h:i<t.cs.length):gY (t.cs.getD i []) t.every=(gP t.every (t.cs.getD i []),0):=by
 have c:∀ e∈t.cs.getD i [],cC e=true:=fun e a=>g.ents e (vk.2 ⟨_,nJ h,a⟩);have f:cA (t.cs.getD i [])=true:=aLt ((qaD.1 (aGX g.rises)).1 _ (nJ h));have l:=aAm (nJ h);have k:bO t.cs.flatten<=50000:=g.ok.light.2;have j:t.cs.flatten.length<=2000:=g.ok.light.1;have a:=g.ok.every;have m:=g.ev1;grind[aEp,aCi,aDl,aEH]
section
variable {root:Nat→Y} {h:Hd} {l rest L R B:List Ent} {blk every bits er:Int} {k:Nat} {x y:Ent}
theorem bAf (g:(cD root h l blk every bits).Good) (n:1<=every) (f:rest=((dP blk l).drop k).flatten) (v:0<(rest.length:Int)) (x:L=rest.take (iG blk 0 rest)) (w:R=rest.drop (iG blk 0 rest)) :
  k<(dP blk l).length∧(dP blk l).getD k []=L∧R=((dP blk l).drop (k+1)).flatten∧L.length=iG blk 0 rest∧0<L.length∧(∀ {X:List Y} {c:Int},(X,c)=gY L every->X=gP every.toNat L∧c=0):=by
 have a:rest≠[]:=fun q=>by simp_all
 obtain ⟨e,t,r⟩:=aIw f a;have j:=zH blk 0 a;have m:=aE3 blk rest 0;refine ⟨e,by simp_all,by simp_all,by simp_all,by simp_all,fun {X c} p=>?_⟩;have:=aQo g (i:=k) e;grind[cD]
def bAX (g:k<(dP blk l).length) (h:(dP blk l).getD k []=L) (c:R=((dP blk l).drop (k+1)).flatten) (m:0<(R.length:Int)) (f:L[L.length-1]? = some x) (e:R[0]? = some y):pZ (yb x.user) (yb y.user)=nE (dP blk l) k:=by
 have a:R≠[]:=fun q=>by simp_all
 obtain ⟨j,i,_⟩:=aIw c a;simp_all[zH,nE,gR,kK]
def bAW (f:(dP blk l).getD k []=L) (c:R=((dP blk l).drop (k+1)).flatten) (h:(R.length:Int)<=0) (e:L[L.length-1]? = some x):yb x.user=nE (dP blk l) k:=by
 have a:R=[]:=wo om;have g:=aIv c a;simp_all[nE,if_neg,gR]
end
section
variable {t:Tab} {k:Nat} {O D' X W L1 L2:List Y} {US:List ByteArray} {L:List Ent}
def aNZ (a:t.cs.getD k []=L) (e:X=kB (fF t.root (aU t.h)) (fG t.root (aU t.h)) (iQ (BitVec.ofInt 64 ((2+k:Nat):Int))) (aU t.h) (gP t.every L)):X=t.prt k:=by simp_all[Tab.prt,aAW]
def aNY (c:O=t.out k) (a:X=t.prt k) (e:L1=O++X):L1=t.out (k+1):=by rw [e,c,a,t.out_succ]
def aNa (e:O=t.rows k) (a:X=t.prt k) (c:W=jO X) {s:List Y} (es:s=nE t.cs k) (g:L1=O++gF s) (f:L2=L1++W):L2=t.rows (k+1):=by rw [f,g,e,c,a,es,t.rows_succ,qr]
def aNX {D a:List Dg} (f:D=t.lvs k) (c:X=t.prt k) (e:a=D++[gB X]):a=t.lvs (k+1):=by rw [e,f,c,t.lvs_succ]
def aNb (a:k<t.cs.length) (c:t.cs.getD k []=L) (e:US=(t.cs.take k).flatten.map (·.user)):US++L.map (·.user)=(t.cs.take (k+1)).flatten.map (·.user):=by simp_all[aE2]
def aNt {x:Ent} (h:L[j]? = some x):US++(L.take j).map (·.user)++[x.user]=US++(L.take (j+1)).map (·.user):=by
 simp_all[we]
end
theorem bAe {rest:List Ent} {blk:Int} (c:lightE l) (a:rest=((dP blk l).drop k).flatten):lightE rest:=by
 have e:l=((dP blk l).take k).flatten++rest:=by grind[wn,oB]
 grind[pU,lightE]
theorem usz {L:List Ent} {x:Ent} (e:lightE L) (a:L[j]? = some x):x.user.size<=50000∧x.value.size<=50000:=by
 have c:=(wr.1 a).1;have:=yO c;grind[lightE]
theorem aMz {L A:List Y} {s:ByteArray} (e:L=A++gF (yb s)) (a:s.size<=50000):L.length<=A.length+50010:=by
 grind[iJ,bM,gF]
theorem aGc {W X:List Y} (e:W=jO X) (a:X.length<=100000000):32<=W.length∧W.length<=42:=by
 grind[iJ,jO,bL]
def aEx:∀ {l:List ByteArray} {p s:ByteArray},s∈rX p l->s∈l
 | b :: l,p,s,h=>by
  unfold rX at h;split at h
  ·exact List.mem_cons_of_mem _ (aEx h)
  ·rcases List.mem_cons.1 h with rfl | h
   ·simp
   ·exact List.mem_cons_of_mem _ (aEx h)
def aRQ:∀ {l:List ByteArray} {s:ByteArray},s∈iU l->s∈l
 | a :: l,s,h=>by
  unfold iU at h;rcases List.mem_cons.1 h with rfl | h
  ·simp
  ·exact List.mem_cons_of_mem _ (aEx h)
def bBG (c:lightE l):∀ s∈iU (l.map (·.user)),s.size<=1000000:=fun s a=>by
 obtain ⟨e,g,rfl⟩:=ql.1 (aRQ a);obtain ⟨i,f,rfl⟩:=xz g;have:=(usz c (qv f)).1;omega
section
variable {root:Nat→Y} {h:Hd} {l:List Ent} {blk every bits:Int}
def aZ5:(cD root h l blk every bits).users=l.map (·.user):=by
 simp[Tab.users,Tab.ents,cD,oB]
theorem bAU {a:List ByteArray} (c:(dP blk l).length<=k) (e:a=((cD root h l blk every bits).cs.take k).flatten.map (·.user)):a=l.map (·.user):=by
 grind[wd,oB,cD]
def bAZ {M X:List Y} {a:List ByteArray} (e:a=l.map (·.user)) (f:M=aAF (iU a) bits) (c:X=kB (fF root (aU h)) (fG root (aU h)) (iQ (BitVec.ofInt 64 ((1:Nat):Int))) (aU h) M):X=(cD root h l blk every bits).filt:=by
 unfold Tab.filt; rw [aZ5,c,f,e]; rfl
def bAb {R W N L I:List Y} (c:R=(cD root h l blk every bits).rows (dP blk l).length) (g:W=jO (cD root h l blk every bits).filt) (a:N=[]++bK (BitVec.ofInt 64 ((dP blk l).length:Int)).toNat) (i:(dP blk l).length<=2000) (e:L=R++W) (f:I=N++L):I=(cD root h l blk every bits).idx:=by
 rw [aDh om] at a;rw [f,a,e,c,g]; rfl
def bAg {I X:List Y} (c:I=(cD root h l blk every bits).idx) (a:X=kB (fF root (aU h)) (fG root (aU h)) (iQ (BitVec.ofInt 64 ((0:Nat):Int))) (aU h) I):X=(cD root h l blk every bits).sidx:=by
 unfold Tab.sidx; rw [a,c]; rfl
def bAY {O F S c a L:List Y} {z:Int} (g:O=(cD root h l blk every bits).out (dP blk l).length) (j:F=(cD root h l blk every bits).filt) (f:S=(cD root h l blk every bits).sidx) (m:c=O++F) (k:a=c++S) (e:z=(S.length:Int)) (i:L=a++cM (BitVec.ofInt 64 z) 8):L=(cD root h l blk every bits).bytes:=by
 rw [i,k,m,e,g,j,f]; rfl
def bAc {L:List Y} {f e c:List Dg} {F S:List Y} {x y:Ent} (i:L=(cD root h l blk every bits).bytes) (r:f=(cD root h l blk every bits).lvs (dP blk l).length) (j:F=(cD root h l blk every bits).filt) (g:S=(cD root h l blk every bits).sidx) (q:e=f++[gB F]) (p:c=e++[gB S]) (v:l[0]? = some x) (t:l[l.length-1]? = some y) :
  [V h.level,uv .u64 h.gen,uv .u64 h.epoch,uv .u64 h.num,.int .i64 (L.length:Int),.int .i64 (l.length:Int),.string x.user,.string y.user]++ba 32 (fH c)=(cD root h l blk every bits).info.cells:=by
 have a:(cD root h l blk every bits).ents=l:=oB _ _;have n:c=(cD root h l blk every bits).leaves:=by rw [p,q,r,j,g]; rfl
 have m:kK l=x.user:=by simp_all[kK]
 have k:gR l=y.user:=by simp_all[gR]
 rw [n,i,←m,←k];conv=>lhs; rw [show (l.length:Int)=((cD root h l blk every bits).ents.length:Int) by rw [a],show kK l=kK (cD root h l blk every bits).ents by rw [a],show gR l=gR (cD root h l blk every bits).ents by rw [a]]
 rfl
end
def aK1 {a b c d e f g i:Value} {w:Nat->Y}:([a,b,c,d,e,f,g,i]++ba 32 w).length=40:=by rfl
theorem bBE (cs:List (List Ent)) (k:Nat):((cs.take k).flatten.map (·.user)).length<=cs.flatten.length:=by grind[aHL]
def aAS (p:RowT×Sh):List Value:=[.string (aQ p.1.bound),p.2.val p.1.bytes.length]++ba 32 p.1.leaf
def aAT {p:RowT×Sh}:(aAS p).length=34:=by rfl
def aYF {p:RowT×Sh}:((aAS p).drop 2).take 32=ba 32 p.1.leaf:=by
 rfl
def aYG (p:RowT×Sh):∀ u∈aAS p,u.oneCell'=true:=uE (oH rfl rfl) (pE _ _)
structure RdrR (G:PM) (h:Hd) (ps:List (RowT×Sh)) (ix:List Y) (ha hr hi:Sh):Prop where
 ad:SlR G 1 aH ha (aU h)
 rows:SlR G 34 aAS hr ps
 each:∀ p∈ps,SlR G 1 aH p.2 p.1.bytes
 ix:SlR G 1 aH hi ix
 sm:∀ p∈ps,p.1.bytes.length≤1000000
 len:ps.length≤999990
def RdrR.mono {G i:PM} {h:Hd} {c:List (RowT×Sh)} {ix:List Y} {g e f:Sh} (r:RdrR G h c ix g e f) (a:PM.le G i):RdrR i h c ix g e f :=
 ⟨r.ad.mono a,r.rows.mono a,fun p j=>(r.each p j).mono a,r.ix.mono a,r.sm,r.len⟩
theorem aF5 {a:List (RowT×Sh)} {rows:List RowT} {p:RowT×Sh} (e:a.map (·.1)=rows) (c:a[i]? = some p):rows.getD i pP=p.1:=by
 grind
section
variable {root:Nat→Y} {h:Hd} {x:RowT} {part i:Nat} {L:List Y} {rows:List RowT} {l:List Ent}
def bBX (a:lJ root h x part=some L):decide (yl 32 (gB x.bytes)=yl 32 x.leaf)=true:=by
 simp_all[lJ]
def aOC (a:lJ root h x part=some L):wG root h part x.bytes=some L:=by
 simp_all[lJ]
def aOB (a:lJ root h x part=some L):L.length<=x.bytes.length:=by
 have:=(aMd (aOC a)).2.2;omega
theorem aJD (a:vN root h rows i=some l):∃ y,lJ root h (rows.getD i pP) (2+i)=some y∧nR y=(l,0):=by
 unfold vN at a;cases c:lJ root h (rows.getD i pP) (2+i) with
 | none=>simp_all
 | some y =>
  grind
end
def Tk.got {a:α} {s:Rd'} {bad:Bool} {k:List Y->Option α} (h:Tk (some a) s bad k):s.bad=0∧some a=k s.rest:=by
 simp_all[Tk]
theorem Tk.put {a:α} {r:List Y} {k:List Y->Option α} (h:k r=some a):Tk (some a) ⟨r,0⟩ false k:=.inl ⟨rfl,rfl,h.symm⟩
def kkT (b:List Y):Nat:=(eA (b.drop (b.length-8)) 8).toNat
def aBw (b:List Y):List Y:=(b.drop 30).take (b.length-38)
theorem aXy {b:List Y} (h:38<=b.length):(aBw b).length=b.length-38:=by grind[aBw]
structure BegR (root:Nat→Y) (m:Meta) (b:List Y) (rows:List RowT) (ix:List Y):Prop where
 take:mY b=(dV m,0)
 size:(b.length:Int)=m.size
 long:38≤b.length
 kk:kkT b≤b.length-38
 eix:ix=(aBw b).drop (b.length-38-kkT b)
 opn:∃ y,wG root (dV m) 0 ix=some y∧(eJ fun n r=>if 0<n then gT (n+1) [] ((aBw b).take (b.length-38-kkT b)) r else none) y=some rows
 root:(yl 32 (fH (rows.map (·.leaf)++[gB ix]))).map (fun y=>((y.toNat:Nat):Int))=(List.range 32).map m.root
theorem aIS {root:Nat->Y} {b:List Y} {rows:List RowT} {ix:List Y} (h:rU root m b=some (rows,ix)):BegR root m b rows ix:=by
 unfold rU at h;split at h
 ·rename_i c;obtain ⟨l,k,j,i,g⟩:=c;simp only at h;cases e:wG root (dV m) 0 (((b.drop 30).take (b.length-38)).drop (b.length-38-(eA (b.drop (b.length-8)) 8).toNat)) with
  | none=>simp_all
  | some y =>
   rw [e,qu] at h;cases a:(eJ fun n r=>if 0<n then gT (n+1) [] (((b.drop 30).take (b.length-38)).take (b.length-38-(eA (b.drop (b.length-8)) 8).toNat)) r else none) y with
   | none=>simp_all
   | some rs =>
    rw [a,qu] at h;split at h
    ·rename_i f;simp only [Option.some.injEq,Prod.mk.injEq] at h;obtain ⟨rfl,rfl⟩:=h;exact ⟨Prod.ext j l,k,i,g,rfl,⟨y,e,a⟩,f⟩
    grind
 grind
theorem aYD (a:m.wf) {d:Dg} (h:(yl 32 d).map (fun y=>((y.toNat:Nat):Int))=(List.range 32).map m.root):yl 32 d=yl 32 (fun i=>BitVec.ofInt 8 (m.root i)):=by
 have e:∀ i,i<32->d i=qk 8 (m.root i):=fun i c=>by
  have:=congrArg (fun z=>z[i]?) h;grind[yl]
 exact aEI e
theorem aYB (a:m.wf):(m.cells.drop 8).take 32=ba 32 (fun i=>BitVec.ofInt 8 (m.root i)):=by
 have e:m.cells=[.int .u8 m.level,.int .u64 m.gen,.int .u64 m.epoch,.int .u64 m.number,.int .i64 m.size,.int .i64 m.count,.string m.min,.string m.max]++(qg 32).map fun i=>.int .u8 (m.root i):=rfl;rw [e];show ((qg 32).map fun i=>Value.int .u8 (m.root i)).take 32=_;rw [wd (by simp)];unfold ba;refine List.map_congr_left fun i c=>?_;have:=a.root i (by simp_all);show Value.int .u8 (m.root i)=.int .u8 ((qk 8 (m.root i)).toNat:Int);grind[zi]
section
variable {rows acc:List RowT} {rest r:List Y} {n k:Nat}
def aYJ {a:α} {f:List Y->Nat->Dg->List Y->Option α} (h:wO false f r=some a):Tk (some a) ⟨r,0⟩ false (uG 1024 fun bd=>eJ fun size=>nQ mB 32 fun xs=>f bd size (fun i=>xs.getD i 0)):=Tk.put h
def aYH {a:α} {f:List Y->Nat->Dg->List Y->Option α} (h:wO true f r=some a):Tk (some a) ⟨r,0⟩ false (eJ fun size=>nQ mB 32 fun xs=>f [] size (fun i=>xs.getD i 0)):=Tk.put h
def aGd (h:gT (n+1) acc rest r=some rows):wO (n == 0) (fun bd size d r=>if size<=rest.length then gT n (acc++[⟨bd,rest.take size,d⟩]) (rest.drop size) r else none) r=some rows:=h
def aYL {s:Rd'} {bad:Bool} {size:Nat} {bd:List Y} {d:Dg} (h:Tk (some rows) s bad (fun r=>if size<=rest.length then gT n (acc++[⟨bd,rest.take size,d⟩]) (rest.drop size) r else none)) :
  s.bad=0∧size<=rest.length∧gT n (acc++[⟨bd,rest.take size,d⟩]) (rest.drop size) s.rest=some rows:=by
 simp_all[Tk]
theorem aMJ (h:gT 0 acc rest r=some rows):r=[]∧rest=[]∧acc=rows:=by
 simp_all[gT]
end
structure AllB (G:PM) (ps:List (RowT×Sh)):Prop where
 each:∀ p∈ps,SlR G 1 aH p.2 p.1.bytes
 sm:∀ p∈ps,p.1.bytes.length≤1000000
def AllB.mono {G e:PM} {c:List (RowT×Sh)} (h:AllB G c) (a:PM.le G e):AllB e c:=⟨fun p f=>(h.each p f).mono a,h.sm⟩
theorem AllB.nil {G:PM}:AllB G []:=⟨fun p a=>(by cases a),fun p a=>(by cases a)⟩
def AllB.snoc {G:PM} {c:List (RowT×Sh)} {p:RowT×Sh} (h:AllB G c) (e:SlR G 1 aH p.2 p.1.bytes) (f:p.1.bytes.length<=1000000):AllB G (c++[p]) :=
 ⟨fun q a=>by
  rcases qn.1 a with a | a
  ·exact h.each q a
  simp_all,fun q a=>by
  rcases qn.1 a with a | a
  ·exact h.sm q a
  simp_all⟩
def aQj {a b:Int} {h:Hd} (e:a=b) (c:38<=a):(((a == b)&&((0:Int) == 0))&&decide (h=h)&&decide (a>=38))=true:=by simp_all
def aQk {rows:List RowT} {A r:List Y} (h:some rows=if 0<n then gT (n+1) [] A r else none):0<n∧gT (n+1) [] A r=some rows:=by
 simp_all
section
variable {rows acc:List RowT} {A R:List Y} {n k:Nat}
def aGb (n:Nat) (acc:List RowT) (A:List Y) (bd:List Y) (size:Nat) (d:Dg) (r:List Y):Option (List RowT):=if size<=A.length then gT n (acc++[⟨bd,A.take size,d⟩]) (A.drop size) r else none
def aQl (h:gT (n+1-k) acc A R=some rows) (c:k<n):Tk (some rows) ⟨R,0⟩ false (uG 1024 fun bd=>eJ fun size=>nQ mB 32 fun xs=>aGb (n-k) acc A bd size (fun i=>xs.getD i 0)):=by
 rw [show n+1-k=(n-k)+1 by omega] at h;have a:=aGd h;rw [show (n-k == 0)=false from beq_eq_false_iff_ne.2 om] at a;exact aYJ a
def aQi (h:gT (n+1-k) acc A R=some rows) (e:¬ k<n) (c:k<=n):Tk (some rows) ⟨R,0⟩ false (eJ fun size=>nQ mB 32 fun xs=>aGb (n-k) acc A [] size (fun i=>xs.getD i 0)):=by
 rw [show n+1-k=(n-k)+1 by omega] at h;have a:=aGd h;rw [show (n-k == 0)=true from beq_iff_eq.2 om] at a;exact aYH a
def aIT {s:Rd'} {size:Nat} {bd a:List Y} {f:Nat->Y} (c:∀ i,f i=a.getD i 0) (h:Tk (some rows) s false (aGb (n-k) acc A bd size (fun i=>a.getD i 0))) :
  s.bad=0∧size<=A.length∧gT (n+1-(k+1)) (acc++[⟨bd,A.take size,f⟩]) (A.drop size) s.rest=some rows:=by
 have:=aYL h;rw [show n+1-(k+1)=n-k by omega,show f=fun i=>a.getD i 0 from funext c];omega
end
theorem aIa {L a:List Y} {e c:Int} {y:Y} (h:kR ⟨L,e⟩=(y,⟨a,c⟩)):a.length<=L.length∧(c=0->e=0∧a.length+1<=L.length):=by
 unfold kR at h;grind
def yJ (bd:List Y) (v:Value) (f:Nat->Y):List Value:=[.string (aQ bd),v]++ba 32 f
def aAV {bd:List Y} {v:Value} {f:Nat->Y}:(yJ bd v f).length=34:=by rfl
def aMW {bd:List Y} {v:Value} {f:Nat->Y}:((yJ bd v f).drop 2).take 32=ba 32 f:=by
 rfl
def aMX {bd:List Y} {v:Value} {f:Nat->Y} {m:Nat} {z:Y} (hm:m=2+k):(yJ bd v f).set m (V z)=yJ bd v (bA f k z):=by
 subst hm;unfold yJ;rw [ke _ _ (by simp),show 2+k-([Value.string (aQ bd),v]:List Value).length=0+(k:Int).toNat*1 by simp,mH k om]
theorem aYK {j rows:List RowT} {rest r:List Y} (h:gT (n+1) j rest r=some rows):∃ g c d e,gT n (j++[⟨g,rest.take c,d⟩]) (rest.drop c) e=some rows:=by
 have p:∀ {k:Type} {a:k} {last:Bool} {f:List Y->Nat->Dg->List Y->Option k} {r:List Y},wO last f r=some a->∃ g c d e,f g c d e=some a:=by
  intro k a last f r h;have q:∀ {g:List Y} {r:List Y},(eJ fun c=>nQ mB 32 fun l=>f g c (fun i=>l.getD i 0)) r=some a->∃ g c d e,f g c d e=some a:=by
   intro g r h;obtain ⟨c,t,_,_,h⟩:=wF h;have v:∀ (m:Nat) (K:List Y->List Y->Option k) (r:List Y),nQ mB m K r=some a->∃ l e,K l e=some a:=by
    intro m;induction m with
    | zero=>intro K r h; exact ⟨[],r,h⟩
    | succ m ih =>
     intro K r h;obtain ⟨x,e,_,h⟩:=aQ6 h;grind
   grind
  unfold wO at h;cases last with
  | true=>exact q h
  | false =>
   simp only [jj,if_false] at h;obtain ⟨g,e,_,_,h⟩:=aZl h;exact q h
 obtain ⟨g,c,d,e,w⟩:=p (aGd h);grind
theorem aMI:∀ {n:Nat} {acc rows:List RowT} {rest r:List Y},gT n acc rest r=some rows->rows.length=acc.length+n
 | 0,acc,rows,rest,r,h=>by grind[aMJ]
 | n+1,acc,rows,rest,r,h=>by
  obtain ⟨bd,size,d,r',h2⟩:=aYK h;have:=aMI h2;rw [this,qa]; simp; omega
def aQc {root:Nat->Y} {b:List Y} {rows:List RowT} {ix:List Y} (h:rU root m b=some (rows,ix)):2<=rows.length:=by
 obtain ⟨y,_,a⟩:=(aIS h).opn;obtain ⟨n,r,_,_,a⟩:=wF a;split at a
 ·have:=aMI a;omega
 ·cases a
theorem aLd (every:Nat) (l:List Ent):∀ k,k<=(fV every l k).length
 | 0=>Nat.zero_le _
 | k+1=>by
  have:=aLd every l k;have a:=aGI (lF (qJ l k) (dA (l.getD k Ent.zero)) (k%every == 0));unfold fV qB;simp only [qa]; omega
theorem aXw {y:List Y} (h:nR y=(l,0)):l.length<=y.length:=by
 unfold nR at h;split at h
 ·rename_i g c;simp only [Prod.mk.injEq,and_true] at h;subst h;obtain ⟨a,r,_,_,c⟩:=wF c;obtain ⟨n,e,_,_,c⟩:=wF c;split at c
  ·cases f:jF n [] [] e with
   | none=>simp_all
   | some l2 =>
    rw [f,qu] at c;grind[gP,gY,aLd]
  ·cases c
 simp_all
theorem aP4 {root:Nat->Y} {b:List Y} (h:pX root m b=some l) :
  ∃ rows ix f,rU root m b=some (rows,ix)∧lJ root (dV m) (rows.getD (rows.length-1) pP) 1=some f∧nB root (dV m) rows (rows.length-1) 0 []=some l∧(cA l=true∧(l.length:Int)=m.count∧(l=[]∨kK l=m.min∧gR l=m.max)):=by
 unfold pX at h;cases c:rU root m b with
 | none=>simp_all
 | some p =>
  obtain ⟨rows,ix⟩:=p;rw [c,qu] at h;simp only at h;cases a:lJ root (dV m) (rows.getD (rows.length-1) pP) 1 with
  | none=>simp_all
  | some f =>
   rw [a,qu] at h;cases e:nB root (dV m) rows (rows.length-1) 0 [] with
   | none=>simp_all
   | some l2 =>
    grind
theorem aPt {root:Nat->Y} {hd:Hd} {rows:List RowT} {a:List Ent} (f:j<n) (h:nB root hd rows (n-j) j a=some l):∃ x,vN root hd rows j=some x∧nB root hd rows (n-(j+1)) (j+1) (a++x)=some l:=by
 obtain ⟨m,c⟩ : ∃ m,n-j=m+1:=⟨n-j-1,om⟩;rw [c,nB] at h;cases e:vN root hd rows j with
 | none=>simp_all
 | some x =>
  grind
def aPs {root:Nat->Y} {hd:Hd} {rows:List RowT} {a:List Ent} (c:n<=k) (h:nB root hd rows (n-k) k a=some l):a=l:=by
 simp_all[nB]
theorem aS5:∀ u∈l.flatMap Ent.cells,u.oneCell'=true:=fun u a=>by
 grind[Ent.one]
def aPz (h:cA l=true∧(l.length:Int)=m.count∧(l=[]∨kK l=m.min∧gR l=m.max)) :
  (cA l&&((l.length:Int) == m.count)&&(((l.length:Int) == 0)||(((l.getD 0 Ent.zero).user.toList == m.min.toList)&&((l.getD (l.length-1) Ent.zero).user.toList == m.max.toList))))=true:=by
 obtain ⟨e,c,a⟩:=h;rw [e,c];rcases a with rfl | ⟨a,f⟩
 ·simp_all
 simp_all[kK,gR]
theorem aT4 {t:Tab} (o:t.Ok):t.info.wf:=by
 have f:=o.bytes_le;have c:=o.light;have a:∀ i,(t.ents.getD i Ent.zero).user.size<=50000:=fun i=>by
  by_cases h:i<t.ents.length
  ·have:=yO h; have:=c.2; omega
  rw [wc,List.getElem?_eq_none om]; decide
 have k:=a 0;have g:=a (t.ents.length-1);have p:=t.h.level.isLt; have n:=t.h.gen.isLt; have m:=t.h.epoch.isLt; have l:=t.h.num.isLt;have b1:=c.1;refine ⟨⟨?_,?_⟩,⟨?_,?_⟩,⟨?_,?_⟩,?_,?_,⟨?_,?_⟩,⟨?_,?_⟩,⟨?_,?_⟩,fun j e=>?_⟩;all_goals first
  | (show (kK t.ents).size<=_; grind[kK])
  | (show (gR t.ents).size<=_; grind[gR])
  |skip
 all_goals simp only [Tab.info]
 all_goals first
  |omega
  | (have:=(fH t.leaves j).isLt; omega)
section
variable {root:Nat→Y} {h:Hd} {l:List Ent} {blk every bits er:Int} {L:List Y} {m:Meta}
theorem aG5 (a:oY root h l blk every bits L m er) (f:lightE l) (j:er=0) :
  m.wf∧L.length<=1000000∧pX root m L=some l∧m.size=(L.length:Int)∧m.count=(l.length:Int):=by
 rcases a with a | ⟨c,rfl,rfl,_⟩
 ·omega
 ·have g:=aFe (root:=root) (bits:=bits) c f;have i:(cD root h l blk every bits).ents=l:=oB _ _;have e:=aP3 g;rw [i] at e;exact ⟨aT4 g.ok,g.ok.bytes_le,e,rfl,by grind[Tab.info]⟩
end
def aFP {nm:ByteArray}:∀ {F:List Fi} {f:Fi},aJ nm F=some f->aJ nm (dF nm F)=some { f with safe:=f.n }
 | [],_,h=>by cases h
 | g :: r,f,h=>by
  rw [aJ] at h; rw [dF];by_cases q:g.nm=nm
  ·simp_all[aJ]
  ·rw [if_neg q] at h; rw [if_neg q,aJ,if_neg q]; exact aFP h
theorem zP {nm a:ByteArray} (c:a≠nm):∀ {F:List Fi},aJ a (dF nm F)=aJ a F
 | []=>rfl
 | g :: r=>by
  rw [dF];by_cases q:g.nm=nm
  ·rw [if_pos q,aJ,aJ,if_neg (show ¬ g.nm=a from fun e=>c (by simp_all)),if_neg (show ¬ g.nm=a from fun e=>c (by simp_all))]
  ·rw [if_neg q,aJ,aJ,zP c]
theorem aDG {nm:ByteArray} {f:Fi} (a:f.nm≠nm):∀ {F:List Fi},aJ nm (F++[f])=aJ nm F
 | []=>by simp_all[aJ]
 | g :: r=>by
  rw [List.cons_append,aJ,aJ];by_cases q:g.nm=nm
  ·rw [if_pos q,if_pos q]
  ·rw [if_neg q,if_neg q]; exact aDG a
def eV (d:Db) (lv:Nat) (n:BitVec 64):Hd:=⟨2#8,qk 8 (lv:Int),qk 64 (d.s.gens lv),d.ep,n⟩
def sT (a:k=1∨k=2∨k=3) (h:n<18446744073709551616):eC (nG k n):=by
 have c:=aE6 h;rcases a with rfl|rfl|rfl
 ·rw [← nG1 rfl,eC,fJ,qa,iE];rw [bM]; show (fN n).length+4≠0∧(fN n).length+4<=100; omega
 ·rw [← nG2 rfl,eC,fJ,qa,iE];rw [bM]; show (fN n).length+4≠0∧(fN n).length+4<=100; omega
 ·rw [← nG3 rfl,eC,fJ,qa,iE];rw [bM]; show 9+(fN n).length≠0∧9+(fN n).length<=100; omega
structure TabsR (G:PM) (d:Db) (lv:Nat) (n:BitVec 64) (ls:List (List Ent)) (ms:List Meta) (F F':List Fi) (clk:Nat) (sz:Nat):Prop where
 len:ms.length=ls.length
 tab:∀ i l m,ls[i]? = some l→ms[i]? = some m→∃ L f,oY d.root (eV d lv (n+BitVec.ofNat 64 i)) l d.o.block d.o.every d.o.bits L m 0∧aJ (nG 2 (n.toNat+i)) F'=some f∧f.n=L.length∧f.safe=f.n∧SlR G 1 aH f.h L
 old:∀ nm,(∀ i,i<ls.length→nm≠nG 2 (n.toNat+i))→aJ nm F'=aJ nm F
 dk:DkR F' (clk+ls.length)
 cnt:F'.length=F.length+ls.length
 size:aV F'=aV F+sz
 fil:∀ f∈F',(∃ g∈F,f.h=g.h∧f.n=g.n)∨∃ xs:List Y,SlR G 1 aH f.h xs∧f.n=xs.length
theorem aJr {nm:ByteArray}:∀ {F:List Fi} {f:Fi},f∈dF nm F->∃ g∈F,f.h=g.h∧f.n=g.n
 | [],_,h=>by cases h
 | g :: r,f,h=>by
  rw [dF] at h;split at h
  ·grind
  ·rcases List.mem_cons.1 h with rfl | h
   ·simp
   ·obtain ⟨g',h1,h2⟩:=aJr h; exact ⟨g',qj _ h1,h2⟩
theorem TabsR.nil {G:PM} {d:Db} {a:Nat} {n:BitVec 64} (e:DkR F clk):TabsR G d a n [] [] F F clk 0 :=
 ⟨rfl,fun i l m h=>by simp,fun _ _=>rfl,e,rfl,rfl,fun f c=>.inl ⟨f,c,rfl,rfl⟩⟩
def TabsR.mono {G j:PM} {d:Db} {g:Nat} {n:BitVec 64} {ls:List (List Ent)} {ms:List Meta} {F k:List Fi} {clk sz:Nat} (h:TabsR G d g n ls ms F k clk sz) (a:PM.le G j):TabsR j d g n ls ms F k clk sz :=
 ⟨h.len,fun i l m e c=>by obtain ⟨L,f,x,w,v,t,r⟩:=h.tab i l m e c; exact ⟨L,f,x,w,v,t,r.mono a⟩,h.old,h.dk,h.cnt,h.size,fun f q=>(h.fil f q).imp id fun ⟨p,e,c⟩=>⟨p,e.mono a,c⟩⟩
theorem TabsR.snoc {G:PM} {d:Db} {x:Nat} {n:BitVec 64} {ls:List (List Ent)} {ms:List Meta} {q:List Fi} {L:List Y} (p:TabsR G d x n ls ms F q clk sz) (J:k=ls.length) (Q:n.toNat+k<18446744073709551616) (O:oY d.root (eV d x (n+BitVec.ofNat 64 k)) l d.o.block d.o.every d.o.bits L m 0) (I:SlR G 1 aH h L) (v:aJ (nG 2 (n.toNat+k)) q=none) (K:eC (nG 2 (n.toNat+k))) (H:aV q+L.length<=1000000000) (N:q.length<100000) :
  TabsR G d x n (ls++[l]) (ms++[m]) F (dF (nG 2 (n.toNat+k)) (q++[⟨nG 2 (n.toNat+k),h,L.length,0,clk+k⟩])) clk (sz+L.length):=by
 subst J;have A:aJ (nG 2 (n.toNat+ls.length)) (q++[⟨nG 2 (n.toNat+ls.length),h,L.length,0,clk+ls.length⟩])=some ⟨nG 2 (n.toNat+ls.length),h,L.length,0,clk+ls.length⟩:=aBM v rfl;refine ⟨by rw [qa,qa,p.len]; rfl,fun i E D j w=>?_,fun nm r=>?_,?_,?_,?_,?_⟩
 ·by_cases C:i=ls.length
  ·subst C;rw [kx (qc _),jr] at j;rw [kx (by rw [p.len]; omega),p.len,jr] at w;cases j; cases w;exact ⟨L,_,O,aFP A,rfl,rfl,I⟩
  have y:i<ls.length:=by
   grind
  rw [ym y] at j;rw [ym (by rw [p.len]; omega)] at w;obtain ⟨L1,X,a1,a2,a3,a4,Z⟩:=p.tab i E D j w;grind[aAN,zP,aDG]
 ·have t:nm≠nG 2 (n.toNat+ls.length):=r _ (by simp);rw [zP t,aDG (fun e=>t e.symm)];exact p.old nm fun i C=>r i (by grind)
 ·rw [qa,wy,←zh];exact (p.dk.app rfl H v K.2 N).sy
 ·have j:=congrArg wm (zT (nm:=nG 2 (n.toNat+ls.length)) (F:=q++[⟨nG 2 (n.toNat+ls.length),h,L.length,0,clk+ls.length⟩]));simp only [qw] at j;rw [j,qa,qa,p.cnt,wy,wy]; omega
 ·rw [xK.1,aAc,p.size]; grind[aV]
 intro f M;obtain ⟨g,j,w,S⟩:=aJr M;rcases qn.1 j with j | j
 ·rcases p.fil g j with ⟨T,a,b,c⟩ | ⟨P,a,b⟩
  ·grind
  grind
 grind
def yA {n:BitVec 64} (h:n.toNat+k<18446744073709551616):(n+BitVec.ofNat 64 k).toNat=n.toNat+k:=by
 simp_all
def aR8 (d:Db):d = { d with next:=d.next+BitVec.ofNat 64 0 }:=by
 simp
def aWg {n:BitVec 64}:n+BitVec.ofNat 64 k+1#64=n+BitVec.ofNat 64 (k+1):=by
 rw [BitVec.add_assoc,BitVec.ofNat_add]
theorem aJQ {root:Nat->Y} {h:Hd} {blk every bits a:Int} {L:List Y} (e:oY root h l blk every bits L m a) (c:¬ mJ h l blk every):a=0:=by
 grind[oY]
def rJ (d:Db) {o:Nat} (h:k<5) (a:o=51+k):d.cells[o]? = some (.int .u64 (d.s.gens k)):=by
 subst a;match k,h with
 | 0,_=>rfl
 | 1,_=>rfl
 | 2,_=>rfl
 | 3,_=>rfl
 | 4,_=>rfl
def aAe {l:List α} {x:α} (h:l[k]? = some x):l.take (k+1)=l.take k++[x]:=by simp_all[we]
def kF (bnd:List Ent->Nat):List (List Ent)->Nat
 | []=>0
 | l :: r=>bnd l+kF bnd r
theorem aGx {bnd:List Ent->Nat} {a b:List (List Ent)}:kF bnd (a++b)=kF bnd a+kF bnd b:=by
 induction a<;>grind[kF]
theorem aZw {bnd:List Ent->Nat} {ls:List (List Ent)} (h:ls[k]? = some l):kF bnd (ls.take k)+bnd l<=kF bnd ls:=by
 have a:kF bnd (ls.take (k+1))+kF bnd (ls.drop (k+1))=kF bnd ls:=by grind[aGx,wn]
 rw [aAe h,aGx] at a;grind[kF]
def aF0 {a:List Pe} {p:Pe} (h:a[k]? = some p):(aO a)[k]? = some p.2:=by simp_all
def aAB {a:List Pe} (h:k<=a.length):((aO a).take k).length=k:=by simp_all
def lV {d:Db} {a:Nat} {n:BitVec 64} (h:a<5) (c:u64 (d.s.gens a)):(eV d a n).cells=[.int .u8 2,.int .u8 (a:Int),.int .u64 (d.s.gens a),uv .u64 d.ep,uv .u64 n]:=by
 rw [uvI c];match a,h with
 | 0,_=>rfl
 | 1,_=>rfl
 | 2,_=>rfl
 | 3,_=>rfl
 | 4,_=>rfl
section
variable {mc:Md} {P:Program} {n:Fm} {l:List Oper} {K:aF→PM→aB→Prop} {m:Nat} {listed:Array Bool} {ρ:aF} {G:PM} {μ:aB}
theorem Wp.b4 (j e c a:Nat) (i:cJ l listed=[j,e,c,a]) (h:Wo true mc P n l (fun ρ' G' μ'=>Wp mc P n l K m (listed.setIfInBounds j true) ρ' G' μ') [j] ρ G μ)
  (h2:Wo true mc P n l (fun ρ' G' μ'=>Wp mc P n l K m (listed.setIfInBounds e true) ρ' G' μ') [e] ρ G μ) (h3:Wo true mc P n l (fun ρ' G' μ'=>Wp mc P n l K m (listed.setIfInBounds c true) ρ' G' μ') [c] ρ G μ)
  (k:Wo true mc P n l (fun ρ' G' μ'=>Wp mc P n l K m (listed.setIfInBounds a true) ρ' G' μ') [a] ρ G μ):Wp mc P n l K (m+1) listed ρ G μ :=
 .inr (.inl ⟨by simp_all,fun g f=>by
  grind⟩)
end
def zA (l:List Ent):Nat:=2*bO l+150*l.length+170
theorem bAd {root:Nat->Y} {h:Hd} {blk every bits:Int} {L:List Y} (c:oY root h l blk every bits L m 0) (a:lightE l):0<L.length∧L.length<=zA l:=by
 rcases c with c | ⟨f,rfl,rfl,_⟩
 ·omega
 ·have g:=aFe (root:=root) (bits:=bits) f a;have e:(cD root h l blk every bits).cs.flatten=l:=oB blk l;generalize (cD root h l blk every bits)=t at g e ⊢;have k:=g.ok.out_le _ (qc _);have j:=g.ok.rows_le _ (qc _);rw [qz,e] at k j;have y:=g.ok.cs_le;have x:=aEu t.users;have w:t.users.length=l.length:=by simp_all[Tab.users,Tab.ents]
  have i:=aDo t.bits;have v:(iU t.users).length*fR t.bits<=l.length*64:=Nat.mul_le_mul om i.2;have r:t.filt.length<=8*l.length+25:=by grind[Tab.filt,aAX,aF3]
  have q:=iJ (n:=t.cs.length) om;have p:=iJ (n:=t.filt.length) (by have:=a.1; omega);grind[Tab.idx,jO,bL,Tab.bytes,Tab.sidx,zA,aAX,jJ]
def jI:List Int->List Fi->List Fi
 | [],F=>F
 | x :: r,F=>jI r (dQ (nG 2 x.toNat) F)
def aJU:∀ {xs:List Int} {x:Int} {F:List Fi},jI (xs++[x]) F=dQ (nG 2 x.toNat) (jI xs F)
 | [],_,_=>rfl
 | y :: r,x,F=>by rw [List.cons_append,jI,jI]; exact aJU
def aTC {xs:List Int} {x:Int} (h:xs[k]? = some x):jI (xs.take (k+1)) F=dQ (nG 2 x.toNat) (jI (xs.take k) F):=by rw [aAe h,aJU]
theorem xI {nm a:ByteArray} (c:a≠nm):∀ {F:List Fi},aJ a (dQ nm F)=aJ a F
 | []=>rfl
 | g :: r=>by
  rw [dQ];by_cases q:g.nm=nm
  ·rw [if_pos q,aJ,if_neg (show ¬ g.nm=a from fun e=>c (by simp_all))]
  ·rw [if_neg q,aJ,aJ,xI c]
def aFO {nm:ByteArray}:∀ {xs:List Int} {F:List Fi},(∀ y∈xs,nm≠nG 2 y.toNat)->aJ nm (jI xs F)=aJ nm F
 | [],_,_=>rfl
 | x :: r,F,h=>by rw [jI,aFO fun y hy=>h y (List.mem_cons_of_mem _ hy),xI (h x (List.mem_cons_self ..))]
def aFL {nm:ByteArray}:∀ {F:List Fi},aV (dQ nm F)<=aV F
 | []=>Nat.le_refl _
 | g :: r=>by
  rw [dQ];split
  ·simp only [aV]; omega
  ·have:=aFL (nm:=nm) (F:=r); simp only [aV]; omega
def aFM:∀ {xs:List Int} {F:List Fi},aV (jI xs F)<=aV F∧(jI xs F).length<=F.length
 | [],_=>⟨Nat.le_refl _,Nat.le_refl _⟩
 | x :: r,F=>by
  have h:=aFM (xs:=r) (F:=dQ (nG 2 x.toNat) F);have c:=aFL (nm:=nG 2 x.toNat) (F:=F);have a:=(xH (nm:=nG 2 x.toNat) (F:=F)).2;exact ⟨by rw [jI]; omega,by rw [jI]; omega⟩
def xM (g:Gone):Int:=g.number
def aDF {nm:ByteArray}:∀ {F:List Fi} {f:Fi},aJ nm F=some f->f∈F
 | [],_,h=>by cases h
 | g :: r,f,h=>by
  rw [aJ] at h;split at h
  ·cases h; exact List.mem_cons_self ..
  ·exact List.mem_cons_of_mem _ (aDF h)
theorem aJa {f:Fi} (h:f∈F):f.n<=aV F:=by
 induction F with
 | nil=>cases h
 | cons g r ih =>
  simp only [aV];grind
def FilesR.dels {G:PM}:∀ {xs:List Int} {F:List Fi},FilesR G F->FilesR G (jI xs F)
 | [],_,h=>h
 | _ :: r,_,h=>FilesR.dels (xs:=r) h.del
theorem aJp {nm:ByteArray} {h:Sh} {n safe:Nat}:∀ {F:List Fi} {f:Fi},f∈jV nm h n safe F->(f.h=h∧f.n=n)∨f∈F
 | [],_,hf=>.inr hf
 | g :: r,f,hf=>by
  rw [jV] at hf;split at hf
  ·grind
  ·rcases List.mem_cons.1 hf with rfl | hf
   ·simp
   ·rcases aJp hf with h1 | h1
    ·exact .inl h1
    ·exact .inr (List.mem_cons_of_mem _ h1)
theorem FilesR.app {G:PM} {xs:List Y} (hF:FilesR G F) (e:SlR G 1 aH h xs) (g:n=xs.length):FilesR G (jH nm h n safe clk F):=fun f c=>by
 unfold jH at c;split at c
 ·rcases aJp c with ⟨a,i⟩ | a
  ·grind
  ·exact hF f a
 ·rcases qn.1 c with a | a
  ·exact hF f a
  grind
theorem aDE {nm:ByteArray}:∀ {F:List Fi},aJ nm F=none->dQ nm F=F
 | [],_=>rfl
 | g :: r,h=>by
  rw [aJ] at h;rw [dQ];split at h
  ·cases h
  ·rename_i q; rw [if_neg q,aDE h]
def DkR.delY (h:DkR F clk):DkR (dQ nm F) clk:=by
 cases e:aJ nm F with
 | none=>simp_all[aDE]
 | some f=>exact h.del e
def DkR.dels {clk:Nat}:∀ {xs:List Int} {F:List Fi},DkR F clk->DkR (jI xs F) clk
 | [],_,h=>h
 | _ :: r,_,h=>DkR.dels (xs:=r) h.delY
def aFa {nm:ByteArray}:∀ {F:List Fi},(dF nm F).length=F.length∧aV (dF nm F)=aV F
 | []=>⟨rfl,rfl⟩
 | g :: r=>by
  have h:=aFa (nm:=nm) (F:=r);rw [dF];split
  ·trivial
  simp_all[aV]
theorem aTE {a:ByteArray}:(aJ a (dF nm F)).isSome=(aJ a F).isSome:=by
 by_cases h:a=nm
 ·subst h;cases e:aJ a F with
  | none =>
   have:∀ {F:List Fi},aJ a F=none->aJ a (dF a F)=none:=by
    intro F;induction F with
    | nil=>intro h; exact h
    | cons g r ih =>
     intro h;rw [aJ] at h;split at h
     ·cases h
     simp_all[dF,aJ]
   simp_all
  | some f=>simp[*,aFP]
 grind[zP]
def aJW {nm:ByteArray} {h:Sh} {n safe:Nat}:∀ {F:List Fi} {f:Fi},aJ nm F=some f->∃ f',aJ nm (jV nm h n safe F)=some f'∧f'.h=h∧f'.n=n
 | [],_,e=>by cases e
 | g :: r,f,e=>by
  rw [aJ] at e; rw [jV];by_cases q:g.nm=nm
  ·simp_all[aJ]
  ·rw [if_neg q] at e; rw [if_neg q,aJ,if_neg q]; exact aJW e
theorem aJX {nm a:ByteArray} {h:Sh} {n safe:Nat} (c:a≠nm):∀ {F:List Fi},aJ a (jV nm h n safe F)=aJ a F
 | []=>rfl
 | g :: r=>by
  rw [jV];by_cases q:g.nm=nm
  ·rw [if_pos q,aJ,aJ,if_neg (show ¬ g.nm=a from fun e=>c (by simp_all)),if_neg (fun e=>c (Eq.symm e))]
  ·rw [if_neg q,aJ,aJ,aJX c]
theorem aBN {a:ByteArray} (c:a≠nm):aJ a (jH nm h n safe clk F)=aJ a F:=by
 grind[jH,aJX,aDG]
def aTB:∃ f',aJ nm (jH nm h n safe clk F)=some f'∧f'.h=h∧f'.n=n:=by
 unfold jH;split
 ·rename_i q; obtain ⟨f,a⟩:=yt.1 q; exact aJW a
 simp_all[aBM]
def TabsR.files {G:PM} {d:Db} {c:Nat} {n:BitVec 64} {ls:List (List Ent)} {ms:List Meta} {a:List Fi} (h:TabsR G d c n ls ms F a clk sz) (hF:FilesR G F):FilesR G a:=fun f e=>by
 rcases h.fil f e with ⟨g,i,k,j⟩ | i
 ·simp_all[FilesR]
 omega
def rM (nm:ByteArray):Prop:=∀ n,nm≠nG 2 n
structure Stp (F F':List Fi) (D:List Int) (ad nw:Nat):Prop where
 tab:∀ n,(∀ x∈D,n≠x.toNat)→aJ (nG 2 n) F'=aJ (nG 2 n) F
 gone:∀ n,aJ (nG 2 n) F=none→aJ (nG 2 n) F'=none
 oth:∀ nm,rM nm→(aJ nm F).isSome=true→(aJ nm F').isSome=true
 size:aV F'≤aV F+ad
 cnt:F'.length≤F.length+nw
def Stp.refl:Stp F F [] 0 0:=⟨fun _ _=>rfl,fun _ h=>h,fun _ _ h=>h,qc _,qc _⟩
def Stp.trans {l i:List Fi} {D m:List Int} {a b:Nat} (h:Stp F l D a k) (e:Stp l i m b j):Stp F i (D++m) (a+b) (k+j) :=
 ⟨fun n c=>by rw [e.tab n fun x f=>c x (x8 _ f),h.tab n fun x f=>c x (wi _ f)],fun n c=>e.gone n (h.gone n c),fun g c p=>e.oth g c (h.oth g c p),by have:=h.size; have:=e.size; omega,by have:=h.cnt; have:=e.cnt; omega⟩
def Stp.same {c:List Fi} {D:List Int} {a:Nat} (h:Stp F c D a k) (e:c.length=F.length):Stp F c D a 0:=⟨h.tab,h.gone,h.oth,h.size,om⟩
def Stp.wk {c:List Fi} {D:List Int} {a b:Nat} (h:Stp F c D a k) (f:a<=b) (e:k<=j):Stp F c D b j:=⟨h.tab,h.gone,h.oth,by have:=h.size; omega,by have:=h.cnt; omega⟩
theorem Stp.sy (c:rM nm):Stp F (dF nm F) [] 0 0 :=
 ⟨fun n _=>zP fun e=>c n e.symm,fun n h=>by grind[zP,rM],fun a _ h=>by simp_all[aTE],by simp[aFa],by simp[aFa]⟩
theorem Stp.dels {xs:List Int}:Stp F (jI xs F) xs 0 0 :=
 ⟨fun n a=>aFO fun y c e=>a y c (aAN e),fun n h=>by
  induction xs generalizing F<;>grind[jI,aDE,xI],fun f a h=>by simp_all[aFO,rM],aFM.1,aFM.2⟩
theorem aSK (m:Nat):∀ {n:Nat} {a:List Y},n+(6-a.length)<=m->(∀ y∈a,y.toNat<=57)->∀ y∈lG n a,y.toNat<=57:=by
 induction m with
 | zero=>grind[xB]
 | succ m ih =>
  intro n a h e;by_cases c:0<n∨a.length<6
  ·have f:n / 10+(6-(qb 8 (48+n%10) :: a).length)<=m:=by
    grind
   rw [xD c];grind
  grind
def aI4:∀ y∈fN n,y.toNat<=57:=aSK _ (qc _) (fun y h=>absurd h qf)
def aOQ:yb ⟨#[46,108,111,103]⟩=[46#8,108#8,111#8,103#8]:=by kernel_rfl
def aOS:yb ⟨#[46,116,97,98]⟩=[46#8,116#8,97#8,98#8]:=by kernel_rfl
def aOR:yb ⟨#[109,97,110,105,102,101,115,116,45]⟩=[109#8,97#8,110#8,105#8,102#8,101#8,115#8,116#8,45#8]:=by kernel_rfl
def nO {a:Nat}:rM (nG 1 a):=fun b h=>by
 rw [← nG1 rfl,←nG2 rfl] at h;have c:=congrArg List.reverse (xA h);simp_all[aOQ,aOS]
theorem uB {a:Nat}:rM (nG 3 a):=fun b h=>by
 rw [← nG3 rfl,←nG2 rfl] at h;have h1:=xA h;rw [iE,iE,aOR,aOS] at h1;cases hd:fN b with
 | nil=>simp_all
 | cons y r =>
  rw [hd] at h1;have h3:(109#8:Y)=y:=Option.some.inj (congrArg (fun l:List Y=>l.head?) h1);have f:=aI4 (n:=b) y (by simp_all);grind
theorem aV8 {a b:Nat}:nG 3 a≠nG 1 b:=fun h=>by
 rw [← nG3 rfl,←nG1 rfl] at h;have h1:=xA h;rw [iE,iE,aOR,aOQ] at h1;cases hd:fN b with
 | nil=>simp_all
 | cons y r =>
  rw [hd] at h1;have h3:(109#8:Y)=y:=Option.some.inj (congrArg (fun l:List Y=>l.head?) h1);have f:=aI4 (n:=b) y (by simp_all);grind
def aXu {e:Int} {o:Option Fi} (h:e=0∧o.isSome=true∨e=2∧o=none) (c:(e != 0)=true):e=2∧o=none:=by
 simp_all
def aXt {e:Int} {o:Option Fi} (h:e=0∧o.isSome=true∨e=2∧o=none) (c:(e != 0)=false):∃ f,o=some f:=by
 simp_all[yt]
def aB9 {a:List Fi} {G:PM} (c:rM nm) (h:a=F∨a=dF nm F) (e:DkR F clk) (hF:FilesR G F):DkR a clk∧FilesR G a∧Stp F a [] 0 0:=by
 rcases h with rfl|rfl
 ·simp_all[Stp.refl]
 ·exact ⟨e.sy,hF.sy,Stp.sy c⟩
instance qoG {g:Gone}:QOne g.cells:=⟨oH rfl rfl⟩
instance qlG {g:Gone}:QLen g.cells 2:=⟨rfl⟩
def Nub (l:List Meta):Prop:=l.Pairwise fun a b=>a.number≠b.number
def Nub.perm {l c:List Meta} (h:Nub l) (e:l.Perm c):Nub c:=e.pairwise h fun a=>Ne.symm a
theorem Nub.same {l:List Meta} (h:Nub l) {a b:Meta} (f:a∈l) (c:b∈l) (e:a.number=b.number):a=b:=by
 induction l<;>grind[wz,Nub]
theorem aX5 {s:State} (f:RightP s) (h:i<5):Nub (s.lv i):=by
 have e:Nub (cS s 5):=by
  refine xb.2 fun a b j g c=>?_;have:=f.apart b a g c;grind
 have sub:∀ n,i<n->(s.lv i).Sublist (cS s n):=by
  intro n;induction n<;>grind[cS]
 grind[Nub]
theorem bAH {l:List Meta} (a:k<l.length):l.Perm (l.getD k Meta.zero :: (l.take k++l.drop (k+1))):=by
 grind[yr,wn,ye]
theorem aTz {p:Meta->Bool} {l:List Meta} (h:¬ fP p l<0):p (l.getD (fP p l).toNat Meta.zero)=true:=by
 grind[fP,yo]
theorem aSW {L a:cF} (h:gI g L=some a):g.level<5∧∃ m,m.number=g.number∧(L g.level.toNat).Perm (m :: a g.level.toNat)∧∀ i,i≠g.level.toNat->a i=L i:=by
 unfold gI at h;split at h
 ·rename_i f;split at h
  ·cases h
  rename_i c;simp only [Option.some.injEq] at h;subst h;refine ⟨f,(L g.level.toNat).getD (fP (iI g) (L g.level.toNat)).toNat Meta.zero,?_,?_,fun i e=>aD8 e⟩
  ·exact beq_iff_eq.1 (aTz c)
  grind[aHC,bAH,qD]
 grind
theorem aFA:∀ {gs:List Gone} {L L':cF},cQ gI gs L=some L'->∃ ps:List (Gone×Meta),ps.map (·.1)=gs∧(∀ p∈ps,p.2.number=p.1.number∧p.1.level<5)∧∀ i,(L i).Perm ((ps.filter (fun p=>p.1.level.toNat == i)).map (·.2)++L' i)
 | [],L,L',h=>by
  simp_all[cQ]
 | g :: gs,L,L',h=>by
  simp only [cQ] at h;cases hf:gI g L with
  | none=>simp_all
  | some L1 =>
   rw [hf] at h;obtain ⟨ps,h1,h2,h3⟩:=aFA (L:=L1) h;obtain ⟨j,m,f,a,e⟩:=aSW hf;refine ⟨(g,m) :: ps,by grind,fun p a=>?_,fun i=>?_⟩
   ·grind
   by_cases c:i=g.level.toNat
   ·subst c;rw [List.filter_cons_of_pos (by simp),wu,ww];exact a.trans ((h3 _).cons _)
   grind
theorem aWY {s:State} (c:RightP s):Nub (cS s 5):=by
 rw [Nub,xb];intro i j f e a;have:=c.apart j i e a;grind
theorem aUo {s:State} (k:RightP s) {y:List Gone} {L:cF} (h:cQ gI y s.lv=some L) (n:i<5) (hm:m∈L i):m∈s.lv i∧∀ g∈y,g.number≠m.number:=by
 obtain ⟨A,G,F,r⟩:=aFA h;have c:m∈s.lv i:=(r i).mem_iff.2 (x8 _ hm);refine ⟨c,fun g x E=>?_⟩;rw [← G] at x;obtain ⟨p,t,rfl⟩:=ql.1 x;obtain ⟨a,b⟩:=F p t;have j:p.2∈(A.filter (fun q=>q.1.level.toNat == p.1.level.toNat)).map (·.2):=ql.2 ⟨p,yh.2 ⟨t,by simp⟩,rfl⟩;have w:p.1.level.toNat<5:=by omega
 have f:p.2∈s.lv p.1.level.toNat:=(r _).mem_iff.2 (wi _ j);have e:=(aWY k).same (aF7.2 ⟨_,w,f⟩) (aF7.2 ⟨_,n,c⟩) (a.trans E);have D:=((k.lv _ w).1 _ f).1;have C:=((k.lv _ n).1 _ c).1;rw [e,C] at D;have l:i=p.1.level.toNat:=by omega
 have v:=(aX5 k n).perm (r i);rw [l] at v hm;have:=(yi.1 v).2.2 _ j _ hm;omega
def AppR.is {s X:State} (h:AppR s e X 0):RightP s∧RightP X∧e.add.length<=1024∧e.drop.length<=1024∧X.next=e.next∧X.log=e.log∧X.seq=e.seq∧X.least=e.least∧X.gens=e.gens∧∃ f,cQ gI e.drop s.lv=some f∧∀ i,i<5->(X.lv i).Perm (f i++e.add.filter (pY i)):=by
 rcases h with ⟨_,h,_⟩ | ⟨_,_,h,_⟩ | ⟨j,_,p,k,a⟩
 ·cases h
 ·cases h
 obtain ⟨c,g,f,q,n,m,rfl⟩:=aA2 k;unfold pL at c;simp only [qi,Bool.not_eq_true',decide_eq_true_eq] at c;refine ⟨mU j,a.symm.right' (mU g),om,om,a.next,a.log,a.seq,a.least,a.gens,f,n,fun i l=>?_⟩;rw [a.lv i l,←aA0 m i]; exact aGo _
theorem AppR.tabs {s X:State} (h:AppR s e X 0) (c:i<5) (hm:m∈X.lv i):(m∈e.add)∨(m∈s.lv i∧∀ g∈e.drop,g.number≠m.number):=by
 obtain ⟨a,_,_,_,_,_,_,_,_,k,j,f⟩:=h.is;grind[aUo]
structure TabI (G:PM) (root:Nat→Y) (F:List Fi) (hist:List Ent) (m:Meta):Prop where
 ex:∃ l L f,lightE l∧cA l=true∧(∀ e∈l,e∈hist)∧pX root m L=some l∧aJ (nG 2 m.number.toNat) F=some f∧f.n=L.length∧SlR G 1 aH f.h L∧L.length≤1000000
 wf:m.wf
def TabI.mono {G n:PM} {root:Nat->Y} {F:List Fi} {hist:List Ent} {m:Meta} (h:TabI G root F hist m) (i:PM.le G n):TabI n root F hist m:=by
 obtain ⟨l,L,f,a,b,c,d,e,g,k,j⟩:=h.ex;exact ⟨⟨l,L,f,a,b,c,d,e,g,k.mono i,j⟩,h.wf⟩
def TabI.more {G:PM} {root:Nat->Y} {new:List Ent} (h:TabI G root F hist m):TabI G root F (hist++new) m:=by
 obtain ⟨l,L,f,a,b,c,d⟩:=h.ex;exact ⟨⟨l,L,f,a,b,fun e g=>wi _ (c e g),d⟩,h.wf⟩
theorem TabI.stp {G:PM} {root:Nat->Y} {i:List Fi} {D:List Int} {p nw:Nat} (h:TabI G root F hist m) (n:Stp F i D p nw) (r:∀ x∈D,u64 x->x≠m.number) (k:∀ x∈D,u64 x):TabI G root i hist m:=by
 obtain ⟨l,L,f,a,b,c,d,e,g⟩:=h.ex;refine ⟨⟨l,L,f,a,b,c,d,?_,g⟩,h.wf⟩;rw [n.tab _ fun x j q=>?_]
 ·exact e
 have v:=(k x j).1;have t:=h.wf.number.1;grind
def TabsI (G:PM) (root:Nat->Y) (F:List Fi) (hist:List Ent) (s:State):Prop:=∀ i,i<5->∀ m∈s.lv i,TabI G root F hist m
def TabsI.mono {G c:PM} {root:Nat->Y} {F:List Fi} {hist:List Ent} {s:State} (h:TabsI G root F hist s) (a:PM.le G c):TabsI c root F hist s:=fun i f m e=>(h i f m e).mono a
def TabsI.more {G:PM} {root:Nat->Y} {F:List Fi} {hist new:List Ent} {s:State} (h:TabsI G root F hist s):TabsI G root F (hist++new) s:=fun i c m a=>(h i c m a).more
theorem aA9 {a b:List Ent}:dW (a++b)=dW a+dW b:=by grind[dW,aNE]
theorem aRR {a:List Ent} (h:a≠[]):0<dW a:=by
 grind[dW,xd]
structure CutI (M:Nat) (A:List Ent) (Rs:List (List Ent)) (s:StS):Prop where
 flat:s.out.flatten=A
 nil:s.has=false→s.D=[]
 ne:∀ p∈s.out,p≠[]
 few:s.has=true→M*s.out.length+dW s.C≤2*dW A+M∧M≤s.room+dW s.C
 wt:∀ p∈s.out,dW p≤M∨p∈Rs
 last:s.has=true→dW s.C+s.room≤M∨s.room=0
theorem CutI.step {M most:Nat} {A P:List Ent} {Rs:List (List Ent)} {s:StS} (h:CutI M A Rs s) (hM:M=max most 1) (k:P≠[]) (m:P∈Rs):CutI M (A++P) Rs (kU most s P):=by
 have a:=aRR k;unfold kU;rw [← hM];by_cases c:s.has=false∨s.room<dW P
 ·rw [if_pos c];have e:(⟨s.out,true,P,M-min M (dW P)⟩ : StS).out=s.out++[P]:=rfl;refine ⟨by rw [e,List.flatten_append,h.flat]; simp,(fun q=>by cases q),fun p a=>?_,fun _=>⟨?_,by grind⟩,fun p a=>?_,fun _=>?_⟩
  ·rw [e] at a;rcases qn.1 a with a | a
   ·exact h.ne p a
   simp_all
  ·rw [e,qa,wy,aA9,Nat.mul_add,Nat.mul_one];show M*s.out.length+M+dW P<=_;by_cases f:s.has=true
   ·have i:=h.few f;grind
   have j:s.has=false:=by simp_all
   have:s.out=[]:=by unfold StS.out; rw [h.nil j,j]; rfl
   grind
  ·rw [e] at a;rcases qn.1 a with a | a
   ·exact h.wt p a
   simp_all
  grind
 rw [if_neg c];have f:s.has=true:=by simp_all
 have l:dW P<=s.room:=Nat.le_of_not_lt fun q=>c (.inr q);have e:(⟨s.D,true,s.C++P,s.room-min s.room (dW P)⟩ : StS).out=s.D++[s.C++P]:=rfl;have es:s.out=s.D++[s.C]:=by simp_all[StS.out]
 have i:=h.few f;rw [es] at i;rw [qa,wy] at i;refine ⟨by rw [e,←h.flat,es]; simp,(fun q=>by cases q),fun p a=>?_,fun _=>⟨?_,?_⟩,fun p a=>?_,fun _=>?_⟩
 ·rw [e] at a;rcases qn.1 a with a | a
  ·exact h.ne p (by simp_all)
  simp_all
 ·grind[aA9]
 ·grind[aA9]
 ·rw [e] at a;rcases qn.1 a with a | a
  ·exact h.wt p (by simp_all)
  rw [qd.1 a,aA9];rcases h.last f with g | g
  ·omega
  omega
 show dW (s.C++P)+(s.room-min s.room (dW P))<=M∨s.room-min s.room (dW P)=0;rw [aA9];rcases h.last f with g | g<;>omega
def CutI.fold {M most:Nat} {Rs:List (List Ent)} (hM:M=max most 1):∀ {Ps:List (List Ent)} {A:List Ent} {s:StS},CutI M A Rs s->(∀ P∈Ps,P≠[]∧P∈Rs)->CutI M (A++Ps.flatten) Rs (Ps.foldl (kU most) s)
 | [],A,s,h,_=>by simpa using h
 | P :: Ps,A,s,h,hP=>by
  have h1:=h.step hM (hP P (qh ..)).1 (hP P (qh ..)).2;have c:=CutI.fold hM h1 fun Q a=>hP Q (qj _ a);rw [List.foldl_cons,je,←qr]; exact c
theorem aMM:∀ {f:Nat} {l:List Ent},l.length<=f->(gE f l).flatten=l∧∀ P∈gE f l,P≠[]
 | 0,l,h=>by
  simp_all[gE]
 | f+1,l,h=>by
  by_cases c:l=[]
  ·simp_all[gE]
  have h1:=aAP (xd.2 c);have g:=aMM (f:=f) (l:=l.drop (dZ l)) (by grind);rw [gE,if_neg c];refine ⟨by simp_all,fun P a=>?_⟩;rcases qe.1 a with rfl | a
  ·intro e;simp_all
  simp_all
def aZI (most:Nat) (l:List Ent):CutI (max most 1) l (gE l.length l) ((gE l.length l).foldl (kU most) ⟨[],false,[],0⟩):=by
 have g:CutI (max most 1) [] (gE l.length l) ⟨[],false,[],0⟩:=⟨rfl,fun _=>rfl,(fun p a=>absurd a qf),(fun q=>by cases q),(fun p a=>absurd a qf),(fun q=>by cases q)⟩;have e:=aMM (f:=l.length) (l:=l) (qc _);have:=g.fold rfl (Ps:=gE l.length l) fun P c=>⟨e.2 P c,c⟩;simp_all
def aGq (most:Nat) (l:List Ent) (hm:0<most):(kT most l).flatten=l∧(∀ p∈kT most l,p≠[]∧(dW p<=most∨p∈gE l.length l))∧most*(kT most l).length<=2*dW l+most:=by
 have e:max most 1=most:=by omega
 have h:=aZI most l;rw [e] at h;refine ⟨h.flat,fun p c=>⟨h.ne p c,h.wt p c⟩,?_⟩;show most*((gE l.length l).foldl (kU most) ⟨[],false,[],0⟩).out.length<=_;cases a:((gE l.length l).foldl (kU most) ⟨[],false,[],0⟩).has with
 | true=>have:=(h.few a).1; omega
 | false=>unfold StS.out; rw [h.nil a,a]; simp
def OneU (l:List Ent):Prop:=l.Pairwise fun a b=>lt a.user b.user=true
def aKI {f:Nat} {last:Bool} {x:Ent} (h:x∈jW f last l):x∈l:=aBX.subset h
theorem aKJ:∀ {f:Nat} {last:Bool} {l:List Ent},SrE l->OneU (jW f last l)
 | 0,_,_,_=>List.Pairwise.nil
 | f+1,last,l,h=>by
  rw [jW];by_cases c:l=[]
  ·rw [if_pos c]; exact List.Pairwise.nil
  rw [if_neg c];have hl:=xd.2 c;have hd:SrE (l.drop (dZ l)):=List.Pairwise.sublist (kl _ _) h;refine yi.2 ⟨?_,aKJ hd,fun a A b p=>?_⟩
  ·grind[qI,List.Pairwise.nil]
  have j:a=bJ l:=by simp_all[qI]
  subst j;have g:=aKI p;have k:0<=cZ (fL (bJ l)) l:=by
   grind[aGL]
  have v:=aGK k;obtain ⟨y,t,m⟩ : ∃ y,l[dZ l]? = some y∧fL (bJ l) y=true:=by
   grind[cZ,yo]
  have x:=aDO hl;have w:=aAP hl;have C:cR (bJ l) y=true:=by
   grind[xb,SrE]
  have n:¬ (bJ l).user=y.user:=fun e=>by simp_all[fL]
  have r:lt (bJ l).user y.user=true:=by
   simp_all[pC]
  have i:l.drop (dZ l)=y :: l.drop (dZ l+1):=by
   grind[yr]
  rw [i] at g hd;rcases qe.1 g with rfl | g
  ·exact r
  rcases pC.1 ((wz.1 hd).1 _ g) with q | q
  ·grind[aAD]
  simp_all
def aUi {last:Bool} (h:cA l=true):OneU (qH last l):=aKJ (SrE.of h)
def OneU.nodup (h:OneU l):l.Nodup:=h.imp fun {a b} h e=>by simp_all[vY]
theorem OneU.run:∀ {f:Nat} {l:List Ent},OneU l->∀ P∈gE f l,P.length<=1
 | 0,_,_,P,hP=>absurd hP List.not_mem_nil
 | f+1,l,h,P,hP=>by
  rw [gE] at hP;by_cases c:l=[]
  ·simp_all
  ·rw [if_neg c] at hP;rcases List.mem_cons.1 hP with rfl | hP
   ·rw [List.length_take];have h1:dZ l<=1:=by
     rcases xk 1 l.length with q | q
     ·have e:dZ l=1:=aLV (k:=1) (aKO) (.inr ⟨l[1],qv q,by
       grind[xb,fL,bJ,zC,vY,OneU]⟩)
      omega
     grind[aLU]
    omega
   ·exact OneU.run (List.Pairwise.sublist (kl _ _) h) P hP
theorem aM6 {f:Ent->Nat}:∀ {l h:List Ent},l.Nodup->(∀ x∈l,x∈h)->(l.map f).sum<=(h.map f).sum
 | [],_,_,_=>by simp
 | x :: l,h,hn,hs=>by
  obtain ⟨s,t,rfl⟩:=List.append_of_mem (hs x (qh ..));rw [xa] at hn;have c:=aM6 (f:=f) (h:=s++t) hn.2 fun y a=>by
   grind
  grind
def aOO:∀ {l:List Ent},bO l=(l.map fun e=>e.user.size+e.value.size).sum
 | []=>rfl
 | e :: r=>by rw [bO,aOO]; simp
def aNF:∀ {l:List Ent},kY l=bO l
 | []=>rfl
 | e :: r=>by rw [kY,bO,aNF]
def aKX:∀ {l:List Ent},l.length=(l.map fun _=>1).sum
 | []=>rfl
 | e :: r=>by rw [List.length_cons,aKX (l:=r)]; simp; omega
def aM4 {h:List Ent} (c:l.Nodup) (a:∀ x∈l,x∈h):l.length<=h.length∧bO l<=bO h:=by
 simp_all[aKX,aOO,aM6]
theorem aFv {root:Nat->Y} {h:Hd} {n:BitVec 64} {p L:List Y} (a:(L,(0:Int))=lW root h n p):0<L.length∧L.length<=135*((p.length+143) / 128)∧p.length<=4194304:=by
 unfold lW at a;split at a
 ·rename_i f;obtain ⟨e,_⟩:=Prod.mk.inj a;have c:(kB (fF root (aU h)) (fG root (aU h)) (iQ n) (aU h) p).length=p.length+16:=by rw [uJ]
  generalize kB (fF root (aU h)) (fG root (aU h)) (iQ n) (aU h) p=S at e c;have g:aGV S=qV S ((S.length+127) / 128):=rfl;have:=aGP S ((S.length+127) / 128);rw [e,g,c];rw [c] at this;refine ⟨?_,this,f⟩;obtain ⟨j,i⟩ : ∃ j,(p.length+16+127) / 128=j+1:=⟨(p.length+16+127) / 128-1,om⟩;grind[qV]
 cases a
theorem LayR.code {root:Nat->Y} {h:Hd} {n a:BitVec 64} {s:State} {L:List Y} {X:State} {r:Int} (f:LayR root h n a s e L X r) (j:fT s=true):(r=0∧AppR s e X 0∧(L,(0:Int))=lW root h n (aDw a X e))∨r=180∨r=4:=by
 obtain ⟨q,i,l,c⟩:=f;rcases c with ⟨p,_,_,rfl⟩ | ⟨rfl,t,g,k,c⟩
 ·simp_all[AppR]
 ·rcases c with ⟨m,_,_,rfl⟩ | ⟨rfl,rfl,rfl,rfl⟩
  ·grind[lW]
  simp_all
theorem aJq {nm:ByteArray} {h:Sh} {n safe:Nat}:∀ {F:List Fi} {f:Fi},aJ nm F=some f->aV (jV nm h n safe F)+f.n=aV F+n
 | [],_,e=>by cases e
 | g :: r,f,e=>by
  rw [aJ] at e; rw [jV];by_cases q:g.nm=nm
  ·rw [if_pos q] at e; cases e;rw [if_pos q]; grind[aV]
  ·rw [if_neg q] at e; rw [if_neg q];have:=aJq (h:=h) (n:=n) (safe:=safe) e;simp only [aV]; omega
def aJo:(jV nm h n safe F).length=F.length:=aKn (aFY (nm:=nm) (h:=h) (n:=n) (safe:=safe) (F:=F)).1
theorem aQJ {t:Fi} {G:PM} {a xs:List Y} (x:rM nm) (I:eC nm) (C:DkR F clk) (hF:FilesR G F) (m:(aJ nm F).getD Fi.z=t) (y:t.n=a.length) (E:SlR G 1 aH h (a++xs)) (H:k=xs.length) (L:aV F+k<=400000000) (K:F.length<100000) :
  DkR (jH nm h (a.length+xs.length) safe clk F) (rW nm clk F)∧clk<=rW nm clk F∧rW nm clk F<=clk+1∧FilesR G (jH nm h (a.length+xs.length) safe clk F)∧Stp F (jH nm h (a.length+xs.length) safe clk F) [] k 1∧(aJ nm (jH nm h (a.length+xs.length) safe clk F)).isSome=true∧((aJ nm F).isSome=true->rW nm clk F=clk∧(jH nm h (a.length+xs.length) safe clk F).length=F.length):=by
 subst H;have J:a.length<=aV F:=by
  cases e:aJ nm F with
  | none=>rw [e] at m; rw [← y,←m]; exact qo _
  | some f=>rw [e] at m; have:f=t:=m; subst this; rw [← y]; exact aJa (aDF e)
 have j:FilesR G (jH nm h (a.length+xs.length) safe clk F):=hF.app E (qa).symm;have M:=aTB (nm:=nm) (h:=h) (n:=a.length+xs.length) (safe:=safe) (clk:=clk) (F:=F);have r:(aJ nm (jH nm h (a.length+xs.length) safe clk F)).isSome=true:=by grind
 have i:∀ g,(aJ g F).isSome=true->(aJ g (jH nm h (a.length+xs.length) safe clk F)).isSome=true:=fun g l=>by
  by_cases q:g=nm
  ·simp_all
  simp_all[aBN]
 by_cases c:(aJ nm F).isSome=true
 ·have w:rW nm clk F=clk:=if_pos c;have v:jH nm h (a.length+xs.length) safe clk F=jV nm h (a.length+xs.length) safe F:=if_pos c;obtain ⟨f,A⟩:=yt.1 c;have D:=aJq (h:=h) (n:=a.length+xs.length) (safe:=safe) A;have:f=t:=by simp_all
  subst this;refine ⟨?_,om,om,j,⟨fun n _=>aBN fun e=>x n e.symm,fun n l=>by grind[aBN],fun g _ l=>i g l,?_,?_⟩,r,fun _=>⟨w,by rw [v,aJo]⟩⟩
  ·rw [v,w]; exact C.put om
  ·grind
  simp_all[aJo]
 have w:rW nm clk F=clk+1:=if_neg c;have v:jH nm h (a.length+xs.length) safe clk F=F++[⟨nm,h,a.length+xs.length,0,clk⟩]:=if_neg c;have p:aJ nm F=none:=by simp_all
 have N:a.length=0:=by rw [p] at m; rw [← y,←m]; rfl
 refine ⟨?_,om,om,j,⟨fun n _=>aBN fun e=>x n e.symm,fun n l=>by rw [aBN fun e=>x n e.symm]; exact l,fun g _ l=>i g l,?_,?_⟩,r,fun q=>absurd q c⟩
 ·rw [v,w]; exact C.app rfl (by grind) p I.2 K
 ·simp_all[aAc,aV]
 simp_all
theorem aC8 (h:e.wf) {q:BitVec 64}:Edit.wf { e with least:=(q.toNat:Int) } :=
 ⟨h.log,h.next,h.seq,⟨Int.natCast_nonneg _,by have:=q.isLt; grind⟩,h.gens,h.add,h.drop⟩
def FilesR.get0 {G:PM} (h:FilesR G F) (nm:ByteArray):∃ L0:List Y,SlR G 1 aH ((aJ nm F).getD Fi.z).h L0∧((aJ nm F).getD Fi.z).n=L0.length∧L0.length<=aV F:=by
 cases e:aJ nm F with
 | none=>exact ⟨[],dD,rfl,qo _⟩
 | some f=>obtain ⟨c,g,a⟩:=h f (aDF e); exact ⟨c,g,a,by rw [← a]; exact aJa (aDF e)⟩
def StN.zero:StN State.zero:=by
 have z:u64 0:=⟨dc,dc⟩;exact ⟨z,z,z,z,fun _ _=>z⟩
def StL.zero:StL State.zero:=⟨dc,fun i _ m a=>absurd a qf⟩
def aPX {s s':State} (h:EqS s s') (k:StN s'):StN s:=⟨h.log▸k.log,h.next▸k.next,h.seq▸k.seq,h.least▸k.least,fun i a=>by rw [h.gens]; exact k.gens i a⟩
theorem StL.right {s:State} (h:fT s=true):StL s:=by
 have e:=(mU h).few;exact ⟨om,fun i c m a=>by grind[aX4]⟩
def AppR.stN {s:State} {X:State} {r:Int} (h:AppR s e X r) (a:e.wf):StN X:=by
 rcases h with ⟨_,_,rfl⟩ | ⟨_,_,_,rfl⟩ | ⟨_,_,Y,f,c⟩
 ·exact StN.zero
 ·exact StN.zero
 ·obtain ⟨_,_,i,g,_,_,rfl⟩:=aA2 f;exact aPX c ⟨a.log,a.next,a.seq,a.least,a.gens⟩
def AppR.stL {s:State} {X:State} {r:Int} (h:AppR s e X r):StL X:=by
 rcases h with ⟨_,_,rfl⟩ | ⟨_,_,_,rfl⟩ | ⟨i,g,Y,f,c⟩
 ·exact StL.zero
 ·exact StL.zero
 ·obtain ⟨_,a,_⟩:=aA2 f;exact StL.right (by rw [c.right]; exact a)
def AppR.few {s:State} {X:State} (h:AppR s e X 0) (f:e.wf):e.add.length<=1000000∧e.drop.length<=1000000∧(e.add.flatMap fU).length<=900000000000:=by
 obtain ⟨_,Z,g,_⟩:=h.right;obtain ⟨c,k,j⟩:=aPr g;have i:=aKs (R:=1024) e.add fun m a=>⟨f.add m a,(c m a).2.2.1,(c m a).2.2.2⟩;omega
theorem aAn {G:PM} (c:∀ x∈xs,(enc x).length=sz) (h:Ct P f args G [] (fun _ a u=>∃ v:Value,v.oneCell'=true∧a=[rS sz enc v E xs]∧u=v)) :
  Ct P f args G [] (fun g a u=>∃ s:Sh,SlR g sz enc s xs∧a=[]∧u=s.val xs.length):=by
 intro w j;refine (h w j).mono ?_;rintro e k ⟨v,g,a,rfl,i,l,_,rfl,rfl⟩;obtain ⟨r,s,q,p,n,m⟩:=i.frzS c;grind
structure HistI (hist:List Ent):Prop where
 ok:∀ e∈hist,cC e=true
 few:hist.length≤20000
 wt:bO hist≤20000
def aOM:∀ {l:List Ent} {e:Ent},e∈l->e.user.size+e.value.size<=bO l
 | x :: r,e,h=>by
  rw [bO];rcases List.mem_cons.1 h with rfl | h
  ·omega
  ·have:=aOM h; omega
def HistI.sm (h:HistI hist) (a:∀ e∈l,e∈hist):smE l:=fun e c=>by
 have:=aOM (a e c);have:=h.wt;omega
structure WkI (G:PM) (d:Db) (F:List Fi) (clk:Nat) (hist:List Ent):Prop where
 dk:DkR F clk
 fil:FilesR G F
 st:StR G d.s d.hd
 right:fT d.s=true
 tabs:TabsI G d.root F hist d.s
 nx:d.s.next≤(d.next.toNat:Int)
 free:∀ n,d.next.toNat≤n→aJ (nG 2 n) F=none
 gens:∀ i,i<5→d.s.gens i=0
 lk:d.lg.h.kind=1#8
 mk3:d.mn.h.kind=3#8
 lgp:0<d.lg.n.toNat→(aJ (nG 1 d.lg.h.num.toNat) F).isSome=true
 mnp:(aJ (nG 3 d.mn.h.num.toNat) F).isSome=true
 blk:d.o.block=50
 evy:d.o.every=4
 tbl:d.o.table=200
 nums:StN d.s
 lgl:d.lg.h.num.toNat<d.next.toNat
def WkI.mono {G c:PM} {d:Db} {F:List Fi} {clk:Nat} {hist:List Ent} (h:WkI G d F clk hist) (a:PM.le G c):WkI c d F clk hist :=
 ⟨h.dk,h.fil.mono a,h.st.mono a,h.right,h.tabs.mono a,h.nx,h.free,h.gens,h.lk,h.mk3,h.lgp,h.mnp,h.blk,h.evy,h.tbl,h.nums,h.lgl⟩
def aNN {root:Nat->Y} {h:Hd} {blk every bits:Int} {L:List Y} (a:oY root h l blk every bits L m 0) (c:m.wf):m.number=(h.num.toNat:Int):=by
 rcases a with a | ⟨e,_,rfl,_⟩
 ·omega
 rfl
def aDN {s:State} (h:good s m=true):m.number<s.next:=by
 simp_all[good]
def aSc {s:State} (l:RightP s) {j:List Gone} {L:cF} (h:cQ gI j s.lv=some L) (i:g∈j):g.number<s.next:=by
 obtain ⟨k,t,r,n⟩:=aFA h;rw [← t] at i;obtain ⟨p,f,rfl⟩:=ql.1 i;obtain ⟨a,b⟩:=r p f;have e:p.2∈(k.filter (fun q=>q.1.level.toNat == p.1.level.toNat)).map (·.2):=ql.2 ⟨p,yh.2 ⟨f,by simp⟩,rfl⟩;have m:p.1.level.toNat<5:=by omega
 have c:p.2∈s.lv p.1.level.toNat:=(n _).mem_iff.2 (wi _ e);rw [← a];exact aDN ((l.lv _ m).1 _ c).2
structure NewT (hist:List Ent) (ls:List (List Ent)):Prop where
 light:∀ l∈ls,lightE l
 rises:∀ l∈ls,cA l=true
 sub:∀ l∈ls,∀ e∈l,e∈hist
theorem TabsR.tabI {G:PM} {d:Db} {l:Nat} {n:BitVec 64} {ls:List (List Ent)} {ms:List Meta} {t:List Fi} (h:TabsR G d l n ls ms F t clk sz) (j:NewT hist ls) (y:n.toNat+ls.length<9223372036854775808) (hm:m∈ms) :
  TabI G d.root t hist m∧(n.toNat:Int)<=m.number∧m.number<(n.toNat+ls.length:Nat):=by
 obtain ⟨i,q,rfl⟩:=xz hm;have c:i<ls.length:=by rw [← h.len]; exact q
 obtain ⟨L,f,r,A,k,_,v⟩:=h.tab i ls[i] ms[i] (qv c) (qv q);have g:=jh c;obtain ⟨p,w,x,_,_⟩:=aG5 r (j.light _ g) rfl;have a:=aNN r p;have e:(eV d l (n+qb 64 i)).num.toNat=n.toNat+i:=yA om;rw [e] at a;refine ⟨⟨⟨ls[i],L,f,j.light _ g,j.rises _ g,j.sub _ g,x,?_,k,v,w⟩,p⟩,om,om⟩;grind
theorem aPl {G r:PM} {d:Db} {C A:List Fi} {S lv ad nw:Nat} {ls:List (List Ent)} {ms:List Meta} {X:State} {t:Nat->Sh} {sf:Bool} {mn:BitVec 64} (h:WkI G d F clk hist) (I:PM.le G r) (hN:NewT hist ls) (Z:d.next.toNat+ls.length<9223372036854775808) (v:TabsR r d lv d.next ls ms F C clk sz) (ha:e.add=ms) (hg:e.gens=d.s.gens) (hx:e.next=((d.next+BitVec.ofNat 64 ls.length).toNat:Int)) (y:e.wf) (M:AppR d.s e X 0) (w:Stp C A (e.drop.map xM) ad nw) (hD:DkR A S) (hF:FilesR r A) (D:StR r X t) :
  WkI r { d with next:=d.next+BitVec.ofNat 64 ls.length,lg:={ d.lg with safe:=sf },mn:={ d.mn with n:=mn },s:=X,hd:=t } A S hist:=by
 have P:=mU h.right;obtain ⟨_,E,_,_,xn,_,_,_,T,L1,K,_⟩:=M.is;have N:(d.next+qb 64 ls.length).toNat=d.next.toNat+ls.length:=yA om;have Q:∀ k,k<d.next.toNat->aJ (nG 2 k) C=aJ (nG 2 k) F:=fun k hk=>v.old _ fun i _ q=>by have:=aAN q; omega
 have J:∀ g∈e.drop,0<=g.number∧g.number<(d.next.toNat:Int):=fun g a=>⟨(y.drop g a).number.1,by have:=aSc P K a; have:=h.nx; omega⟩;refine ⟨hD,hF,D,yF E,fun i p m j=>?_,?_,fun k hk=>?_,fun i p=>by show X.gens i=0; rw [T,hg]; exact h.gens i p,h.lk,h.mk3,fun q=>w.oth _ nO ?_,w.oth _ uB ?_,h.blk,h.evy,h.tbl,M.stN y,by show d.lg.h.num.toNat<(d.next+qb 64 ls.length).toNat; rw [N]; exact yu h.lgl (Nat.le_add_right _ _)⟩
 ·rcases M.tabs p j with j | ⟨j,H⟩
  ·rw [ha] at j;obtain ⟨t1,O,t3⟩:=v.tabI hN Z j;exact t1.stp w (fun x c _=>by obtain ⟨g,a,rfl⟩:=ql.1 c; have:=J g a; show g.number≠_; omega) (fun x c=>by obtain ⟨g,a,rfl⟩:=ql.1 c; exact (y.drop g a).number)
  have t1:=(h.tabs i p m j).mono I;have a0:=aDN ((P.lv i p).1 m j).2;have:=h.nx;have a7:=t1.wf.number.1;have O:TabI r d.root C hist m:=by
   obtain ⟨l,L,f,a1,a2,a3,a4,a5,a6⟩:=t1.ex;exact ⟨⟨l,L,f,a1,a2,a3,a4,by grind,a6⟩,t1.wf⟩
  exact O.stp w (fun x c _=>by obtain ⟨g,a,rfl⟩:=ql.1 c; exact H g a) (fun x c=>by obtain ⟨g,a,rfl⟩:=ql.1 c; exact (y.drop g a).number)
 ·grind
 ·have a8:d.next.toNat+ls.length<=k:=by grind
  refine w.gone k ?_;rw [v.old _ fun i p q=>by have:=aAN q; omega];exact h.free k om
 ·rw [v.old _ fun i _ q=>nO _ q]; exact h.lgp q
 rw [v.old _ fun i _ q=>uB _ q]; exact h.mnp
end Go.Tan
