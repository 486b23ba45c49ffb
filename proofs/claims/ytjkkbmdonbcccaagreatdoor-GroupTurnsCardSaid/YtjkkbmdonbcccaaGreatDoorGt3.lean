/- Lemmas and contracts of functions, joined. -/
import Derived.Test.YtjkkbmdonbcccaaGreatDoorGt2
import Derived.Control
set_option linter.unusedSimpArgs false
set_option linter.unusedVariables false
set_option linter.unusedSectionVars false
open Array renaming setIfInBounds_comm->jm
open BitVec renaming ofNat->qb,ofInt->qh,eq_of_toNat_eq->wl,toNat_ofInt->zm,toNat_ofNat->jz,toNat_setWidth->kb,ofInt_natCast->kg,toNat_umod->vh,toNat_udiv->qaF
open Bool renaming and_eq_true->qq,or_eq_true->wv,false_or->ja,false_eq_true->jg
open ByteArray renaming empty->xe
open Int renaming not_lt->zz
open List renaming length_append->qa,length_nil->qc,range->qe,mem_singleton->qf,mem_cons->qg,mem_map->qi,not_mem_nil->qj,append_assoc->qk,mem_cons_self->ql,length_map->qm,mem_cons_of_mem->qo,length_take->qp,nil_append->qu,mem_append->qv,take_append_drop->qx,take_length->qy,take_of_length_le->qz,map_append->wc,all_eq_true->wd,append_nil->we,take_add_one->wg,getElem?_eq_getElem->wi,length_cons->wj,length->wm,perm_append_comm->wn,eq_nil_of_length_eq_zero->wo,map_cons->wr,cons_append->ww,nodup_cons->wy,mem_append_left->xa,getElem?_eq_some_iff->xb,length_singleton->xd,length_pos_iff->xi,perm_middle->xj,mem_range->xo,nodup_nil->xq,findIdx?_eq_some_iff_getElem->xu,getD_eq_getElem?_getD->xx,mem_flatMap->xy,nodup_append->xz,pairwise_cons->yd,pairwise_append->ye,mem_append_right->yf,getElem?_append_left->yh,pairwise_iff_getElem->yj,getElem_of_mem->yo,drop_eq_getElem_cons->yq,mem_filter->yz,takeWhile_append_dropWhile->z8,map_map->je,flatten_cons->jf,getElem?_append_right->jr,set_append_right->ke,getElem_mem->ki,map_nil->kl,drop_sublist->kn,findIdx?_eq_none_iff->kx,flatMap_map->kz,take_succ_cons->vd,take_left->vk,mem_flatten->vm,pairwise_flatten->qaC,mem_iff_getElem->qaD,append_cancel_right->qaE
open Nat renaming le_refl->qd,zero_le->qr,zero_add->wb,le_trans->wh,le_add_right->wz,lt_or_ge->ya,add_assoc->yi,mod_eq_of_lt->yp,lt_of_lt_of_le->yt,sub_zero->jo,sub_self->jp,succ_pos->km,add_sub_cancel->ku,zero_mul->ve,zero_lt_one->vv
open Option renaming bind_some->qw,isSome_iff_exists->yr
namespace Go.Tan
open Go.RowKit
variable {g:Gone} {S:List (Nat×Dg)} {vs:List Value} {α:Type} {Z:List α} {m:Meta} {k E q T j:Nat} {y:Operand} {v:Value} {enc:α→List Value}
def uJ (d:Dg):Dg:=fun i=>(yl 32 d).getD i 0
theorem aIA (d:Dg):yl 32 (uJ d)=yl 32 d:=by
 rfl
theorem aEY (l:List Dg):yl 32 (fP (l.map uJ))=yl 32 (fP l):=by
 match l with
 | []=>rfl
 | [d]=>simp[aNO,aIA]
 | a :: b :: r =>
  have c:2<=(a :: b :: r).length:=by simp
  have f:=aEM c;have g:=aMq c;have e:((a :: b :: r).map uJ).length=(a :: b :: r).length:=qm ..;rw [aHM (l:=(a :: b :: r).map uJ) (by rw [e]; exact c),aHM c,e,←List.map_take,←List.map_drop];unfold pD;rw [aEY _,aEY _]
termination_by l.length
decreasing_by
 ·grind
 grind
theorem aJ3 (d:Dg) (k:List Y->List Y->Option α) (r:List Y):oL lT 32 k (yl 32 d++r)=k (yl 32 d) r:=by
 rfl
theorem aNQ {last:Bool} {bd x:List Y} {k:List Y->Nat->Dg->List Y->Option α} {r:List Y} (e:bd.length<=1024) (c:last=true->bd=[]) (a:x.length<18446744073709551616) :
  xA last k ((if last then [] else gL bd)++jY x++r)=k bd x.length (uJ (gI x)) r:=by
 unfold xA jY;cases last with
 | true =>
  rw [c rfl];simp only [if_true,qu,qk];rw [uS a,aJ3]; rfl
 | false =>
  simp only [jg,if_false,qk];rw [bBB om e,uS a,aJ3]; rfl
def tH (bd x:List Y):RowT:=⟨bd,x,uJ (gI x)⟩
theorem aNR {f:List Y} (g:f.length<18446744073709551616):∀ (bs:List (List Y×List Y)) (acc:List RowT),(∀ b∈bs,b.1.length<=1024∧b.2.length<18446744073709551616) ->
  iB (bs.length+1) acc (bs.flatMap (·.2)++f) (bs.flatMap (fun b=>gL b.1++jY b.2)++jY f)=some (acc++bs.map (fun b=>tH b.1 b.2)++[tH [] f])
 | [],acc,_=>by
  have h:=aNQ (last:=true) (bd:=[]) (x:=f) (r:=[]) (k:=fun bd a d r=>if a<=f.length then (if r=[]∧f.drop a=[] then some (acc++[⟨bd,f.take a,d⟩]) else none) else none) dc (fun _=>rfl) g;simp only [if_true,qu,we] at h;simp only [qc,wb,iB,List.flatMap_nil,qu,kl,we,beq_self_eq_true];rw [h,if_pos (qd _),qy,List.drop_length,if_pos ⟨trivial,rfl⟩]; rfl
 | b :: bs,acc,hb=>by
  have i:=hb b (ql ..);have ih:=aNR g bs (acc++[tH b.1 b.2]) (fun c j=>hb c (qo _ j));have h:=aNQ (last:=false) (bd:=b.1) (x:=b.2) (r:=bs.flatMap (fun b=>gL b.1++jY b.2)++jY f)
   (k:=fun bd a d r=>if a<=(b.2++(bs.flatMap (·.2)++f)).length then iB (bs.length+1) (acc++[⟨bd,(b.2++(bs.flatMap (·.2)++f)).take a,d⟩]) ((b.2++(bs.flatMap (·.2)++f)).drop a) r else none) i.1 (fun e=>by cases e) i.2
  simp only [jg,if_false] at h;have l:(bs.length+1 == 0)=false:=by simp
  rw [wj,iB,l];simp_all[tH]
namespace Tab
variable (t:Tab)
def prs:List (List Y×List Y):=(qe t.cs.length).map fun i=>(oD t.cs i,t.prt i)
def rts:List RowT:=t.prs.map (fun b=>tH b.1 b.2)++[tH [] t.filt]
theorem prs_len:t.prs.length=t.cs.length:=by simp [prs]
theorem rts_len:t.rts.length=t.cs.length+1:=by simp [rts,prs_len]
theorem rts_at {i:Nat} (h:i<t.cs.length):t.rts.getD i qH=tH (oD t.cs i) (t.prt i):=by
 simp[rts,yh,h,prs]
theorem rts_last:t.rts.getD t.cs.length qH=tH [] t.filt:=by
 simp[rts,prs_len]
theorem prs_out:t.prs.flatMap (·.2)=(List.range t.cs.length).flatMap t.prt:=by simp[prs,kz]
theorem prs_rows:t.prs.flatMap (fun b=>gL b.1++jY b.2)=t.rows t.cs.length:=by simp[prs,rows,kz]
theorem rts_leaf:t.rts.map (·.leaf)=(t.lvs t.cs.length++[gI t.filt]).map uJ:=by
 unfold rts prs lvs;simp only [wc,je,wr,kl];rfl
end Tab
theorem aG3 (root:Nat->Y) (h:Hd) (i:Nat) (p:List Y):wS root h i (aAp root h i p)=some p:=aX8 ..
theorem aK2 (t:Tab) (h2:t.h.kind=2#8):eG t.info=t.h:=by
 have e:∀ (w:Nat) (x:BitVec w),qh w (x.toNat:Int)=x:=fun w x=>by
  simp
 cases t with | mk root h every bits cs =>
 cases h<;>simp_all[eG,Tab.info]
structure Tab.Good (t:Tab):Prop where
 ok:t.Ok
 kind:t.h.kind=2#8
 right:t.h.right=true
 ev1:1≤t.every
 ents:∀ e∈t.ents,cM e=true
 rises:cR t.ents=true
 some:t.cs≠[]
theorem aRZ {t:Tab} (g:t.Good):sL t.root t.info t.bytes=some (t.rts,t.sidx):=by
 have o:=g.ok;have K:=o.cs_le;have m:=o.bytes_le;have q:=o.idx_le;have J:=o.filt_le;have I:t.sidx.length=t.idx.length+16:=aAq ..;have x:t.bytes=bG t.h++(((qe t.cs.length).flatMap t.prt++t.filt)++(t.sidx++cY (qh 64 (t.sidx.length:Int)) 8)):=by
  simp[Tab.bytes,Tab.out]
 have j:t.bytes.length=30+(((qe t.cs.length).flatMap t.prt++t.filt).length+(t.sidx.length+8)):=by
  grind[jI,kI]
 have C:nM t.bytes=(t.h,0):=by rw [x,bBr,if_pos g.right]
 have G:=aK2 t g.kind;generalize H:(qe t.cs.length).flatMap t.prt++t.filt=A at x j;have k:t.bytes.drop (t.bytes.length-8)=cY (qh 64 (t.sidx.length:Int)) 8:=by
  have Q:t.bytes=(bG t.h++(A++t.sidx))++cY (qh 64 (t.sidx.length:Int)) 8:=by simp_all
  have:t.bytes.length-8=(bG t.h++(A++t.sidx)).length:=by grind[jI]
  simp_all
 have y:(eC (t.bytes.drop (t.bytes.length-8)) 8).toNat=t.sidx.length:=by
  rw [k];have:=aHx (qh 64 (t.sidx.length:Int)) [];rw [we] at this;rw [this,kg,jz,yp om]
 have c:(t.bytes.drop 30).take (t.bytes.length-38)=A++t.sidx:=by
  have P:(A++t.sidx).length=t.bytes.length-38:=by rw [qa]; omega
  grind[jI,vk]
 have p:t.bytes.length-38-t.sidx.length=A.length:=by omega
 unfold sL;rw [C,G,y,if_pos ⟨rfl,rfl,rfl,om,om⟩];simp only [c,p,vk,List.drop_left];have E:wS t.root t.h 0 t.sidx=some t.idx:=aG3 ..;rw [E,qw];have D:(fD fun n r=>if 0<n then iB (n+1) [] A r else none) t.idx=some t.rts:=by
  unfold Tab.idx;rw [uS om,if_pos (xi.2 g.some)];have:=aNR (f:=t.filt) om t.prs [] (fun b m=>by
   unfold Tab.prs at m;obtain ⟨i,q,rfl⟩:=qi.1 m;have a:=xo.1 q;have w:=o.prt_le a;have v:=aA6 (oH a);have N:cC t.cs.flatten<=50000:=o.light.2;have M:t.cs.flatten.length<=2000:=o.light.1;refine ⟨?_,by grind⟩;have L:(jV (t.cs.getD i [])).size<=1024:=by
    have F:=xi.2 (o.ne _ (oH a));have e:(t.cs.getD i []).getD ((t.cs.getD i []).length-1) Ent.zero∈t.ents:=by
     unfold Tab.ents;refine vm.2 ⟨_,oH a,?_⟩;rw [xx (l:=t.cs.getD i []),wi om]; simp
    have:=g.ents _ e;simp only [cM,dP] at this;grind[jV]
   show (oD t.cs i).length<=1024;unfold oD;split
   ·grind[aFE,bZ]
   simp_all[bZ])
  rw [t.prs_len,t.prs_out,t.prs_rows,H] at this;rw [this]; rfl
 rw [D,qw,if_pos];rw [t.rts_leaf];have O:yl 32 (fP ((t.lvs t.cs.length++[gI t.filt]).map uJ++[gI t.sidx]))=yl 32 (fP t.leaves):=by
  have w:=aEY ((t.lvs t.cs.length++[gI t.filt]).map uJ++[gI t.sidx]);have v:=aEY t.leaves;rw [← w,←v];unfold Tab.leaves;congr 2;simp only [wc,je,wr,kl];rfl
 simp_all[yl,Tab.info]
theorem bC4 {t:Tab} {i:Nat} (h:i<t.cs.length):lY t.root t.h (t.rts.getD i qH) (2+i)=some (gY t.every (t.cs.getD i [])):=by
 rw [t.rts_at h]; simp_all[lY,tH,aIA,aG3,Tab.prt]
theorem aUJ (t:Tab):lY t.root t.h (t.rts.getD (t.rts.length-1) qH) 1=some (aAZ (jE t.users) t.bits):=by
 rw [t.rts_len,ku,t.rts_last]; unfold lY tH;rw [if_pos (aIA _).symm]; exact aG3 ..
theorem toList_inj {a b:ByteArray} (h:(a.toList == b.toList)=true):a=b:=aC9 (by simp_all)
theorem aQw {a b c:Ent} (h:dH a b=true) (e:dH b c=true):dH a c=true:=by
 unfold dH at *;simp only [wv,dP] at *;grind[aAX,toList_inj]
theorem bEn {l:List Ent} {i:Nat} (h:i<l.length):l.getD i Ent.zero=l[i]:=by simp_all
theorem aHJ {l:List Ent} (h:cR l=true):l.Pairwise fun a b=>dH a b=true:=by
 have k:∀ i,i+1<l.length->dH (l.getD i Ent.zero) (l.getD (i+1) Ent.zero)=true:=by
  simp_all[cR,B]
 have c:∀ (d i:Nat),i+d+1<l.length->dH (l.getD i Ent.zero) (l.getD (i+d+1) Ent.zero)=true:=by
  intro d;induction d<;>grind[aQw]
 rw [yj];intro i j g e f;obtain ⟨d,rfl⟩ : ∃ d,j=i+d+1:=⟨j-i-1,om⟩;have:=c d i e;simp_all
theorem aM3 {l:List Ent} (h:l.Pairwise fun a b=>dH a b=true):cR l=true:=vF fun i c=>by
 grind[yj]
section
variable {user:ByteArray} {seq:BitVec 64}
theorem aT7 {t:Tab} (g:t.Good) {i:Nat} (h:i<t.cs.length):wB t.root t.h t.rts i=some (t.cs.getD i []):=by
 have f:∀ e∈t.cs.getD i [],cM e=true:=fun e c=>g.ents e (vm.2 ⟨_,oH h,c⟩);have l:cR (t.cs.getD i [])=true:=aM3 ((qaC.1 (aHJ g.rises)).1 _ (oH h));have p:=aA6 (oH h);have n:cC t.cs.flatten<=50000:=g.ok.light.2;have m:t.cs.flatten.length<=2000:=g.ok.light.1;have c:=g.ok.every;have k:=g.ev1;have j:iF (t.cs.getD i []) t.every=(gY t.every (t.cs.getD i []),0):=by
  grind[aFN,aC6,aEK,aEq]
 have a:=aZL j k c om f;unfold wB;rw [bC4 h,qw,a,if_pos rfl]
end
theorem aI3 {t:Tab} (g:t.Good):∀ n i acc,i+n=t.cs.length->nY t.root t.h t.rts n i acc=some (acc++(t.cs.drop i).flatten)
 | 0,i,acc,h=>by simp_all[nY]
 | n+1,i,acc,h=>by
  have hi:i<t.cs.length:=by omega
  have e:t.cs.getD i []=t.cs[i]:=by rw [xx,wi hi]; rfl
  rw [nY,aT7 g hi,qw,aI3 g n (i+1) _ om,yq hi,jf,e,qk]
theorem aQ2 {t:Tab} (g:t.Good):sK t.root t.info t.bytes=some t.ents:=by
 unfold sK;rw [aRZ g,qw,aK2 _ g.kind];simp only;rw [aUJ,qw,t.rts_len,ku,aI3 g _ _ _ om,qw,if_pos]
 ·rfl
 ·exact ⟨g.rises,rfl,.inr ⟨rfl,rfl⟩⟩
section
variable {e:Ent}
theorem eR1 (h:1024<(e.user.size:Int)):cM e=false:=by simp_all[cM,decide_eq_false]
theorem eR2 (h:65536<(e.value.size:Int)):cM e=false:=by simp_all[cM,decide_eq_false]
theorem eR3 (h:72057594037927935<(e.seq.toNat:Int)):cM e=false:=by grind[cM]
theorem eR4 (h1:(e.user.size:Int)<=1024) (h2:(e.value.size:Int)<=65536) (h3:(e.seq.toNat:Int)<=72057594037927935) (c:(e.kind.toNat:Int)=0):cM e=(e.value.toList == (⟨#[]⟩ : ByteArray).toList):=by
 have a:e.kind=0#8:=wl (by simp_all);unfold cM;rw [decide_eq_true h1,decide_eq_true h2,decide_eq_true (p:=e.seq.toNat<=72057594037927935) om,if_pos a,show (⟨#[]⟩ : ByteArray).toList=[] by simp]; rfl
theorem eR5 (h1:(e.user.size:Int)<=1024) (h2:(e.value.size:Int)<=65536) (h3:(e.seq.toNat:Int)<=72057594037927935) (c:¬ (e.kind.toNat:Int)=0):cM e=((e.kind.toNat:Int) == 1):=by
 have a:¬ e.kind=0#8:=fun q=>c (by simp_all);unfold cM;rw [decide_eq_true h1,decide_eq_true h2,decide_eq_true (p:=e.seq.toNat<=72057594037927935) om,if_neg a];show decide (e.kind=1#8)=decide ((e.kind.toNat:Int)=1);exact decide_eq_decide.2 ⟨fun q=>by simp_all,fun q=>wl (by grind)⟩
end
section
variable {a b:ByteArray} {k:Nat}
theorem aFJ (g:k<a.size∧k<b.size) (f:∀ j,j<k->(yb a).getD j 0=(yb b).getD j 0) (c:¬ (((yb a).getD k 0).toNat:Int)=(((yb b).getD k 0).toNat:Int)):gF (yb a) (yb b)=k :=
 aDH (by grind[bZ]) (by grind[bZ]) f (.inr (.inr fun e=>c (by rw [e])))
theorem aRt (c:k<a.size∧k<b.size) (f:∀ j,j<k->(yb a).getD j 0=(yb b).getD j 0) (h:(((yb a).getD k 0).toNat:Int)<(((yb b).getD k 0).toNat:Int)∧1<(((yb b).getD k 0-(yb a).getD k 0).toNat:Int)):aV (yb (aV ((yb a).take k))++yb (aV [(yb a).getD k 0+1#8]))=aV (qU (yb a) (yb b)):=by
 obtain ⟨i,g⟩:=h;have e:=aFJ c f om;rw [iI,iI];unfold qU;rw [e,if_pos];grind[bZ,yb]
theorem aRr (f:k<a.size∧k<b.size) (g:∀ j,j<k->(yb a).getD j 0=(yb b).getD j 0) (c:¬ (((yb a).getD k 0).toNat:Int)=(((yb b).getD k 0).toNat:Int)) (h:(decide ((((yb a).getD k 0).toNat:Int)<(((yb b).getD k 0).toNat:Int))&&decide ((((yb b).getD k 0-(yb a).getD k 0).toNat:Int) > 1))=false):a=aV (qU (yb a) (yb b)):=by
 have e:=aFJ f g c;unfold qU;rw [e,if_neg,sM];grind[yb]
theorem aRq (f:k<=a.size∧k<=b.size) (hm:min a.size b.size<=k) (c:∀ j,j<k->(yb a).getD j 0=(yb b).getD j 0):a=aV (qU (yb a) (yb b)):=by
 have e:gF (yb a) (yb b)=k:=aDH (by grind[bZ]) (by grind[bZ]) c (by grind[bZ]);unfold qU;rw [e,if_neg (by grind[bZ]),sM]
theorem aRs {x:Y} (h:a.size<=1000000):(aV ((yb a).take k)).size+(aV [x]).size<=9223372036854775807:=by
 grind[fS,bZ]
theorem aJT (e:∀ j,j<k->(yb a).getD j 0=(yb b).getD j 0) (h:(((yb a).getD k 0).toNat:Int)=(((yb b).getD k 0).toNat:Int)):∀ j,j<k+1->(yb a).getD j 0=(yb b).getD j 0:=fun j c=>by
 grind[wl]
end
section
variable {α:Type} {p:α→Bool} {l:List α} {k:Nat} {x:α}
def cZ (p:α->Bool) (l:List α):Int:=match l.findIdx? p with | some i=>(i:Int) | none => -1
theorem aBv (h:∀ j y,j<k->l[j]? = some y->p y=false) (c:l[k]? = some x) (e:p x=false):∀ j y,j<k+1->l[j]? = some y->p y=false:=fun j y f a=>by
 grind
theorem aBt (h:∀ j y,j<k->l[j]? = some y->p y=false) (a:l[k]? = some x) (c:p x=true):eV [.int .i64 (k:Int)]=.int .i64 (cZ p l):=by
 have e:k<l.length:=(xb.1 a).1;have:l.findIdx? p=some k:=by
  grind[xu]
 simp_all[cZ,eV]
theorem aBu (h:∀ j y,j<k->l[j]? = some y->p y=false) (e:l.length<=k):eV [.int .i64 (-1)]=.int .i64 (cZ p l):=by
 have:l.findIdx? p=none:=by
  rw [kx];intro y a;obtain ⟨i,c,rfl⟩:=yo a;exact h i _ om (wi c)
 grind[cZ,eV]
theorem aGH:decide (cZ p l>=0)=l.any p:=by
 grind[cZ]
end
section
variable {l:List Ent} {k:Nat} {x y:Ent}
theorem aNB:((!le x.user y.user)||(x.user.toList == y.user.toList&&decide ((x.seq.toNat:Int)<=(y.seq.toNat:Int)))) = !dH x y:=by
 rw [aLX,Bool.not_not];unfold dH;rcases aB1 x.user y.user with h | h | h
 ·grind[toList_inj,aD0]
 ·rw [h,yJ,beq_self_eq_true];grind
 grind[toList_inj,aD0]
theorem aZS (a:l[k]? = some x):l.getD k Ent.zero=x:=by simp_all
theorem aND (g:1<=k) (h:∀ j,j+1<k->dH (l.getD j Ent.zero) (l.getD (j+1) Ent.zero)=true) (f:l[k-1]? = some x) (a:l[k]? = some y) (c:((!le x.user y.user)||(x.user.toList == y.user.toList&&decide ((x.seq.toNat:Int)<=(y.seq.toNat:Int))))=false) :
  ∀ j,j+1<k+1->dH (l.getD j Ent.zero) (l.getD (j+1) Ent.zero)=true:=fun j i=>by
 by_cases e:j+1=k
 ·have m:j=k-1:=by omega
  grind[aNB]
 grind
theorem aNC (g:1<=k) (f:l[k-1]? = some x) (a:l[k]? = some y) (c:((!le x.user y.user)||(x.user.toList == y.user.toList&&decide ((x.seq.toNat:Int)<=(y.seq.toNat:Int))))=true):cR l=false:=by
 have e:k<l.length:=(xb.1 a).1;refine aZZ (i:=k-1) om ?_;grind[aNB]
theorem aZT (a:l.length<=k∨l.length=0) (h:∀ j,j+1<k->dH (l.getD j Ent.zero) (l.getD (j+1) Ent.zero)=true):cR l=true:=vF fun i c=>h i om
theorem aOI (a:cC l<=100000000) (c:l.length<=100000000) (e:k<=l.length):0<=iD l k∧iD l k<=900000000:=by
 grind[aOH,aEq]
theorem bBK (a:l[k]? = some x):iD l (k+1)=iD l k+((x.user.size:Int)+x.value.size+8):=by rw [iD,aZS a]
theorem aSx {a:Int} (h:∀ j,j<k->iD l (j+1)<a) (c:¬ iD l (k+1)>=a):∀ j,j<k+1->iD l (j+1)<a:=fun j e=>by
 grind
theorem aUq (h:m.wf) : [V 2#8,.int .u8 m.level,.int .u64 m.gen,.int .u64 m.epoch,.int .u64 m.number]=(eG m).cells:=by
 have c:((qh 8 m.level).toNat:Int)=m.level:=by have:=h.level; grind[zm]
 have a:∀ z:Int,0<=z∧z<=18446744073709551615->((qh 64 z).toNat:Int)=z:=fun z f=>by grind[zm]
 have e:(eG m).cells=[V 2#8,.int .u8 ((qh 8 m.level).toNat:Int),.int .u64 ((qh 64 m.gen).toNat:Int),.int .u64 ((qh 64 m.epoch).toNat:Int),.int .u64 ((qh 64 m.number).toNat:Int)]:=rfl;rw [e,c,a _ h.gen,a _ h.epoch,a m.number (by have:=h.number; omega)]
end
def gT (e m:Ent):Bool := !(m.user.toList == e.user.toList)
def fI (l:List Ent):Nat:=if cZ (gT (bU l)) l<0 then l.length else (cZ (gT (bU l)) l).toNat
def vZ (last:Bool) (e:Ent):Bool:=last&&decide (e.kind=0#8)
def tB (last:Bool) (e:Ent):List Ent:=if vZ last e=true then [] else [e]
def kY:Nat->Bool->List Ent->List Ent
 | 0,_,_=>[]
 | f+1,last,l=>if l=[] then [] else tB last (bU l)++kY f last (l.drop (fI l))
def mY (last:Bool) (l:List Ent):List Ent:=kY l.length last l
theorem aK1 (e:Ent) (r:List Ent):bU (e :: r)=e:=rfl
theorem aK8 {p:α->Bool} {l:List α}:cZ p l<(l.length:Nat)∧(cZ p l<0∨∀ x,l[0]? = some x->p x=false->0<cZ p l):=by
 grind[cZ,xu]
theorem aMB (e:Ent):gT e e=false:=by simp[gT]
theorem aDl {l:List Ent} (h:0<l.length):l[0]? = some (bU l):=by
 simp_all[bU]
theorem aMW {l:List Ent}:fI l<=l.length:=by
 have:=(aK8 (p:=gT (bU l)) (l:=l)).1;grind[fI]
theorem aAg {l:List Ent} (h:0<l.length):0<fI l:=by
 unfold fI; split
 ·exact h
 ·have:=(aK8 (p:=gT (bU l)) (l:=l)).2.resolve_left om _ (aDl h) (aMB _); omega
theorem aGy {l:List Ent} (h:cZ (gT (bU l)) l<0):fI l=l.length:=if_pos h
theorem aGx {l:List Ent} (h:0<=cZ (gT (bU l)) l):((fI l:Nat):Int)=cZ (gT (bU l)) l:=by unfold fI; grind
theorem aVu {f:Nat} {last:Bool} {l:List Ent} (h:l.length=0):kY f last l=[]:=by
 cases f<;>simp_all[kY]
theorem aVv {f:Nat} {last:Bool} {l:List Ent} (h:0<l.length) (a:l.length<=f) :
  ∃ f',f=f'+1∧kY f last l=tB last (bU l)++kY f' last (l.drop (fI l))∧(l.drop (fI l)).length<=f'∧(l.drop (fI l)).length<l.length:=by
 have c:=aAg h;cases f with
 | zero=>omega
 | succ f=>exact ⟨f,rfl,by rw [kY,if_neg (fun e=>by simp_all)],by grind,by grind⟩
theorem aVz {last:Bool} {e:Ent} {K:List Ent} (h:K=[e]∨K=[]∧vZ last e=true) (a:K=[e]->vZ last e=false):K=tB last e:=by
 unfold tB;grind
theorem aFt {l:List Ent}:∀ u∈l.flatMap Ent.cells,u.oneCell'=true:=fun u a=>by grind[Ent.one]
theorem aTE {last:Bool} {e:Ent} {p:Prop} (c:(last=true∧p)∧((e.kind.toNat:Nat):Int)=0):vZ last e=true:=by
 unfold vZ; rw [c.1.1,Bool.true_and,decide_eq_true_eq]; apply wl; simp_all
theorem aTD {last:Bool} {e:Ent} {K:List Ent} (c:(last=false∨(K.length:Int)<=0)∨¬((e.kind.toNat:Nat):Int)=0) (h:K=[e]):vZ last e=false:=by
 unfold vZ;grind
theorem aVx {last:Bool} {f a:Nat} {lk L O K R:List Ent} {n:Nat} (c:O++kY f last lk=R) (hm:kY f last lk=tB last (bU lk)++kY a last (lk.drop n)) (g:K=tB last (bU lk)) (e:L=lk.drop n):(O++K)++kY a last L=R:=by
 simp_all
theorem aVw {last:Bool} {f:Nat} {lk O R:List Ent} (a:O++kY f last lk=R) (h:lk.length=0):O=R:=by
 simp_all[aVu]
theorem Ct.monoG {P:Program} {G:PM} {μ:aB} {f:FuncId} {args:Array Value} {Q j:PM->aB->Value->Prop} (h:Ct P f args G μ Q) (l:∀ a μ' u,PM.le G a->Q a μ' u->j a μ' u):Ct P f args G μ j:=by
 intro w i;refine (h w i).mono ?_;rintro e p ⟨u,a,k,rfl,g,n⟩;exact ⟨u,a,k,rfl,g,l _ _ _ (fun b o c=>g.le b o (fun m=>by rw [i.apart b m] at c; cases c) c) n⟩
def lI:List Ent->Nat
 | []=>0
 | e :: r=>e.user.size+e.value.size+lI r
def eJ (l:List Ent):Nat:=8*l.length+lI l
def smE (l:List Ent):Prop:=∀ e,e∈l->e.user.size+e.value.size<=100000
theorem aHm {l:List Ent} (h:smE l):lI l<=100000*l.length:=by
 induction l with
 | nil=>trivial
 | cons e r ih=>grind[lI,smE]
theorem aOR {a b:List Ent}:lI (a++b)=lI a+lI b:=by
 induction a<;>grind[lI]
theorem bBW {l:List Ent} {e:Ent} (h:l[k]? = some e):lI (l.take (k+1))=lI (l.take k)+(e.user.size+e.value.size):=by
 simp_all[wg,aOR,lI]
theorem smE.take {l:List Ent} (h:smE l) (k:Nat):smE (l.take k):=fun e a=>h e (List.mem_of_mem_take a)
theorem smE.drop {l:List Ent} (h:smE l) (k:Nat):smE (l.drop k):=fun e a=>h e (List.mem_of_mem_drop a)
def aA1 (p:Pe):Value:=p.1.val p.2.length
def pU (v:Value):List Value:=[v]
theorem aNw {xs:List α} {x:α}:(xs++[x])[xs.length]? = some x:=by simp
theorem aNx {xs:List α} {x y:α}:(xs++[x]).set xs.length y=xs++[y]:=by simp
theorem aM8 {G:PM} {μ a:aB} {b m cap:Nat} (h:MTake μ (rS 1 pU (.slice (some ⟨b,0,none⟩) m cap) E vs) a) (c:vs[k]? = some v) (e:q=k):Rd G μ ⟨b,q,none⟩ v :=
 iK (G:=G) h (fun _ _=>rfl) c (q:=q) om 0 _ rfl
def uV (D:List Pe) (has:Bool) (vc:Value):List Value:=D.map aA1++(if has=true then [vc] else [])
structure StS where
 D:List (List Ent)
 has:Bool
 C:List Ent
 room:Nat
def StS.out (s:StS):List (List Ent):=s.D++(if s.has=true then [s.C] else [])
def lH (most:Nat) (s:StS) (P:List Ent):StS :=
 if s.has=false∨s.room<eJ P then ⟨s.out,true,P,max most 1-min (max most 1) (eJ P)⟩ else ⟨s.D,true,s.C++P,s.room-min s.room (eJ P)⟩
def gK:Nat->List Ent->List (List Ent)
 | 0,_=>[]
 | f+1,l=>if l=[] then [] else l.take (fI l) :: gK f (l.drop (fI l))
def lG (most:Nat) (l:List Ent):List (List Ent):=((gK l.length l).foldl (lH most) ⟨[],false,[],0⟩).out
theorem aZx {f:Nat} {l:List Ent} (h:l.length=0):gK f l=[]:=by
 cases f<;>simp_all[gK]
theorem aZy {f:Nat} {l:List Ent} (h:0<l.length) (a:l.length<=f):∃ f',f=f'+1∧gK f l=l.take (fI l) :: gK f' (l.drop (fI l))∧(l.drop (fI l)).length<=f':=by
 have c:=aAg h;cases f with
 | zero=>omega
 | succ f=>exact ⟨f,rfl,by rw [gK,if_neg (fun e=>by simp_all)],by grind⟩
theorem aMX {l:List Ent} (h:∀ j y,j<k->l[j]? = some y->gT (bU l) y=false) (c:k=l.length∨∃ x,l[k]? = some x∧gT (bU l) x=true):fI l=k:=by
 rcases c with rfl | ⟨x,e,m⟩
 ·have g:cZ (gT (bU l)) l = -1:=by
   unfold cZ;rw [kx.2 fun y a=>by obtain ⟨i,p,rfl⟩:=yo a; simp_all]
  simp_all[aGy]
 ·have f:k<l.length:=(xb.1 e).1;have g:cZ (gT (bU l)) l=k:=by
   unfold cZ;rw [show l.findIdx? (gT (bU l))=some k from xu.2 ⟨f,by simp_all,fun j n=>by grind⟩]
  grind[aGx]
theorem aWj {D:List Pe}:(aU D).length=D.length:=qm _
theorem aMi {D:List Pe} {has:Bool} {s:Sh} {C:List Ent}:∃ D':List Pe,uV D has (s.val C.length)=D'.map aA1∧aU D'=(⟨aU D,has,C,0⟩ : StS).out∧∀ {G:PM},AllE G D->SlR G 4 Ent.cells s C->AllE G D':=by
 cases has with
 | false=>exact ⟨D,by simp [uV],by simp [StS.out],fun h _=>h⟩
 | true =>
  refine ⟨D++[(s,C)],by simp [uV,aA1],by simp [StS.out,aU],fun h c p a=>?_⟩;rcases qv.1 a with a | a
  ·exact h p a
  simp_all
theorem bA6 {most:Nat} {D c:List Pe} {has:Bool} {C e:List Ent} {room a:Nat} {P:List Ent} (h:(⟨aU c,true,e,a⟩ : StS)=lH most ⟨aU D,has,C,room⟩ P) (hm:most<=4611686018427387904) (f:room<=4611686018427387904) :
  c.length<=D.length+1∧e.length<=C.length+P.length∧a<=4611686018427387904:=by
 have i:(aU c).length=c.length:=qm _;have g:(aU D).length=D.length:=qm _;unfold lH at h;split at h
 ·grind[StS.out]
 grind
theorem aV8 {most f a:Nat} {lk L c:List Ent} {s s' R:StS} {n:Nat} (g:(gK f lk).foldl (lH most) s=R) (e:gK f lk=lk.take n :: gK a (lk.drop n)) (i:L=lk.take n) (j:c=lk.drop n) (h:s'=lH most s L):(gK a c).foldl (lH most) s'=R:=by
 simp_all
theorem aV7 {l:List Ent} (h:∀ j y,j<k->l[j]? = some y->gT (bU l) y=false) (c:(k:Int)<(l.length:Nat)∧(l.getD k Ent.zero).user.toList=(bU l).user.toList):∀ j y,j<k+1->l[j]? = some y->gT (bU l) y=false:=fun j y e a=>by
 grind[gT]
theorem aLS {l:List Ent}:∀ j y,j<1->l[j]? = some y->gT (bU l) y=false:=fun j y c a=>by
 simp_all[bU,aMB]
theorem aV6 {l:List Ent} (a:k<=l.length) (h:∀ j y,j<k->l[j]? = some y->gT (bU l) y=false) (c:(l.length:Int)<=(k:Nat)∨¬ (l.getD k Ent.zero).user.toList=(bU l).user.toList):fI l=k:=by
 refine aMX h ?_;grind[gT]
theorem SlR.asPe {G:PM} {s:Sh} {D:List Pe} (h:SlR G 1 pU s (D.map aA1)):SlR G 1 jQ s D:=by
 refine ⟨fun a=>h.there (fun e=>a (List.map_eq_nil_iff.1 e)),by have:=h.le; simp_all,fun i x c=>?_⟩;exact h.rd i (aA1 x) (by simp_all)
theorem SrE.of {l:List Ent} (h:cR l=true):SrE l:=aHJ h
theorem aFD {ls:List (List Ent)}:∀ {i j:Nat},j<i->0<(ls.getD j []).length->dU ls i≠0∧dH (bU (ls.getD j [])) (bU (ls.getD (dU ls i-1) []))=false
 | 0,j,h,_=>absurd h (Nat.not_lt_zero _)
 | i+1,j,h,hn=>by
  rw [dU];by_cases hc:uI ls (dU ls i) i=true
  ·rw [if_pos hc];refine ⟨Nat.succ_ne_zero _,?_⟩;show dH _ (bU (ls.getD i []))=false;rcases Nat.lt_or_ge j i with a | a
   ·obtain ⟨hb,ha⟩:=aFD a hn;unfold uI at hc;rw [qq,wv,decide_eq_true_eq,decide_eq_true_eq] at hc;grind[aE7]
   grind[aIz]
  rw [if_neg hc];rcases ya j i with a | a
  ·exact aFD a hn
  have e:j=i:=by omega
  simp_all[uI]
theorem aTb {e:Ent} {l:List Ent} (f:SrE l) (h:0<l.length->dH (bU l) e=false):∀ x∈eX e l,dH e x=true:=by
 cases l with
 | nil=>simp[eX]
 | cons a r =>
  have g:=h (km _);rw [aK1] at g;have k:=yd.1 f;intro x j;cases i:dH e a with
  | true =>
   have c:x∈a :: r:=by
    grind[eX]
   rcases qg.1 c with rfl | c
   ·exact i
   grind[aE7]
  | false =>
   have c:x∈r:=by
    simp_all[eX,aK1]
   have n:a.user=e.user∧a.seq=e.seq:=Classical.byContradiction fun m=>by
    simp_all[aI0]
   simp_all[zR]
theorem aGl:∀ {f:Nat} {ls:List (List Ent)},(∀ l∈ls,SrE l)->fQ ls<=f->SrE (nB f ls)∧(nB f ls).length<=fQ ls∧∀ x∈nB f ls,∃ l∈ls,x∈l
 | 0,ls,_,_=>⟨List.Pairwise.nil,Nat.zero_le _,fun x c=>nomatch c⟩
 | f+1,ls,hs,hf=>by
  by_cases hb:dU ls ls.length=0
  ·simp_all[SrE,nB]
  obtain ⟨e,he⟩ : ∃ e,bU (ls.getD (dU ls ls.length-1) [])=e:=⟨_,rfl⟩;have C:=(aBP (ls:=ls) (i:=ls.length)).resolve_left hb;have D:=aBO (ls:=ls) (i:=ls.length);obtain ⟨m,r,w,v,G⟩:=aLq hb he hf;have g:m=f:=by omega
  subst g;rw [w];have t:∀ l∈ls.map (eX e),∀ x∈l,dH e x=true:=by
   intro l a x c;obtain ⟨k,h,rfl⟩:=qi.1 a;refine aTb (hs k h) (fun A=>?_) x c;obtain ⟨j,E,rfl⟩:=yo h;have F:ls.getD j []=ls[j]:=by simp_all
   grind[aFD]
  obtain ⟨p,y,n⟩:=aGl (f:=m) (ls:=ls.map (eX e)) (fun l a=>by
   obtain ⟨k,h,rfl⟩:=qi.1 a;grind[eX,SrE]) v
  refine ⟨yd.2 ⟨fun x c=>?_,p⟩,by grind,fun x c=>?_⟩
  ·grind
  rcases qg.1 c with rfl | c
  ·grind[ki,bU]
  obtain ⟨l,a,q⟩:=n x c;obtain ⟨k,h,rfl⟩:=qi.1 a;grind[eX]
theorem aWx {ls:List (List Ent)} (h:∀ l∈ls,cR l=true) (hm:∀ l∈ls,smE l):cR (jK ls)=true∧(jK ls).length<=fQ ls∧smE (jK ls):=by
 obtain ⟨e,c,g⟩:=aGl (fun l a=>SrE.of (h l a)) (qd (fQ ls));exact ⟨e.rises,c,fun x f=>by grind[smE,jK]⟩
theorem aBx:∀ {f:Nat} {last:Bool} {l:List Ent},(kY f last l).Sublist l
 | 0,_,_=>List.nil_sublist _
 | f+1,last,l=>by
  rw [kY]; split
  ·simp
  ·rename_i hne;have h0:0<l.length:=xi.2 hne;have c:(tB last (bU l)).Sublist (l.take (fI l)):=by
    have h : [bU l].Sublist (l.take (fI l)):=by
     have g:=aAg h0;cases l with
     | nil=>simp_all
     | cons a r =>
      obtain ⟨m,e⟩ : ∃ m,fI (a :: r)=m+1:=⟨fI (a :: r)-1,om⟩;grind[bU]
    grind[tB]
   have:=c.append (aBx (f:=f) (last:=last) (l:=l.drop (fI l)));rwa [qx] at this
theorem aGP {last:Bool} {l:List Ent} (h:cR l=true) (hm:smE l):cR (mY last l)=true∧(mY last l).length<=l.length∧smE (mY last l) :=
 ⟨SrE.rises (List.Pairwise.sublist aBx (SrE.of h)),aBx.length_le,fun x a=>hm x (aBx.subset a)⟩
theorem aFB (a b:ByteArray):(a == b)=decide (a=b):=by
 rcases a with ⟨a⟩; rcases b with ⟨b⟩
 show (a == b)=_;grind
abbrev FE:=ByteArray×Value×Nat
def mE (e:FE):MapEntry:=⟨.string e.1,e.2.1,e.2.2⟩
def mO (es:List FE) (clk:Nat):Obj:=.map (es.map mE).toArray clk
def hZ (k:ByteArray):List FE->Option Value
 | []=>none
 | e :: r=>if e.1=k then some e.2.1 else hZ k r
def rF (k:ByteArray) (v:Value):List FE->List FE
 | []=>[]
 | e :: r=>if e.1=k then (e.1,v,e.2.2) :: r else e :: rF k v r
def uP (k:ByteArray):List FE->List FE
 | []=>[]
 | e :: r=>if e.1=k then r else e :: uP k r
def pV (k:ByteArray):List FE->Nat->Option (Nat×Value)
 | [],_=>none
 | e :: r,i=>if e.1=k then some (i,e.2.1) else pV k r (i+1)
theorem aBi {k:ByteArray}:∀ (es:List FE) (i:Nat),Instr.findNow .string (.string k) (es.map mE) i=some (pV k es i)
 | [],i=>rfl
 | e :: es,i=>by
  rw [List.map_cons,Instr.findNow,pV];by_cases h:e.1=k
  ·simp_all[Instr.sameNow,mE,aFB]
  ·rw [if_neg h];have:(k == e.1)=false:=by rw [aFB]; exact decide_eq_false fun q=>h q.symm
   simp only [Instr.sameNow,mE,this];exact aBi es (i+1)
theorem aDe {k:ByteArray}:∀ {es:List FE} {i:Nat},pV k es i=none->hZ k es=none
 | [],_,_=>rfl
 | e :: es,i,h=>by
  unfold pV at h; unfold hZ;split at h
  ·cases h
  ·rename_i q; rw [if_neg q]; exact aDe h
theorem aBj {k:ByteArray} {j:Nat} {v:Value}:∀ {es:List FE} {i:Nat},pV k es i=some (j,v)->i<=j∧hZ k es=some v∧(∃ e,es[j-i]? = some e∧e.1=k) ∧
  (∀ u,((es.map mE).modify (j-i) fun e=>{ e with key:=.string k,val:=u })=(rF k u es).map mE)∧((es.map mE).eraseIdx (j-i)=(uP k es).map mE)
 | e :: es,i,h=>by
  unfold pV at h;split at h
  ·simp_all[hZ,rF,mE,uP]
  rename_i q;obtain ⟨h1,h2,⟨e',h3,h4⟩,h5,h6⟩:=aBj h;have a:j-i=(j-(i+1))+1:=by omega
  refine ⟨om,by simp_all[hZ],⟨e',by simp_all,h4⟩,fun u=>?_,?_⟩
  ·simp_all[rF]
  simp_all[uP]
def tJ (P:Program) (T:TypeId):Option TypeId :=
 match P.underlying T with
 | some (.map k e)=>match P.underlying k with
  | some .string=>some e
  | _=>none
 | _=>none
theorem aCA {P:Program} {T e:TypeId} (h:tJ P T=some e):∃ k,P.underlying T=some (.map k e)∧P.underlying k=some .string:=by
 grind[tJ]
theorem aDC {P:Program} {T:TypeId} (a:P.underlying T=some .string) (e:Bool) (n:Nat) (k:ByteArray) (w:World):(Instr.checkKey e (n+1) T (.string k)).run P w=.ok () w:=by
 simp_all[Instr.checkKey,run_underlying]
theorem Tr.setO {G:PM} {w:World} {b:Nat} {o o':Obj} (f:Sat G [.blk b o] w):Tr G (keys [.blk b o]) w G [.blk b o'] { w with heap:=w.heap.setIfInBounds b o' }:=by
 have i:w.heap[b]? = some o:=f.own (.blk b o) (qf.2 rfl);have g:b<w.heap.size:=(Array.getElem?_eq_some_iff.1 i).1;have k:G b=none:=f.apart b (by simp [keys,Res.keys]);refine ⟨⟨fun c o a=>?_,fun r j=>?_,fun c a=>?_,by simp [keys,Res.keys]⟩,rfl,rfl,rfl,by simp,fun c _ a=>⟨?_,rfl⟩,fun c a=>.inl a,fun _ _ _ h=>h⟩
 ·show (w.heap.setIfInBounds b _)[c]? = _;rw [Array.getElem?_setIfInBounds_ne (fun e=>by simp_all)];exact f.sub c o a
 ·simp_all[Res.sat]
 ·simp_all[keys,Res.keys]
 grind[keys,Res.keys]
theorem Tr.setT {e G:PM} {K0:List Nat} {w0 w:World} {b:Nat} {o o':Obj} (ht:Tr e K0 w0 G [.blk b o] w) (h:b∈K0):Tr e K0 w0 G [.blk b o'] { w with heap:=w.heap.setIfInBounds b o' }:=by
 have a:=Tr.setO (o':=o') ht.sat;refine ⟨a.sat,a.os.trans ht.os,a.tape.trans ht.tape,a.output.trans ht.output,wh ht.size a.size,fun c g f=>?_,ht.mine,ht.le⟩;have i:=ht.old c g f;grind
def zN (es:List FE) (seen:List Nat):Option FE->Prop
 | none=>∀ e∈es,e.2.2∈seen
 | some e=>e∈es∧¬ e.2.2∈seen
def nxT:Option FE->Array Value
 | none=>#[.bool false]
 | some e=>#[.bool true,.string e.1,e.2.1]
def nxV (o:Option FE):Value:=.tuple (nxT o)
theorem aMV (o:Option FE):(nxT o).toList[0]? = some (.bool o.isSome):=by cases o<;>rfl
def jJ (bm since last:Nat) (seen:List Nat):Obj:=.mapIter (some bm) since seen.toArray last
def nxI (bm since last clk:Nat) (seen:List Nat):Option FE->Obj
 | none=>jJ bm since last seen
 | some e=>jJ bm since clk (seen++[e.2.2])
theorem aZ2 {P:Program} {n:Nat} (a:0<n) (w:World):∃ j w',(choose (.mapNext n)).run P w=.ok j w'∧j<n∧(w'=w∨w' = { w with drawn:=w.drawn+1 }):=by
 by_cases c:(Question.mapNext n).forced=true
 ·exact ⟨0,w,by simp_all,a,.inl rfl⟩
 ·exact ⟨(Question.mapNext n).cut (w.tape w.drawn (.mapNext n)),{ w with drawn:=w.drawn+1 },by simp_all,Nat.mod_lt _ a,.inr rfl⟩
section
variable {dr:Bool} {mc:Md} {P:Program} {n:Fm} {l:List Oper} {K:aG→PM→aB→Prop} {i:Nat} {σ:List Nat} {ρ:aG} {G:PM} {μ:aB}
variable {d t:Nat} {p:String} {af:Array Edge} {g:Option (Nat×Bool)} {c:Bool}
theorem mkM {T:TypeId} (f:nth l i=some ⟨some d,.makeMap T none,t,p,af,none⟩) (h:∀ b,Wo dr mc P n l K σ ((d,true,.map (some b)) :: ρ) G (.blk b (mO [] 0) :: μ)):Wo dr mc P n l K (i :: σ) ρ G μ:=by
 refine .act (μ₁:=[]) (μ₂:=μ) (post:=fun j c v=>∃ b,j=G∧c=[.blk b (mO [] 0)]∧v=.map (some b)) f (.inl rfl) .no (.refl _) (fun a w k e=>.inl ?_) ?_
 ·have g:Tr G (keys []) w G (.blk w.heap.size (.map #[] 0) :: []) (w.alloc (.map #[] 0)):=(gR (Sat.left (μ:=[]) e)).alloc _;exact ⟨.map (some w.heap.size),w.alloc (.map #[] 0),G,[.blk w.heap.size (mO [] 0)],.inl (by rfl),g,w.heap.size,rfl,rfl,rfl⟩
 simp_all[bT]
theorem aNe {e b clk:Nat} {es:List FE} {k:ByteArray} {z:Value} {w:World} {ok:Bool} (h:tJ P T=some e) (n:(P.info? e).bind (·.zero)=some z) (h3:w.heap[b]? = some (mO es clk)) :
  (Instr.lookup T (.map (some b)) (.string k) ok).run P w=.ok (if ok then .tuple #[(hZ k es).getD z,.bool (hZ k es).isSome] else (hZ k es).getD z) w:=by
 obtain ⟨m,l,f⟩:=aCA h;have g:(zeroValue e).run P w=.ok z w:=by
  cases p:P.info? e<;>simp_all[zeroValue,typeInfo]
 have a:(getObj b).run P w=.ok (.map (es.map mE).toArray clk) w:=by simp_all[getObj,Sem.run,mO]
 have i:=aBi (k:=k) es 0;simp only [Instr.lookup,Sem.run_bind,run_underlying l,Result.andThen_ok,a,Sem.run_pure,aDC f,Instr.findKey,run_underlying f,i];cases c:pV k es 0 with
 | none=>rw [aDe c]; simp_all
 | some jv =>
  obtain ⟨j,v⟩:=jv;rw [(aBj c).2.1]; rfl
theorem lkS {e b clk:Nat} {x:Operand} {es:List FE} {k:ByteArray} {z:Value} (E:nth l i=some ⟨some d,.lookup T x y false,t,p,af,g⟩) (F:Gd l ρ g c) (H:tJ P T=some e) (q:(P.info? e).bind (·.zero)=some z) (A:Ev ρ c x (.map (some b))) (r:Ev ρ c y (.string k)) (f:∀ w,Sat G μ w->w.heap[b]? = some (mO es clk)) (C:(hZ k es).getD z=v) (h:Wo dr mc P n l K σ ((d,c,v) :: ρ) G μ):Wo dr mc P n l K (i :: σ) ρ G μ :=
 .read E (.inl rfl) F (fun j a w m D=>by
  have I:w.heap[b]? = some (mO es clk):=f w D;simp [execOp,A.eval m j,r.eval m j,aNe (ok:=false) H q I,C]) h
theorem aDu {e b clk:Nat} {x:Operand} {es:List FE} {k:ByteArray} {z:Value} (H:nth l i=some ⟨some d,.lookup T x y true,t,p,af,g⟩) (I:Gd l ρ g c) (J:tJ P T=some e) (r:(P.info? e).bind (·.zero)=some z) (C:Ev ρ c x (.map (some b))) (A:Ev ρ c y (.string k)) (f:∀ w,Sat G μ w->w.heap[b]? = some (mO es clk)) {q:Bool} (D:(hZ k es).getD z=v) (F:(hZ k es).isSome=q) (h:Wo dr mc P n l K σ ((d,c,.tuple #[v,.bool q]) :: ρ) G μ):Wo dr mc P n l K (i :: σ) ρ G μ :=
 .read H (.inl rfl) I (fun j a w m E=>by
  have L:w.heap[b]? = some (mO es clk):=f w E;simp [execOp,C.eval m j,A.eval m j,aNe (ok:=true) J r L,D,F]) h
theorem muS {e b clk:Nat} {x z:Operand} {es:List FE} {k:ByteArray} {c:aB} (I:nth l i=some ⟨none,.mapUpdate T x y z,t,p,af,none⟩) (L:tJ P T=some e) (H:Ev ρ true x (.map (some b))) (F:Ev ρ true y (.string k)) (E:Ev ρ true z v) (hm:MTake μ (.blk b (mO es clk)) c) (A:hZ k es=none) (h:Wo dr mc P n l K σ ρ G (.blk b (mO (es++[(k,v,clk)]) (clk+1)) :: c)):Wo dr mc P n l K (i :: σ) ρ G μ:=by
 refine .act (μ₁:=[.blk b (mO es clk)]) (μ₂:=c) (post:=fun D c u=>D=G∧c=[.blk b (mO (es++[(k,v,clk)]) (clk+1))]∧u=undef) I (.inl rfl) .no hm.perm (fun a w m r=>.inl ?_) ?_
 ·have S:w.heap[b]? = some (mO es clk):=r.left.own (.blk b (mO es clk)) (qf.2 rfl);obtain ⟨Q,O,C⟩:=aCA L;have g:(getObj b).run P w=.ok (.map (es.map mE).toArray clk) w:=by simp_all[getObj,Sem.run,mO]
  have f:∀ o,(setObj b o).run P w=.ok () { w with heap:=w.heap.setIfInBounds b o }:=fun o=>by simp_all[setObj,Sem.run,mO]
  have N:=aBi (k:=k) es 0;have M:pV k es 0=none:=by
   cases J:pV k es 0 with
   | none=>rfl
   | some jv=>rw [(aBj (j:=jv.1) (v:=jv.2) J).2.1] at A; cases A
  refine ⟨undef,_,G,_,.inr ⟨?_,rfl⟩,Tr.setO r.left,rfl,rfl,rfl⟩;simp only [execOp,H.eval m rfl,F.eval m rfl,E.eval m rfl,Instr.mapUpdate,Sem.run_bind,run_underlying O,Result.andThen_ok,g,Sem.run_pure,aDC C,Instr.findKey,run_underlying C,N,M,f];simp [mO,mE]
 rintro u D q _ ⟨rfl,rfl,rfl⟩;exact h
theorem muT {e b clk:Nat} {x z:Operand} {es:List FE} {k:ByteArray} {L:Value} {c:aB} (Q:nth l i=some ⟨none,.mapUpdate T x y z,t,p,af,none⟩) (Z:tJ P T=some e) (O:Ev ρ true x (.map (some b))) (N:Ev ρ true y (.string k)) (M:Ev ρ true z v) (hm:MTake μ (.blk b (mO es clk)) c) (hn:hZ k es=some L) (h:Wo dr mc P n l K σ ρ G (.blk b (mO (rF k v es) clk) :: c)):Wo dr mc P n l K (i :: σ) ρ G μ:=by
 refine .act (μ₁:=[.blk b (mO es clk)]) (μ₂:=c) (post:=fun J c u=>J=G∧c=[.blk b (mO (rF k v es) clk)]∧u=undef) Q (.inl rfl) .no hm.perm (fun a w C E=>.inl ?_) ?_
 ·have h3:w.heap[b]? = some (mO es clk):=E.left.own (.blk b (mO es clk)) (qf.2 rfl);obtain ⟨kt,h1,H⟩:=aCA Z;have q:(getObj b).run P w=.ok (.map (es.map mE).toArray clk) w:=by simp_all[getObj,Sem.run,mO]
  have f:∀ o,(setObj b o).run P w=.ok () { w with heap:=w.heap.setIfInBounds b o }:=fun o=>by simp_all[setObj,Sem.run,mO]
  have h6:=aBi (k:=k) es 0;cases F:pV k es 0 with
  | none=>grind[aDe]
  | some jv =>
   obtain ⟨j,v1⟩:=jv;obtain ⟨_,_,⟨I,A,X⟩,m,_⟩:=aBj F;rw [jo] at m A;have r:((es.map mE).toArray)[j]? = some (mE I):=by grind
   have g:Instr.sameBits 10000 (.string k) (.string k)=true:=by simp[Instr.sameBits,aFB]
   refine ⟨undef,_,G,_,.inr ⟨?_,rfl⟩,Tr.setO E.left,rfl,rfl,rfl⟩;simp only [execOp,O.eval C rfl,N.eval C rfl,M.eval C rfl,Instr.mapUpdate,Sem.run_bind,run_underlying h1,Result.andThen_ok,q,Sem.run_pure,aDC H,Instr.findKey,run_underlying H,h6,F,f,r,Option.map_some,Option.getD_some,Instr.keyThatStays];have S:(mE I).key=.string k:=by grind[mE]
   rw [S,g];simp only [if_true,Sem.run_pure,Result.andThen_ok,f];have:(es.map mE).toArray.modify j (fun e=>{ e with key:=.string k,val:=v })=((rF k v es).map mE).toArray:=by simp_all
   rw [this]; rfl
 rintro u J D _ ⟨rfl,rfl,rfl⟩;exact h
theorem dlS {C:Option Nat} {e b clk:Nat} {x:Operand} {es:List FE} {k:ByteArray} {D:Value} {c:aB} {Q:TypeId} (H:nth l i=some ⟨C,.call { callee:=.builtin .delete,args:=#[x,y],argTypes:=#[T,Q] },t,p,af,none⟩) (M:tJ P T=some e) (F:Ev ρ true x (.map (some b))) (E:Ev ρ true y (.string k)) (hm:MTake μ (.blk b (mO es clk)) c) (hn:hZ k es=some D) (h:Wo dr mc P n l K σ (bT ρ C true (.tuple #[])) G (.blk b (mO (uP k es) clk) :: c)):Wo dr mc P n l K (i :: σ) ρ G μ:=by
 refine .act (μ₁:=[.blk b (mO es clk)]) (μ₂:=c) (post:=fun S c u=>S=G∧c=[.blk b (mO (uP k es) clk)]∧u=.tuple #[]) H (.inl rfl) .no hm.perm (fun a w v q=>.inl ?_) ?_
 ·have h3:w.heap[b]? = some (mO es clk):=q.left.own (.blk b (mO es clk)) (qf.2 rfl);obtain ⟨Z,O,A⟩:=aCA M;have m:(getObj b).run P w=.ok (.map (es.map mE).toArray clk) w:=by simp_all[getObj,Sem.run,mO]
  have f:∀ o,(setObj b o).run P w=.ok () { w with heap:=w.heap.setIfInBounds b o }:=fun o=>by simp_all[setObj,Sem.run,mO]
  have N:=aBi (k:=k) es 0;cases r:pV k es 0 with
  | none=>grind[aDe]
  | some jv =>
   obtain ⟨j,X⟩:=jv;obtain ⟨_,_,⟨e',J,I⟩,_,g⟩:=aBj r;rw [jo] at g;have L:((es.map mE).toArray.eraseIdxIfInBounds j)=((uP k es).map mE).toArray:=by
    simp_all
   refine ⟨.tuple #[],_,G,_,.inl ?_,Tr.setO q.left,rfl,rfl,rfl⟩;simp [execOp,resolve,invoke,builtin,F.eval v rfl,E.eval v rfl,Builtin.delete_,Sem.run_bind,run_underlying O,m,aDC A,Instr.findKey,run_underlying A,N,r,f,L,mO];rw [g]
 simp_all
theorem aAa {b clk:Nat} {es:List FE} {a:aB} (hm:MTake μ (.blk b (mO es clk)) a):∀ w,Sat G μ w->w.heap[b]? = some (mO es clk):=fun w c=>c.own (.blk b (mO es clk)) (hm.perm.mem_iff.2 (ql ..))
theorem yL {b clk:Nat} {es:List FE} (h:G b=some (mO es clk)):∀ w,Sat G μ w->w.heap[b]? = some (mO es clk):=fun w a=>a.sub _ _ h
theorem rgS {b clk:Nat} {x:Operand} {es:List FE} {e:TypeId} (y:nth l i=some ⟨some d,.range T x,t,p,af,none⟩) (C:tJ P T=some e) (q:Ev ρ true x (.map (some b))) (f:∀ w,Sat G μ w->w.heap[b]? = some (mO es clk)) (h:∀ bi,Wo dr mc P n l K σ ((d,true,.pointer (some ⟨bi,0,none⟩)) :: ρ) G (.blk bi (jJ b clk clk []) :: μ)):Wo dr mc P n l K (i :: σ) ρ G μ:=by
 refine .act (μ₁:=[]) (μ₂:=μ) (post:=fun m g v=>∃ bi,m=G∧g=[.blk bi (jJ b clk clk [])]∧v=.pointer (some ⟨bi,0,none⟩)) y (.inl rfl) .no (.refl _) (fun a w A r=>.inl ?_) ?_
 ·have c:Sat G μ w:=by simp_all
  have H:w.heap[b]? = some (mO es clk):=f w c;obtain ⟨F,D,I⟩:=aCA C;have j:(getObj b).run P w=.ok (.map (es.map mE).toArray clk) w:=by simp_all[getObj,Sem.run,mO]
  have E:Tr G (keys []) w G (.blk w.heap.size (.mapIter (some b) clk #[] clk) :: []) (w.alloc (.mapIter (some b) clk #[] clk)):=(gR (Sat.left (μ:=[]) r)).alloc _;exact ⟨.pointer (some ⟨w.heap.size,0,none⟩),w.alloc (.mapIter (some b) clk #[] clk),G,[_],.inl (by simp [execOp,q.eval A rfl,Instr.range,Sem.run_bind,run_underlying D,j]),E,w.heap.size,rfl,rfl,rfl⟩
 rintro v m k _ ⟨b,rfl,rfl,rfl⟩;exact h b
theorem nxS {f g c last clk:Nat} {x:Operand} {es:List FE} {seen:List Nat} {q:aB} (ho:nth l i=some ⟨some d,.next x false,t,p,af,none⟩) (hx:Ev ρ true x (.pointer (some ⟨f,0,none⟩))) (hm:MTake μ (.blk f (jJ g c last seen)) q) (F:∀ w,Sat G μ w->w.heap[g]? = some (mO es clk)) (E:∀ e∈es,e.2.2<c) (O:∀ e∈es,e.2.2<last)
  (h:∀ o:Option FE,zN es seen o->Wo dr mc P n l K σ ((d,true,nxV o) :: ρ) G (.blk f (nxI g c last clk seen o) :: q)):Wo dr mc P n l K (i :: σ) ρ G μ:=by
 refine .act (μ₁:=[.blk f (jJ g c last seen)]) (μ₂:=q) (post:=fun G' M v=>∃ o,zN es seen o∧G'=G∧M=[.blk f (nxI g c last clk seen o)]∧v=nxV o) ho (.inl rfl) .no hm.perm (fun a w ha L=>.inl ?_) ?_
 ·have hi:w.heap[f]? = some (jJ g c last seen):=L.left.own (.blk f _) (qf.2 rfl);have hb:w.heap[g]? = some (mO es clk):=F w (L.perm hm.perm.symm);have H:(getObj g).run P w=.ok (.map (es.map mE).toArray clk) w:=by simp_all[getObj,Sem.run,mO]
  have I:(getObj f).run P w=.ok (.mapIter (some g) c seen.toArray last) w:=by simp_all[getObj,Sem.run,jJ]
  have c0:((!seen.toArray.isEmpty && !(es.map mE).toArray.isEmpty)&&(es.map mE).toArray.all (fun e=>decide (e.born>=last)))=false:=by
   cases es<;>grind[mE]
  have Z:((es.map mE).toArray.filter fun e => !seen.toArray.contains e.born)=((es.filter fun e => !seen.contains e.2.2).map mE).toArray:=by
   simp only [List.filter_toArray,List.filter_map,Function.comp_def,mE,List.contains_toArray]
  have X:(((es.filter fun e => !seen.contains e.2.2).map mE).toArray.filter fun e=>decide (e.born<c))=((es.filter fun e => !seen.contains e.2.2).map mE).toArray:=by
   rw [Array.filter_eq_self.2];intro m y;obtain ⟨e,Q,rfl⟩:=qi.1 (List.mem_toArray.1 y);exact decide_eq_true (E e (yz.1 Q).1)
  have T:(((es.filter fun e => !seen.contains e.2.2).map mE).toArray.filter fun e=>decide (e.born>=c)) = #[]:=by
   rw [Array.filter_eq_empty_iff];grind
  generalize hL:(es.filter fun e => !seen.contains e.2.2)=left at Z X T;obtain ⟨C,hC⟩ : ∃ C:List (Option MapEntry),C=if left=[] then [none] else left.map fun e=>some (mE e):=⟨_,rfl⟩
  have e4:((if ((left.map mE).toArray).isEmpty then #[none] else #[])++((left.map mE).toArray++#[]).map some:Array (Option MapEntry))=C.toArray:=by
   grind
  have S:0<C.toArray.size:=by
   rw [hC];split
   ·simp
   grind
  obtain ⟨j,k,J,hj,N⟩:=aZ2 (P:=P) S w;have r:Tr G (keys [.blk f (jJ g c last seen)]) w G [.blk f (jJ g c last seen)] k:=by
   rcases N with rfl|rfl
   ·exact gR L.left
   exact (gR L.left).drew
  have a7:k.heap[f]? = some (jJ g c last seen):=r.sat.own (.blk f _) (qf.2 rfl);have D:∀ o,(setObj f o).run P k=.ok () { k with heap:=k.heap.setIfInBounds f o }:=fun o=>by simp_all[setObj,Sem.run,jJ]
  by_cases hl:left=[]
  ·have A:C.toArray[j]? = some none:=by
    simp_all
   refine ⟨nxV none,k,G,[.blk f (nxI g c last clk seen none)],.inl ?_,r,none,fun e Q=>?_,rfl,rfl,rfl⟩
   ·simp only [execOp,hx.eval ha rfl,Instr.next,Sem.run_bind,I,H,Result.andThen_ok,c0,Z,X,T,e4,jg,if_false,J,A,Sem.run_pure,nxV,nxT];try rfl
   have:¬ e∈es.filter fun e => !seen.contains e.2.2:=by grind
   simp_all
  obtain ⟨e,Q⟩ : ∃ e,left[j]? = some e:=by
   simp_all
  have y:e∈es.filter fun e => !seen.contains e.2.2:=by grind
  have A:C.toArray[j]? = some (some (mE e)):=by simp_all
  refine ⟨nxV (some e),{ k with heap:=k.heap.setIfInBounds f (jJ g c clk (seen++[e.2.2])) },G,[.blk f (nxI g c last clk seen (some e))],.inl ?_,r.setT (by simp [keys,Res.keys]),some e,?_,rfl,rfl,rfl⟩
  ·have h6:=D (.mapIter (some g) c (seen.toArray.push e.2.2) clk);simp only [execOp,hx.eval ha rfl,Instr.next,Sem.run_bind,I,H,Result.andThen_ok,c0,Z,X,T,e4,jg,if_false,J,A,mE,h6,Sem.run_pure,nxV,nxT];simp [jJ]
  have:=yz.1 y;exact ⟨this.1,by simp_all⟩
 rintro v G' a0 _ ⟨o,h1,rfl,rfl,rfl⟩;exact h o h1
theorem etS {bi bm since clk stamp:Nat} {x:Operand} {es:List FE} {seen:List Nat} {e:FE} {μ1:aB} (ho:nth l i=some ⟨some d,.entry x,t,p,af,none⟩) (hx:Ev ρ true x (.pointer (some ⟨bi,0,none⟩))) (hm:MTake μ (.blk bi (jJ bm since clk (seen++[stamp]))) μ1) (hmap:∀ w,Sat G μ w->w.heap[bm]? = some (mO es clk))
  (hf:es.find? (fun e=>e.2.2 == stamp)=some e) (h:Wo dr mc P n l K σ ((d,true,.tuple #[.string e.1,e.2.1]) :: ρ) G μ):Wo dr mc P n l K (i :: σ) ρ G μ:=by
 refine .act (μ₁:=[]) (μ₂:=μ) (post:=fun G' μ' v=>G'=G∧μ'=[]∧v=.tuple #[.string e.1,e.2.1]) ho (.inl rfl) .no (.refl _) (fun a w ha hs0=>.inl ?_) ?_
 ·have hs:Sat G μ w:=by simp_all
  have hi:w.heap[bi]? = some (jJ bm since clk (seen++[stamp])):=hs.own (.blk bi _) (hm.perm.mem_iff.2 (ql ..));have hb:w.heap[bm]? = some (mO es clk):=hmap w hs;have hgo:(getObj bm).run P w=.ok (.map (es.map mE).toArray clk) w:=by simp_all[getObj,Sem.run,mO]
  have hgi:(getObj bi).run P w=.ok (.mapIter (some bm) since (seen++[stamp]).toArray clk) w:=by simp_all[getObj,Sem.run,jJ]
  have hfe:((es.map mE).toArray.find? fun e=>e.born == stamp)=some (mE e):=by
   rw [List.find?_toArray,List.find?_map];have:((fun e:MapEntry=>e.born == stamp) ∘ mE)=fun e:FE=>e.2.2 == stamp:=rfl;simp_all
  refine ⟨.tuple #[.string e.1,e.2.1],w,G,[],.inl ?_,gR (Sat.left (μ:=[]) hs0),rfl,rfl,rfl⟩;have hbk:(seen++[stamp]).toArray.back? = some stamp:=by simp
  simp only [execOp,hx.eval ha rfl,Instr.entry,Sem.run_bind,hgi,Result.andThen_ok,hbk,hgo];simp[*,mE]
 rintro v G' μ'' _ ⟨rfl,rfl,rfl⟩;exact h
end
structure Fi where
 nm:ByteArray
 h:Sh
 n:Nat
 safe:Nat
 born:Nat
def Fi.cells (f:Fi):List Value:=[f.h.val f.n,.int .i64 (f.safe:Int)]
def Fi.val (f:Fi):Value:=.agg f.cells.toArray
def Fi.z:Fi:=⟨xe,⟨none,0⟩,0,0,0⟩
theorem Fi.one (f:Fi):∀ u∈f.cells,u.oneCell'=true:=by
 intro u a;simp only [Fi.cells,qg,qj,or_false] at a;rcases a with rfl|rfl<;>rfl
instance qo1 {f:Fi}:QOne f.cells:=⟨Fi.one f⟩
instance ql2 {f:Fi}:QLen f.cells 2:=⟨rfl⟩
def Fi.fe (f:Fi):FE:=(f.nm,f.val,f.born)
def aZ:List Fi->Nat
 | []=>0
 | f :: r=>f.n+aZ r
def mK (seen:List Nat):List Fi->Nat
 | []=>0
 | f :: r=>(if f.born∈seen then f.n else 0)+mK seen r
def pY (seen:List Nat):List Fi->Nat
 | []=>0
 | f :: r=>(if f.born∈seen then 0 else 1)+pY seen r
theorem aHp {seen:List Nat}:∀ {F:List Fi},mK seen F<=aZ F
 | []=>Nat.le_refl _
 | f :: r=>by
  have:=aHp (seen:=seen) (F:=r);simp only [mK,aZ]; split<;>omega
theorem aOV:∀ {F:List Fi},mK [] F=0
 | []=>rfl
 | f :: r=>by simp [mK,aOV (F:=r)]
theorem aOW {seen:List Nat} {b:Nat}:∀ {F:List Fi},(∀ f∈F,f.born≠b)->mK (seen++[b]) F=mK seen F∧pY (seen++[b]) F=pY seen F
 | [],_=>⟨rfl,rfl⟩
 | f :: r,h=>by
  have h1:=aOW (seen:=seen) (b:=b) (F:=r) fun g c=>h g (qo _ c);have e:f.born≠b:=h f (ql ..);have a:f.born∈seen++[b]↔f.born∈seen:=by simp [e]
  simp only [mK,pY,h1.1,h1.2];by_cases q:f.born∈seen
  ·rw [if_pos (a.2 q),if_pos q,if_pos (a.2 q),if_pos q]; exact ⟨rfl,rfl⟩
  ·rw [if_neg (fun z=>q (a.1 z)),if_neg q,if_neg (fun z=>q (a.1 z)),if_neg q]; exact ⟨rfl,rfl⟩
theorem aOU {seen:List Nat} {e:FE}:∀ {F:List Fi},(F.map Fi.born).Nodup->zN (F.map Fi.fe) seen (some e)->∃ f∈F,e=f.fe∧mK (seen++[f.born]) F=mK seen F+f.n∧pY (seen++[f.born]) F+1=pY seen F
 | [],_,h=>by cases h.1
 | f :: r,hd,h=>by
  rw [List.map_cons,List.nodup_cons] at hd;obtain ⟨c,h2⟩:=h;rw [wr] at c;rcases qg.1 c with rfl | c
  ·refine ⟨f,ql ..,rfl,?_⟩;have j:=aOW (seen:=seen) (b:=f.born) (F:=r) fun g a k=>hd.1 (qi.2 ⟨g,a,k⟩);have i:¬ f.born∈seen:=h2;simp only [mK,pY,j.1,j.2];grind
  obtain ⟨g,a,rfl,i,m⟩:=aOU hd.2 ⟨c,h2⟩;refine ⟨g,qo _ a,rfl,?_⟩;have l:f.born≠g.born:=fun z=>hd.1 (qi.2 ⟨g,a,z.symm⟩);have p:f.born∈seen++[g.born]↔f.born∈seen:=by grind
  simp only [mK,pY,i];grind
theorem aOT {seen:List Nat}:∀ {F:List Fi},zN (F.map Fi.fe) seen none->mK seen F=aZ F
 | [],_=>rfl
 | f :: r,h=>by
  simp only [mK,aZ];have h0:f.born∈seen:=h f.fe (by simp);rw [if_pos h0,aOT fun e a=>h e (by simp_all)]
theorem aKW:∀ {F:List Fi} {f:Fi},(F.map Fi.born).Nodup->f∈F->(F.map Fi.fe).find? (fun e=>e.2.2 == f.born)=some f.fe
 | [],_,_,h=>by cases h
 | g :: r,f,hd,h=>by
  rw [List.map_cons,List.nodup_cons] at hd;rw [List.map_cons];rcases List.mem_cons.1 h with rfl | h
  ·simp[Fi.fe]
  ·have:g.born≠f.born:=fun z=>hd.1 (qi.2 ⟨f,h,z.symm⟩);rw [List.find?_cons_of_neg (by simpa [Fi.fe] using this)];exact aKW hd.2 h
structure DkR (F:List Fi) (clk:Nat):Prop where
 nd:(F.map Fi.born).Nodup
 un:(F.map Fi.nm).Nodup
 gn:∀ f∈F,f.nm.size≤100
 cnt:F.length≤100000
 old:∀ f∈F,f.born<clk
 few:aZ F≤1000000000
theorem DkR.oldE {F:List Fi} {clk:Nat} (h:DkR F clk):∀ e∈F.map Fi.fe,e.2.2<clk:=fun e c=>by
 obtain ⟨f,a,rfl⟩:=qi.1 c; exact h.old f a
def aM (nm:ByteArray):List Fi->Option Fi
 | []=>none
 | f :: r=>if f.nm=nm then some f else aM nm r
def dQ (nm:ByteArray):List Fi->List Fi
 | []=>[]
 | f :: r=>if f.nm=nm then { f with safe:=f.n } :: r else f :: dQ nm r
def eE (nm:ByteArray):List Fi->List Fi
 | []=>[]
 | f :: r=>if f.nm=nm then r else f :: eE nm r
theorem aB6 {nm:ByteArray}:∀ {F:List Fi},hZ nm (F.map Fi.fe)=(aM nm F).map Fi.val
 | []=>rfl
 | f :: r=>by
  rw [List.map_cons,hZ,aM];by_cases h:f.nm=nm
  ·simp_all[Fi.fe]
  ·rw [if_neg h,if_neg (show ¬ f.fe.1=nm from h)]; exact aB6
theorem aGY {nm:ByteArray} {F:List Fi}:(hZ nm (F.map Fi.fe)).getD (.agg #[.slice none 0 0,.int .i64 0])=((aM nm F).getD Fi.z).val:=by
 rw [aB6]; cases aM nm F<;>rfl
theorem aLc {nm:ByteArray} {F:List Fi}:(hZ nm (F.map Fi.fe)).isSome=(aM nm F).isSome:=by
 simp[aB6]
theorem aB0 {nm:ByteArray} {F:List Fi} (h:aM nm F=none):hZ nm (F.map Fi.fe)=none:=by simp_all[aB6]
theorem aAV {nm:ByteArray} {F:List Fi} {f:Fi} (h:aM nm F=some f):hZ nm (F.map Fi.fe)=some f.val:=by simp_all[aB6]
theorem aLd {nm:ByteArray} {F:List Fi} (h:aM nm F=none):(hZ nm (F.map Fi.fe)).getD (.agg #[.slice none 0 0,.int .i64 0])=.agg [.slice none 0 0,.int .i64 0].toArray:=by grind[aB0]
theorem aGX {nm:ByteArray} {F:List Fi} {f:Fi} (h:aM nm F=some f):(hZ nm (F.map Fi.fe)).getD (.agg #[.slice none 0 0,.int .i64 0])=.agg f.cells.toArray:=by rw [aAV h]; rfl
theorem aWg {nm:ByteArray} {F:List Fi} (h:aM nm F=none):(hZ nm (F.map Fi.fe)).isSome=false:=by grind[aB0]
theorem aL2 {nm:ByteArray} {f:Fi}:∀ {F:List Fi},aM nm F=some f->rF nm (.agg [f.h.val f.n,.int .i64 (f.n:Int)].toArray) (F.map Fi.fe)=(dQ nm F).map Fi.fe
 | [],h=>by cases h
 | g :: r,h=>by
  rw [List.map_cons,rF,dQ];rw [aM] at h;by_cases q:g.nm=nm
  ·rw [if_pos q] at h; rw [if_pos q,if_pos (show g.fe.1=nm from q)];cases h; rfl
  ·rw [if_neg q] at h; rw [if_neg q,if_neg (show ¬ g.fe.1=nm from q),aL2 h]; rfl
theorem aD3 {nm:ByteArray}:∀ {F:List Fi},uP nm (F.map Fi.fe)=(eE nm F).map Fi.fe
 | []=>rfl
 | g :: r=>by
  rw [List.map_cons,uP,eE];by_cases q:g.nm=nm
  ·simp_all[Fi.fe]
  ·rw [if_neg q,if_neg (show ¬ g.fe.1=nm from q),aD3]; rfl
theorem yB {nm:ByteArray}:∀ {F:List Fi},aZ (dQ nm F)=aZ F∧(dQ nm F).map Fi.born=F.map Fi.born
 | []=>⟨rfl,rfl⟩
 | g :: r=>by
  rw [dQ];by_cases q:g.nm=nm
  ·simp_all[aZ]
  ·rw [if_neg q]; exact ⟨by simp only [aZ,(yB (F:=r)).1],by simp only [List.map_cons,(yB (F:=r)).2]⟩
theorem aAM {nm:ByteArray}:∀ {F:List Fi},(dQ nm F).map Fi.nm=F.map Fi.nm
 | []=>rfl
 | g :: r=>by
  rw [dQ];by_cases q:g.nm=nm
  ·simp_all
  ·rw [if_neg q,List.map_cons,List.map_cons,aAM]
theorem aKc {nm:ByteArray}:∀ {F:List Fi},aM nm F=none->∀ f∈F,f.nm≠nm
 | [],_,_,h=>by cases h
 | g :: r,h,f,hf=>by
  rw [aM] at h;by_cases q:g.nm=nm
  ·simp_all
  ·rw [if_neg q] at h;rcases List.mem_cons.1 hf with rfl | hf
   ·exact q
   ·exact aKc h f hf
theorem xZ {nm:ByteArray}:∀ {F:List Fi},((eE nm F).map Fi.nm).Sublist (F.map Fi.nm)∧(eE nm F).length<=F.length
 | []=>⟨.slnil,Nat.le_refl _⟩
 | g :: r=>by
  rw [eE];by_cases q:g.nm=nm
  ·simp_all
  ·rw [if_neg q,List.map_cons,List.map_cons]; exact ⟨(xZ (F:=r)).1.cons_cons _,by have:=(xZ (nm:=nm) (F:=r)).2; simp only [List.length_cons]; omega⟩
theorem aAH {nm:ByteArray} {f:Fi}:∀ {F:List Fi},aM nm F=some f->aZ (eE nm F)+f.n=aZ F∧((F.map Fi.born).Nodup->((eE nm F).map Fi.born).Nodup)∧(∀ g∈eE nm F,g∈F)
 | [],h=>by cases h
 | g :: r,h=>by
  rw [aM] at h; rw [eE];by_cases q:g.nm=nm
  ·rw [if_pos q] at h ⊢;grind[aZ]
  rw [if_neg q] at h ⊢;obtain ⟨h1,h2,h3⟩:=aAH h;refine ⟨by grind[aZ],fun hd=>?_,fun x a=>?_⟩
  ·simp_all
  grind
theorem aAu:∀ {F H:List Fi},aZ (F++H)=aZ F+aZ H
 | [],H=>by simp [aZ]
 | f :: r,H=>by simp only [List.cons_append,aZ,aAu (F:=r)]; omega
theorem aFy {F:List Fi} {f:Fi}:F.map Fi.fe++[f.fe]=(F++[f]).map Fi.fe:=by simp
theorem DkR.app {F:List Fi} {clk:Nat} {f:Fi} (h:DkR F clk) (p:f.born=clk) (j:aZ F+f.n<=1000000000) (k:aM f.nm F=none) (l:f.nm.size<=100) (m:F.length<100000):DkR (F++[f]) (clk+1):=by
 refine ⟨?_,?_,fun x c=>?_,by grind,fun x c=>?_,by simp_all[aAu,aZ]⟩
 ·rw [wc];refine xz.2 ⟨h.nd,by simp,fun a g b e=>?_⟩;obtain ⟨y,i,rfl⟩:=qi.1 g;simp only [wr,kl,qf] at e;have:=h.old y i;omega
 ·rw [wc];refine xz.2 ⟨h.un,by simp,fun a g b e=>?_⟩;obtain ⟨y,i,rfl⟩:=qi.1 g;grind[aKc]
 ·rcases qv.1 c with c | c
  ·exact h.gn x c
  simp_all
 rcases qv.1 c with c | c
 ·have:=h.old x c; omega
 simp_all
theorem aUe {nm:ByteArray} {F:List Fi} {clk:Nat} (h:∀ f∈F,f.born<clk):∀ f∈dQ nm F,f.born<clk:=fun f a=>by
 have:f.born∈(dQ nm F).map Fi.born:=qi.2 ⟨f,a,rfl⟩;grind[yB]
theorem DkR.sy {F:List Fi} {clk:Nat} {nm:ByteArray} (h:DkR F clk):DkR (dQ nm F) clk :=
 ⟨by rw [yB.2]; exact h.nd,by rw [aAM]; exact h.un,fun f c=>by
   have:f.nm∈(dQ nm F).map Fi.nm:=qi.2 ⟨f,c,rfl⟩;rw [aAM] at this;obtain ⟨g,a,e⟩:=qi.1 this;rw [← e]; exact h.gn g a,by have:=congrArg wm (aAM (nm:=nm) (F:=F)); simp only [qm] at this; rw [this]; exact h.cnt,aUe h.old,by rw [yB.1]; exact h.few⟩
theorem DkR.del {F:List Fi} {clk:Nat} {nm:ByteArray} {f:Fi} (h:DkR F clk) (a:aM nm F=some f):DkR (eE nm F) clk :=
 ⟨(aAH a).2.1 h.nd,h.un.sublist xZ.1,fun g c=>h.gn g ((aAH a).2.2 g c),wh xZ.2 h.cnt,fun g c=>h.old g ((aAH a).2.2 g c),by have:=(aAH a).1; have:=h.few; omega⟩
theorem aBg {nm:ByteArray} {f:Fi}:∀ {F:List Fi},aM nm F=none->f.nm=nm->aM nm (F++[f])=some f
 | [],_,e=>by rw [List.nil_append,aM,if_pos e]
 | g :: r,h,e=>by
  rw [List.cons_append,aM];rw [aM] at h;by_cases q:g.nm=nm
  ·simp_all
  ·rw [if_neg q] at h ⊢; exact aBg h e
def bD (bm:Nat) (room done:Nat):List Value:=[.map (some bm),.int .i64 (room:Int),.bool false,.int .i64 (-1),.int .i64 (done:Int)]
instance qldk {bm room done:Nat}:QLen (bD bm room done) 5:=⟨rfl⟩
theorem aO5 (a b:BitVec 64):∀ u∈[uv .u64 a,uv .u64 b],u.oneCell'=true:=by
 intro u c;simp only [qg,qj,or_false] at c;rcases c with rfl|rfl<;>rfl
theorem aW7 {m:BitVec 64} (hm:m.toNat<=1000000) (h:(((m+1#64).toNat:Int) == 0||false||((m+1#64-1#64).toNat:Int) != (m.toNat:Int))=true):False:=by
 grind
theorem aW6 {a b c d:BitVec 64} (h : [uv .u64 a,uv .u64 b]=[uv .u64 c,uv .u64 d]):a.toNat=c.toNat:=by
 have e:=(List.cons.inj h).1;unfold uv at e;have f:=(Value.int.inj e).2;exact Int.ofNat_inj.1 f
def rU (d:Nat):List Y:=[48#8,48#8,48#8,48#8,48#8,qb 8 (48+d)]
def dgs (d k:Nat):List Y:=(rU d).drop (6-k)
def sS (n:BitVec 64) (k:Nat):BitVec 64:=if k=0 then n else 0#64
theorem aTI {d:Nat} (h:k<=6):(dgs d k).length=k:=by simp [dgs,rU]; omega
theorem aTH {n:BitVec 64} (h:1<=k):(sS n k).toNat=0:=by unfold sS; grind
theorem aTJ {n:BitVec 64} (e:n.toNat<10) (a:k<6) : [(48#64+sS n k%10#64).setWidth 8]++dgs n.toNat k=dgs n.toNat (k+1):=by
 match k,a with
 | 0,_ =>
  have c:(48#64+sS n 0%10#64).setWidth 8=qb 8 (48+n.toNat):=by
   grind[sS,vh,kb]
  rw [c]; rfl
 | 1,_=>rfl
 | 2,_=>rfl
 | 3,_=>rfl
 | 4,_=>rfl
 | 5,_=>rfl
theorem aTG {n:BitVec 64} (a:n.toNat<10):sS n k / 10#64=sS n (k+1):=by
 unfold sS;by_cases h:k=0
 ·rw [if_pos h,if_neg om];apply wl;simp_all
 simp_all
def aMH (d:Nat):ByteArray:=aV (yb (aV (rU d))++yb ⟨#[46,116,97,98]⟩)
def aMF (d:Nat):ByteArray:=aV (yb (aV (rU d))++yb ⟨#[46,108,111,103]⟩)
def aMG (d:Nat):ByteArray:=aV (yb ⟨#[109,97,110,105,102,101,115,116,45]⟩++yb (aV (rU d)))
def aME:ByteArray:=⟨#[99,117,114,114,101,110,116]⟩
def aMI:ByteArray:=⟨#[99,117,114,114,101,110,116,46,116,109,112]⟩
def cW (k d:Nat):ByteArray:=if k=1 then aMF d else if k=2 then aMH d else if k=3 then aMG d else if k=4 then aME else if k=5 then aMI else ⟨#[]⟩
theorem aXT {d:Nat} (h:k=1):aV (yb (aV (rU d))++yb ⟨#[46,108,111,103]⟩)=cW k d:=by subst h; rfl
theorem aXU {d:Nat} (h:k=2):aV (yb (aV (rU d))++yb ⟨#[46,116,97,98]⟩)=cW k d:=by subst h; rfl
theorem aXV {d:Nat} (h:k=3):aV (yb ⟨#[109,97,110,105,102,101,115,116,45]⟩++yb (aV (rU d)))=cW k d:=by subst h; rfl
theorem aXW {d:Nat} (h:k=4):(⟨#[99,117,114,114,101,110,116]⟩ : ByteArray)=cW k d:=by subst h; rfl
theorem aXX {d:Nat} (h:k=5):(⟨#[99,117,114,114,101,110,116,46,116,109,112]⟩ : ByteArray)=cW k d:=by subst h; rfl
theorem aXS {d:Nat} (h1:k≠1) (h2:k≠2) (h3:k≠3) (c:k≠4) (a:k≠5):(⟨#[]⟩ : ByteArray)=cW k d:=by
 simp_all[cW]
theorem bA8 {s:ByteArray} (h:s.size≠0):(s.toList == (⟨#[]⟩ : ByteArray).toList)=false:=by
 refine beq_eq_false_iff_ne.2 fun e=>h ?_;have a:=bZ s;simp_all[yb]
def eN (s:ByteArray):Prop:=s.size≠0∧s.size<=100
theorem aMK:eN (cW 4 0):=⟨dc,dc⟩
theorem aML:eN (cW 5 0):=⟨dc,dc⟩
def FilesR (G:PM) (F:List Fi):Prop:=∀ f∈F,∃ xs:List Y,SlR G 1 aK f.h xs∧f.n=xs.length
theorem FilesR.mono {G c:PM} {F:List Fi} (h:FilesR G F) (a:PM.le G c):FilesR c F:=fun f g=>by obtain ⟨e,j,i⟩:=h f g; exact ⟨e,j.mono a,i⟩
theorem FilesR.nil {G:PM}:FilesR G []:=fun f a=>absurd a qj
theorem FilesR.sy {G:PM} {nm:ByteArray}:∀ {F:List Fi},FilesR G F->FilesR G (dQ nm F)
 | [],h=>h
 | g :: r,h=>by
  have hr:FilesR G r:=fun f a=>h f (qo _ a);have c:=h g (ql ..);rw [dQ];split
  ·simp_all[FilesR]
  ·intro f a;rcases qg.1 a with rfl | a
   ·exact c
   ·exact hr.sy f a
theorem aKT {nm:ByteArray}:∀ {F:List Fi} {f:Fi},f∈eE nm F->f∈F
 | [],_,h=>h
 | g :: r,f,h=>by
  rw [eE] at h;split at h
  ·simp_all
  ·rcases List.mem_cons.1 h with rfl | h
   ·simp
   ·exact List.mem_cons_of_mem _ (aKT h)
theorem FilesR.del {G:PM} {nm:ByteArray} {F:List Fi} (h:FilesR G F):FilesR G (eE nm F):=fun f a=>h f (aKT a)
theorem FilesR.snoc {G:PM} {F:List Fi} {f:Fi} {xs:List Y} (h:FilesR G F) (e:SlR G 1 aK f.h xs) (i:f.n=xs.length):FilesR G (F++[f]):=fun g c=>by
 rcases qv.1 c with a | a
 ·exact h g a
 grind
theorem aKa {nm:ByteArray}:∀ {F:List Fi} {f:Fi},aM nm F=some f->f∈F
 | [],_,h=>by cases h
 | g :: r,f,h=>by
  rw [aM] at h;split at h
  ·cases h; exact List.mem_cons_self ..
  ·exact List.mem_cons_of_mem _ (aKa h)
theorem FilesR.ren {G:PM} {F:List Fi} {f:Fi} {nm a:ByteArray} {b:Nat} (h:FilesR G F) (c:aM nm F=some f):FilesR G (eE nm F++[{ f with nm:=a,born:=b }]):=by
 obtain ⟨i,g,e⟩:=h f (aKa c);exact h.del.snoc g e
section
variable {α:Type} {lt:α→α→Bool}
structure Wk0 (lt:α→α→Bool):Prop where
 irr:∀ a,lt a a=false
 tr:∀ {a b c},lt a b=true→lt b c=true→lt a c=true
 co:∀ {a b} c,lt a b=true→lt a c=true∨lt c b=true
theorem Wk0.as (h:Wk0 lt) {a b:α} (c:lt a b=true):lt b a=false:=by
 cases e:lt b a with
 | false=>rfl
 | true=>have:=h.tr c e; rw [h.irr] at this; grind
def TL (lt:α->α->Bool) (x y:α×Nat):Prop:=lt x.1 y.1=true∨(lt y.1 x.1=false∧x.2<y.2)
theorem TL.irr (h:Wk0 lt) (x:α×Nat):¬ TL lt x x:=by
 rintro (a | ⟨_,a⟩)
 ·rw [h.irr] at a; cases a
 ·omega
theorem TL.tr (h:Wk0 lt) {x y z:α×Nat} (e:TL lt x y) (c:TL lt y z):TL lt x z:=by
 rcases e with e | ⟨e,t1⟩<;>rcases c with c | ⟨c,g⟩
 ·exact .inl (h.tr e c)
 ·rcases h.co z.1 e with a | a
  ·grind[TL]
  simp_all
 ·rcases h.co x.1 c with a | a
  ·simp_all
  simp_all[TL]
 refine .inr ⟨?_,om⟩;cases a:lt z.1 x.1 with
 | false=>rfl
 | true =>
  rcases h.co y.1 a with f | f
  ·simp_all
  simp_all
theorem TL.as (h:Wk0 lt) {x y:α×Nat} (h1:TL lt x y):¬ TL lt y x:=fun a=>TL.irr h _ (h1.tr h a)
theorem aQa {u v:α×Nat} (h:Wk0 lt) (ht:u.2<v.2):TL lt v u↔lt v.1 u.1=true:=by
 grind[TL]
theorem aIf {u v:α×Nat} (h:Wk0 lt) (ht:u.2<v.2):TL lt u v↔lt v.1 u.1=false:=by
 unfold TL;constructor
 ·rintro (a | ⟨a,_⟩)
  ·exact h.as a
  omega
 simp_all
def Srt (lt:α->α->Bool) (l:List (α×Nat)):Prop:=l.Pairwise (TL lt)
theorem aId (h:Wk0 lt):∀ {l l':List (α×Nat)},Srt lt l->Srt lt l'->l.Perm l'->l=l'
 | [],l',_,_,hp=>by simpa using hp.symm.eq_nil
 | x :: l,[],_,_,hp=>by simpa using hp.eq_nil
 | x :: l,y :: l',h1,h2,hp=>by
  have hx:=yd.1 h1; have f:=yd.1 h2;have e:x=y:=by
   have c:x∈y :: l':=hp.mem_iff.1 (ql ..);have a:y∈x :: l:=hp.mem_iff.2 (ql ..);rcases qg.1 c with e | c
   ·exact e
   ·rcases qg.1 a with e | a
    ·exact e.symm
    ·exact absurd (f.1 x c) (TL.as h (hx.1 y a))
  subst e;rw [aId h hx.2 f.2 (List.Perm.cons_inv hp)]
def yF (lt:α->α->Bool) (l:List α) (m:α):List α:=l.takeWhile (fun x => !lt m x)++m :: l.dropWhile (fun x => !lt m x)
def yG (lt:α->α->Bool) (l:List (α×Nat)) (m:α×Nat):List (α×Nat):=l.takeWhile (fun x => !lt m.1 x.1)++m :: l.dropWhile (fun x => !lt m.1 x.1)
theorem aVK (l:List (α×Nat)) (m:α×Nat):(yG lt l m).map (·.1)=yF lt (l.map (·.1)) m.1:=by
 unfold yG yF;rw [wc,wr,List.takeWhile_map,List.dropWhile_map]; rfl
theorem aK9 (l:List (α×Nat)) (m:α×Nat):(yG lt l m).Perm (l++[m]):=by
 grind[yG,z8,wn]
theorem aVL (h:Wk0 lt) {l:List (α×Nat)} {m:α×Nat} (hs:Srt lt l) (ht:∀ x∈l,x.2<m.2):Srt lt (yG lt l m):=by
 unfold yG;have hl:=z8 (p:=fun x:α×Nat => !lt m.1 x.1) (l:=l);have hs':=hs;unfold Srt at hs' ⊢;rw [← hl] at hs';obtain ⟨s1,s2,s3⟩:=ye.1 hs';have hd:∀ y∈l.dropWhile (fun x => !lt m.1 x.1),TL lt m y:=by
  intro y hy;cases hdw:l.dropWhile (fun x => !lt m.1 x.1) with
  | nil=>simp_all
  | cons z r =>
   have hz:lt m.1 z.1=true:=by
    grind[List.head?_dropWhile_not]
   rw [hdw] at hy s2;rcases qg.1 hy with rfl | hy
   ·exact .inl hz
   grind[TL.tr,yd,TL]
 have ht':∀ x∈l.takeWhile (fun x => !lt m.1 x.1),TL lt x m:=by
  intro x hx;grind[List.all_takeWhile,TL]
 simp_all[ye]
def mJ (lt:α->α->Bool) (l:List α):List α:=l.foldl (yF lt) []
theorem aKn (h:Wk0 lt):∀ (l:List α) (k:Nat) (acc:List (α×Nat)),Srt lt acc->(∀ x∈acc,x.2<k)->∃ T,Srt lt T∧T.Perm (acc++l.zipIdx k)∧T.map (·.1)=l.foldl (yF lt) (acc.map (·.1))
 | [],k,acc,hs,_=>⟨acc,hs,by simp,rfl⟩
 | m :: l,k,acc,hs,hk=>by
  obtain ⟨T,h1,h2,h3⟩:=aKn h l (k+1) (yG lt acc (m,k)) (aVL h hs hk) (fun x a=>by
   grind[aK9])
  refine ⟨T,h1,h2.trans ?_,?_⟩
  ·rw [List.zipIdx_cons,show acc++(m,k) :: l.zipIdx (k+1)=(acc++[(m,k)])++l.zipIdx (k+1) by simp];exact (aK9 _ _).append_right _
  simp_all[aVK]
theorem bAd (h:Wk0 lt) (l:List α):∃ T,Srt lt T∧T.Perm (l.zipIdx 0)∧T.map (·.1)=mJ lt l:=by
 obtain ⟨T,e,c,a⟩:=aKn h l 0 [] .nil (fun _ h=>by cases h);grind[mJ]
theorem bAc (h:Wk0 lt) {l:List α} {T:List (α×Nat)} (a:Srt lt T) (c:T.Perm (l.zipIdx 0)):T.map (·.1)=mJ lt l:=by
 obtain ⟨i,g,f,e⟩:=bAd h _;rw [← e,aId h a g (c.trans f.symm)]
theorem aVJ (l:List α) (m:α):(yF lt l m).Perm (l++[m]):=by
 unfold yF;grind[z8,wn]
theorem aKm:∀ (m l:List α),(m.foldl (yF lt) l).Perm (l++m)
 | [],l=>by simp
 | x :: m,l=>by
  rw [List.foldl_cons];refine (aKm m _).trans ?_;rw [show l++x :: m=(l++[x])++m by simp];exact (aVJ l x).append_right _
theorem aHe (l:List α):(mJ lt l).Perm l:=by grind[aKm,mJ]
theorem bAb (l:List α):(mJ lt l).length=l.length:=(aHe _).length_eq
end
section
variable {α:Type}
theorem iZ {l:List α} {z:α} (h:k<l.length):l[k]? = some (l.getD k z):=by simp [h]
theorem bEm {X Z:List α} {x z0:α} {i:Nat} (a:i=X.length):(X++x :: Z).getD i z0=x:=by simp_all
theorem bEz {X Z:List α} {x y:α} {i:Nat} (a:i=X.length):(X++x :: Z).set i y=X++y :: Z:=by simp_all
theorem aUk {X Y Z L:List α} {x y z0:α} {i:Nat} (c:L=X++x :: (Y++y :: Z)) (a:i=X.length):L.getD i z0=x:=by simp_all
theorem bEl {X Y Z L:List α} {x y z0:α} (c:L=X++x :: (Y++y :: Z)) (a:j=X.length+1+Y.length):L.getD j z0=y:=by
 grind
theorem aOM {X Y Z L:List α} {x y z0:α} {i:Nat} (e:L=X++x :: (Y++y :: Z)) (c:i=X.length) (a:j=X.length+1+Y.length):(L.set i (L.getD j z0)).set j (L.getD i z0)=X++y :: (Y++x :: Z):=by
 grind
theorem aON {X Y Z L:List α} {x y z0:α} {i:Nat} (e:L=X++x :: (Y++y :: Z)) (c:i=X.length) (a:j=X.length+1+Y.length):(L.set j (L.getD i z0)).set i (L.getD j z0)=X++y :: (Y++x :: Z):=by
 grind
def pI (P A Q B S:List α) (k:Nat):List α:=P++(B.take k++A.drop k)++Q++(A.take k++B.drop k)++S
theorem bBP (P A Q B S:List α):pI P A Q B S 0=P++A++Q++B++S:=by rfl
theorem bBM {P A Q B S:List α} (h:A.length=B.length) (a:k=A.length):pI P A Q B S k=P++B++Q++A++S:=by
 simp_all[pI,qz]
theorem bBN (P A Q B S:List α) (h:A.length=B.length) (a:k<=A.length):(pI P A Q B S k).length=P.length+A.length+Q.length+B.length+S.length:=by
 grind[pI,qp]
theorem bBO {P A Q B S:List α} {i:Nat} {z0:α} (h:A.length=B.length) (a:k<A.length) (e:i=P.length+k) (c:j=P.length+A.length+Q.length+k) :
  ((pI P A Q B S k).set i ((pI P A Q B S k).getD j z0)).set j ((pI P A Q B S k).getD i z0)=pI P A Q B S (k+1):=by
 grind[yq,wg,pI,aOM]
end
structure CmpR (P:Program) (f:FuncId) (vc:List Value) (cv:Meta→Meta→Int) (G:PM):Prop where
 ok:∀ G',PM.le G G'→∀ a b:Meta,Ct P f ([a.val,b.val]++vc).toArray G' [] fun _ μ' u=>μ'=[]∧u=.int .i64 (cv a b)
theorem CmpR.mono {P:Program} {f:FuncId} {vc:List Value} {cv:Meta->Meta->Int} {G c:PM} (h:CmpR P f vc cv G) (a:PM.le G c):CmpR P f vc cv c:=⟨fun g e=>h.ok g (a.trans e)⟩
abbrev TM:=Meta×Nat
variable {A:List TM}
def z0:TM:=(Meta.zero,0)
def ms (T:List TM):List Meta:=T.map (·.1)
theorem yN (A B:List TM):ms (A++B)=ms A++ms B:=wc ..
theorem uQ (x:TM) (B:List TM):ms (x :: B)=x.1 :: ms B:=rfl
theorem dR (A:List TM):(ms A).length=A.length:=qm ..
def cG (cv:Meta->Meta->Int) (a b:Meta):Bool:=decide (cv a b<0)
theorem aNn {X Z:List TM} (h1:X.length<=k) (h2:k<X.length+A.length):(ms (X++A++Z)).getD k Meta.zero=(A.getD (k-X.length) z0).1:=by
 obtain ⟨d,rfl⟩ : ∃ d,k=X.length+d:=⟨k-X.length,om⟩;simp_all[jr,yh,ms]
theorem aDk (h:k<A.length):A.getD k z0∈A:=by
 simp_all
section
variable {lt:Meta→Meta→Bool}
theorem aN3 (c:Srt lt A) {i:Nat} (a:i<j) (e:j<A.length):TL lt (A.getD i z0) (A.getD j z0):=by
 have:=yj.1 c i j om e a;grind
theorem aDj (h:Wk0 lt) (f:Srt lt A) {y:TM} (a:q=0∨TL lt (A.getD (q-1) z0) y) (k:q<=A.length):∀ x∈A.take q,TL lt x y:=by
 intro x c;obtain ⟨i,j,rfl⟩:=qaD.1 c;rw [qp] at j;rw [List.getElem_take];have e:A.getD i z0=A[i]:=by grind
 rw [← e];rcases a with a | a
 ·omega
 ·by_cases g:i=q-1
  ·simp_all
  ·exact (aN3 f (show i<q-1 by omega) om).tr h a
theorem aGd (h:Wk0 lt) (f:Srt lt A) {y:TM} (g:q=A.length∨TL lt y (A.getD q z0)):∀ x∈A.drop q,TL lt y x:=by
 intro x a;obtain ⟨i,c,rfl⟩:=qaD.1 a;rw [List.length_drop] at c;rw [List.getElem_drop];have e:A.getD (q+i) z0=A[q+i]:=by grind
 grind[TL.tr,aN3]
theorem rV (a:Srt lt A) (q:Nat):Srt lt (A.take q)∧Srt lt (A.drop q)∧∀ x∈A.take q,∀ y∈A.drop q,TL lt x y:=by
 grind[Srt,qx]
theorem aN4 (h:Wk0 lt) {B:List TM} {x:TM} (c:Srt lt B) (h1:q=0∨TL lt (B.getD (q-1) z0) x) (h2:q=B.length∨TL lt x (B.getD q z0)) (g:q<=B.length):Srt lt (B.take q++x :: B.drop q):=by
 obtain ⟨s1,f,s3⟩:=rV c _;refine ye.2 ⟨s1,yd.2 ⟨aGd h c h2,f⟩,fun a i b e=>?_⟩;rcases qg.1 e with rfl | e
 ·grind[aDj]
 simp_all
theorem aM1 {B:List TM} {x:TM} (q:Nat):(B.take q++x :: B.drop q).Perm (x :: B):=by
 grind[xj,qx]
end
theorem bAq {lt:Meta->Meta->Bool} (S:List TM):Srt lt (S.take 1):=by
 cases S<;>simp_all[Srt]
theorem aFm {S:List TM} (h:q<S.length):S.drop q=S.getD q z0 :: S.drop (q+1):=by
 simp_all
theorem aEe {S:List TM} (h:q<S.length):S.take (q+1)=S.take q++[S.getD q z0]:=by
 simp_all
theorem aOd {B:List TM} (h:0<A.length):A.take (A.length-1)++A.getD (A.length-1) z0 :: B=A++B:=by
 have:=aEe (S:=A) (q:=A.length-1) om;grind
theorem aVO {S B c:List TM} (e:q<S.length) (a:A++B=c) (f:c.Perm (S.take q)):(A++S.getD q z0 :: B).Perm (S.take (q+1)):=by
 rw [aEe e];refine xj.trans ?_;rw [a];exact (f.cons _).trans (wn (l₁:=[S.getD q z0]) (l₂:=S.take q))
theorem aLC {P B D R:List TM} {y:TM} (a:j=P.length+A.length):(ms (P++(A++y :: B++D)++R)).getD j Meta.zero=y.1:=by
 simp_all[yN,uQ,dR]
theorem aLA {P B D R:List TM} {y:TM} (a:0<A.length):ms (P++(A++y :: B++D)++R)=ms (P++A.take (A.length-1))++(A.getD (A.length-1) z0).1 :: ([]++y.1 :: ms (B++D++R)):=by
 have h:=aOd (B:=y :: B) a;grind[uQ,yN]
theorem aLB {P B D R:List TM} {y:TM} (a:0<A.length) (c:j=P.length+A.length-1):(ms (P++(A++y :: B++D)++R)).getD j Meta.zero=(A.getD (A.length-1) z0).1 :=
 aUk (aLA a) (by grind[dR])
theorem aVQ {P B D R:List TM} {y:TM} {i:Nat} (a:0<A.length) (e:i=P.length+A.length-1) (c:j=P.length+A.length) :
  ((ms (P++(A++y :: B++D)++R)).set j ((ms (P++(A++y :: B++D)++R)).getD i Meta.zero)).set i ((ms (P++(A++y :: B++D)++R)).getD j Meta.zero)=ms (P++(A.take (A.length-1)++y :: (A.getD (A.length-1) z0 :: B)++D)++R):=by
 rw [aON (aLA a) (by grind[dR]) (by grind[dR]),qu,←uQ,←uQ,←yN]; simp
theorem aVM {cv:Meta->Meta->Int} {P B D R:List TM} {y:TM} (c:∀ z∈B,TL (cG cv) y z) (a:0<A.length∧cv ((ms (P++(A++y :: B++D)++R)).getD (P.length+A.length) Meta.zero) ((ms (P++(A++y :: B++D)++R)).getD (P.length+A.length-1) Meta.zero)<0):∀ z∈A.getD (A.length-1) z0 :: B,TL (cG cv) y z:=by
 rw [aLC rfl,aLB a.1 rfl] at a;simp_all[cG,TL]
theorem aVP {cv:Meta->Meta->Int} {P S B e R:List TM} (f:Wk0 (cG cv)) (h:Srt (cG cv) e) (c:A++B=e) (v:∀ z∈B,TL (cG cv) (S.getD q z0) z) (t:S.Pairwise fun x y=>x.2<y.2) (i:e.Perm (S.take q)) (p:q<S.length) (j:0<A.length->0<=cv ((ms (P++(A++S.getD q z0 :: B++S.drop (q+1))++R)).getD (P.length+A.length) Meta.zero) ((ms (P++(A++S.getD q z0 :: B++S.drop (q+1))++R)).getD (P.length+A.length-1) Meta.zero)):Srt (cG cv) (A++S.getD q z0 :: B):=by
 have a:=h;rw [← c] at a;obtain ⟨s1,m,s3⟩:=ye.1 a;have w:∀ x∈A,TL (cG cv) x (S.getD q z0):=by
  by_cases C:A.length=0
  ·simp_all
  ·have l:=j om;rw [aLC rfl,aLB om rfl] at l;have g:(A.getD (A.length-1) z0).2<(S.getD q z0).2:=by
    have r:A.getD (A.length-1) z0∈S.take q:=i.mem_iff.1 (by grind);grind[qx,ql]
   have k:TL (cG cv) (A.getD (A.length-1) z0) (S.getD q z0):=(aIf f g).2 (by simp_all[cG]);intro x n;have:=aDj f s1 (q:=A.length) (y:=S.getD q z0) (.inr k) (qd _) x (by simp_all);omega
 simp_all[ye,Srt]
section
variable {cv:Meta→Meta→Int} {P A B R:List TM}
theorem aHU {i:Nat} (h:i<A.length):(ms (P++A++B++R)).getD (P.length+i) Meta.zero=(A.getD i z0).1:=by
 grind[aNn]
theorem aHV {i:Nat} (h:i<B.length):(ms (P++A++B++R)).getD (P.length+A.length+i) Meta.zero=(B.getD i z0).1:=by
 grind[aNn]
theorem bAI (h:0<A.length):(ms (P++A++B++R)).getD P.length Meta.zero=(A.getD 0 z0).1:=aHU (i:=0) h
theorem bAJ (h:0<B.length):(ms (P++A++B++R)).getD (P.length+A.length) Meta.zero=(B.getD 0 z0).1:=aHV (i:=0) h
theorem aE5 (a:Wk0 (cG cv)) (ht:∀ x∈A,∀ y∈B,x.2<y.2) {i:Nat} (e:i<A.length) (c:j<B.length) (h:cv (B.getD j z0).1 (A.getD i z0).1<0):TL (cG cv) (B.getD j z0) (A.getD i z0) :=
 (aQa a (ht _ (aDk e) _ (aDk c))).2 (by simp_all[cG])
theorem aE6 (a:Wk0 (cG cv)) (ht:∀ x∈A,∀ y∈B,x.2<y.2) {i:Nat} (e:i<A.length) (c:j<B.length) (h:0<=cv (B.getD j z0).1 (A.getD i z0).1):TL (cG cv) (A.getD i z0) (B.getD j z0) :=
 (aIf a (ht _ (aDk e) _ (aDk c))).2 (by simp_all[cG])
theorem aEJ (h:A.length=1):A=[A.getD 0 z0]:=by
 match A,h with
 | [x],_=>rfl
theorem bAR {x:TM} {i:Nat} (a:k<B.length) (f:i=P.length+k) (e:j=P.length+k+1) :
  ((ms (P++(B.take k++x :: B.drop k)++R)).set i ((ms (P++(B.take k++x :: B.drop k)++R)).getD j Meta.zero)).set j ((ms (P++(B.take k++x :: B.drop k)++R)).getD i Meta.zero)=ms (P++(B.take (k+1)++x :: B.drop (k+1))++R):=by
 have c:ms (P++(B.take k++x :: B.drop k)++R)=ms (P++B.take k)++x.1 :: ([]++(B.getD k z0).1 :: ms (B.drop (k+1)++R)):=by
  grind[aFm,uQ,yN]
 rw [aOM c (by grind[dR]) (by grind[dR]),aEe a,qu,←uQ,←uQ,←yN]; simp
theorem bAQ {y:TM} {e i:Nat} (h:0<e) (a:e<=A.length) (g:i=P.length+e-1) (f:j=P.length+e) :
  ((ms (P++(A.take e++y :: A.drop e)++R)).set j ((ms (P++(A.take e++y :: A.drop e)++R)).getD i Meta.zero)).set i ((ms (P++(A.take e++y :: A.drop e)++R)).getD j Meta.zero)=ms (P++(A.take (e-1)++y :: A.drop (e-1))++R):=by
 obtain ⟨k,rfl⟩ : ∃ k,e=k+1:=⟨e-1,om⟩;have c:k<A.length:=by omega
 have l:ms (P++(A.take (k+1)++y :: A.drop (k+1))++R)=ms (P++A.take k)++(A.getD k z0).1 :: ([]++y.1 :: ms (A.drop (k+1)++R)):=by
  grind[aEe,uQ,yN]
 grind[aON,dR,aFm,uQ,yN]
theorem aYy (a:A.length=1) (q:Nat):(B.take q++A.getD 0 z0 :: B.drop q).Perm (A++B):=by
 grind[aM1,aEJ]
theorem aYs (a:B.length=1) (q:Nat):(A.take q++B.getD 0 z0 :: A.drop q).Perm (A++B):=by
 have:=aM1 (B:=A) (x:=B.getD 0 z0) q;rw [aEJ a]; exact this.trans (wn (l₁:=[B.getD 0 z0]) (l₂:=A))
theorem bBR (g:Wk0 (cG cv)) (f:Srt (cG cv) A) (sB:Srt (cG cv) B) {s h:Nat} (h1:h-B.length<=s) (h3:s<=h) (l:s<=A.length)
  (m:s=h-B.length∨TL (cG cv) (A.getD (s-1) z0) (B.getD (h-s) z0)) (i:(s=h∨s=A.length)∨TL (cG cv) (B.getD (h-1-s) z0) (A.getD s z0)) :
  ∀ x∈A.take s++B.take (h-s),∀ y∈A.drop s++B.drop (h-s),TL (cG cv) x y:=by
 obtain ⟨r,p,n⟩:=rV f s;obtain ⟨b1,b2,b3⟩:=rV sB (h-s);intro x a y c;rcases qv.1 a with a | a<;>rcases qv.1 c with c | c
 ·simp_all
 ·grind[aDj,aGd]
 ·by_cases e:s=h∨s=A.length
  ·rcases e with e | e
   ·simp_all
   simp_all
  ·have k:=i.resolve_left e;have j:=aDj g sB (q:=h-s) (y:=A.getD s z0) (.inr (by grind)) om x a;grind[aGd]
 simp_all
theorem bBU {s:Nat} (h:A.length<=s∨q=0):ms (P++A++B++R)=ms (P++(A.take s++B.take q)++(A.drop s++B.drop q)++R):=by
 rcases h with h|rfl
 ·simp_all[qz,List.drop_of_length_le]
 grind[qx]
theorem bBV {s:Nat}:ms (P++A.take s)++ms (B.take q)++ms (A.drop s)++ms (B.drop q++R)=ms (P++(A.take s++B.take q)++(A.drop s++B.drop q)++R):=by
 simp[ms]
theorem bBT {s:Nat}:ms (P++A++B++R)=ms (P++A.take s)++ms (A.drop s)++ms (B.take q)++ms (B.drop q++R):=by
 grind[qx,ms]
theorem aKz {X Z:List TM} {lt:Meta->Meta->Bool} (c:Srt lt X) (a:Srt lt Z) (h:X.length=0∨Z.length=0):Srt lt (X++Z):=by
 grind
theorem bBS {c a:List TM} {s:Nat} (j:∀ x∈A.take s++B.take q,∀ y∈A.drop s++B.drop q,TL (cG cv) x y) (f:c.Perm (A.take s++B.take q)) (s1:Srt (cG cv) c) (e:a.Perm (A.drop s++B.drop q)) (g:Srt (cG cv) a):(c++a).Perm (A++B)∧Srt (cG cv) (c++a):=by
 refine ⟨(f.append e).trans ?_,ye.2 ⟨s1,g,fun x i y h=>j x (f.mem_iff.1 i) y (e.mem_iff.1 h)⟩⟩;grind[qx,List.Perm.append_left,wn]
end
inductive Ck (lt:Meta→Meta→Bool) (bs:Nat):List TM→List TM→Prop
 | last {s o:List TM} (h:s.length≤bs) (hs:Srt lt s) (hp:s.Perm o):Ck lt bs s o
 | cons {s o T O:List TM} (h:s.length=bs) (hs:Srt lt s) (hp:s.Perm o) (hT:Ck lt bs T O):Ck lt bs (s++T) (o++O)
section
variable {lt:Meta→Meta→Bool} {bs:Nat} {T O:List TM}
theorem Ck.perm (h:Ck lt bs T O):T.Perm O:=by
 induction h with
 | last h hs hp=>exact hp
 | cons h hs hp hT ih=>grind
theorem Ck.big (h:Ck lt bs T O) (c:0<bs) (a:T.length<=bs):Srt lt T∧T.Perm O:=by
 refine ⟨?_,h.perm⟩;cases h with
 | last h hs hp=>exact hs
 | @cons s o T O h hs hp hT =>
  rw [qa] at a;have:T=[]:=wo om;simp_all
theorem Ck.one (h:Ck lt bs T O) (c:0<bs) (a:bs<T.length):∃ s o T' O',T=s++T'∧O=o++O'∧s.length=bs∧o.length=bs∧Srt lt s∧s.Perm o∧Ck lt bs T' O'∧0<T'.length:=by
 cases h with
 | last h hs hp=>omega
 | @cons s o T O h hs hp hT=>exact ⟨s,o,T,O,rfl,rfl,h,by rw [← hp.length_eq]; exact h,hs,hp,hT,by simp_all⟩
theorem Ck.two (h:Ck lt bs T O) (k:0<bs) (j:bs+bs<=T.length):∃ s1 s2 a o2 T' O',T=s1++s2++T'∧O=a++o2++O'∧s1.length=bs∧s2.length=bs∧a.length=bs∧o2.length=bs∧Srt lt s1∧Srt lt s2∧s1.Perm a∧s2.Perm o2∧Ck lt bs T' O':=by
 obtain ⟨s1,a,m,n,rfl,rfl,i,f,e,c,l,p⟩:=h.one k om;rw [qa] at j;cases l with
 | last g hs hp=>exact ⟨s1,m,a,n,[],[],by simp,by simp,i,om,f,by rw [← hp.length_eq]; omega,e,hs,c,hp,.last (qr _) .nil (List.Perm.refl _)⟩
 | @cons s o T O g hs hp hT=>exact ⟨s1,s,a,o,T,O,by simp,by simp,i,g,f,by rw [← hp.length_eq]; exact g,e,hs,c,hp,hT⟩
theorem Ck.rest (h:Ck lt bs T O) (c:0<bs) (e:bs<T.length) (h2:T.length<bs+bs):∃ s1 s2 a o2,T=s1++s2∧O=a++o2∧s1.length=bs∧0<s2.length∧a.length=bs∧Srt lt s1∧Srt lt s2∧s1.Perm a∧s2.Perm o2:=by
 obtain ⟨s1,a,p,q,rfl,rfl,n,m,l,k,f,j⟩:=h.one c e;rw [qa] at h2;obtain ⟨i,g⟩:=f.big c om;grind
theorem aOa {X Z s1 a f c g:List TM} (h:g.Pairwise fun x y=>x.2<y.2) (e:X++(f++c++Z)=g) (h1:s1.Perm f) (h2:a.Perm c):∀ x∈s1,∀ y∈a,x.2<y.2:=by
 grind
theorem aOb {X Y Z a:List TM} (c:a.Pairwise fun x y=>x.2<y.2) (e:X++(Y++Z)=a):Y.Pairwise fun x y=>x.2<y.2:=by
 grind
theorem aXF (xs:List Meta):ms (xs.zipIdx 0)=xs:=by simp[ms]
theorem bBi (xs:List Meta):(xs.zipIdx 0).Pairwise fun x y=>x.2<y.2:=by
 simp[yj]
theorem aXE (h:Wk0 lt) {xs:List Meta} {T:List TM} (a:Srt lt T) (c:T.Perm (xs.zipIdx 0)):ms T=mJ lt xs:=bAc h a c
end
def zY (x y:Int):Int:=if x<y then -1 else if y<x then 1 else 0
def uH (x y:ByteArray):Int:=if lt x y then -1 else if lt y x then 1 else 0
def kZ (i:Int) (a b:Meta):Int:=if i=0 then zY b.number a.number else uH a.min b.min
def aB4 (i:Int) (a b:Meta):Bool:=if i=0 then decide (b.number<a.number) else lt a.min b.min
theorem aLh (i:Int):cG (kZ i)=aB4 i:=by
 funext a b;unfold cG kZ aB4 zY uH;grind
theorem aWl (i:Int):Wk0 (aB4 i):=by
 unfold aB4;by_cases h:i=0
 ·simp only [h,if_true];refine ⟨fun a=>by simp,fun {a b c} e f=>?_,fun {a b} c e=>?_⟩
  ·grind
  grind
 simp only [h,if_false];refine ⟨fun a=>yJ _,fun {a b c} e f=>aAX e f,fun {a b} c e=>?_⟩;grind[aB1,aAX]
theorem aSJ {x y:ByteArray} (h:Op.bytesLess x.toList y.toList=true):uH x y = -1:=by simp_all[uH,lt]
theorem aSI {x y:ByteArray} (h:Op.bytesLess x.toList y.toList=false) (h2:(!(Op.bytesLess x.toList y.toList||x.toList == y.toList))=true):uH x y=1:=by
 have a:lt y x=true:=by
  have:le x y=false:=by simp_all[le]
  simp_all[aLX]
 simp_all[uH,lt]
theorem aSH {x y:ByteArray} (h:Op.bytesLess x.toList y.toList=false) (h2:(!(Op.bytesLess x.toList y.toList||x.toList == y.toList))=false):uH x y=0:=by
 simp_all[lt,uH]
theorem aFp (h:m.wf):(gA m).length<=m.min.size+m.max.size+112:=by
 have i:=h.level; have g:=h.gen; have f:=h.epoch; have e:=h.number; have c:=h.minL; have a:=h.maxL;grind[iR,bCc,bZ,aCY,gA]
theorem aLs {R:Nat}:∀ (l:List Meta),(∀ m∈l,m.wf∧m.min.size<=R∧m.max.size<=R)->(l.flatMap gA).length<=l.length*(2*R+112)
 | [],_=>by simp
 | m :: l,h=>by
  have h1:=h m (ql ..);have e:=aFp h1.1;have c:=aLs l fun x a=>h x (qo _ a);grind[Nat.succ_mul]
theorem aDW {e:Edit} (h:e.wf) (q:e.add.length<=1000000) (hd:e.drop.length<=1000000):(sT e).length<=(e.add.flatMap gA).length+20*e.drop.length+110:=by
 have j:=h.log; have f:=h.next; have c:=h.seq; have a:=h.least;unfold u64 at j f c a;have n1:=iR (n:=e.log.toNat) om; have n2:=iR (n:=e.next.toNat) om; have p:=iR (n:=e.seq.toNat) om; have m:=iR (n:=e.least.toNat) om;have l:=iR (n:=e.add.length) om; have k:=iR (n:=e.drop.length) om;have g:((qe 5).flatMap fun i=>bV (e.gens i).toNat).length<=10*5:=by
  have:=oK (ns:=pX e) (aBq h);trivial
 have d:=aGC h.drop;grind[sT]
abbrev cP:=Nat→List Meta
def fF (L:cP) (k:Nat) (l:List Meta):cP:=fun i=>if i=k then l else L i
theorem aHz (L:cP) (k:Nat) (l:List Meta):fF L k l k=l:=by simp [fF]
theorem aEj {L:cP} {i:Nat} {l:List Meta} (h:i≠k):fF L k l i=L i:=by grind[fF]
def iO (g:Gone) (m:Meta):Bool:=m.number == g.number
def gS (g:Gone) (L:cP):Option cP :=
 if g.level<5 then (if eK (iO g) (L g.level.toNat)<0 then none else some (fF L g.level.toNat ((L g.level.toNat).take (eK (iO g) (L g.level.toNat)).toNat++(L g.level.toNat).drop ((eK (iO g) (L g.level.toNat)).toNat+1)))) else none
def mD (m:Meta) (L:cP):Option cP:=if m.level<5 then some (fF L m.level.toNat (L m.level.toNat++[m])) else none
def dJ {β:Type} (f:β->cP->Option cP):List β->cP->Option cP
 | [],L=>some L
 | b :: bs,L=>(f b L).bind (dJ f bs)
theorem aKk {a:Type} {f:a->cP->Option cP}:∀ {bs:List a} {b:a} {L:cP},dJ f (bs++[b]) L=(dJ f bs L).bind (f b)
 | [],b,L=>by simp [dJ]
 | c :: bs,b,L=>by
  simp only [List.cons_append,dJ];cases f c L with
  | none=>rfl
  | some L1=>exact aKk
theorem aKl {a:Type} {f:a->cP->Option cP} {c:List a} {b:a} {L:cP} (h:c[k]? = some b):dJ f (c.take (k+1)) L=(dJ f (c.take k) L).bind (f b):=by
 simp_all[wg,aKk]
theorem aKj {a:Type} {f:a->cP->Option cP}:∀ {bs cs:List a} {L:cP},dJ f (bs++cs) L=(dJ f bs L).bind (dJ f cs)
 | [],cs,L=>rfl
 | b :: bs,cs,L=>by
  simp only [List.cons_append,dJ];cases f b L with
  | none=>rfl
  | some L1=>exact aKj
theorem aUa {a:Type} {f:a->cP->Option cP} {c:List a} {L:cP} (h:dJ f (c.take k) L=none):dJ f c L=none:=by
 grind[qx,aKj]
def wN (e:Edit) (L:cP):State:=⟨L,e.log,e.next,e.seq,e.least,e.gens⟩
noncomputable def xQ (X:State):Option State:=if fE X then some X else none
def tO (s:State) (e:Edit):Bool := !uD s e&&(decide ((e.add.length:Int)<=1024)&&decide ((e.drop.length:Int)<=1024))
def jZ (L:cP):cP:=fun i=>mJ (aB4 i) (L i)
noncomputable def mR (s:State) (e:Edit):Option State :=
 if tO s e then (dJ gS e.drop s.lv).bind fun L1=>(dJ mD e.add L1).bind fun L2=>xQ (wN e (jZ L2)) else none
structure EqS (X Y:State):Prop where
 lv:∀ i,i<5→X.lv i=Y.lv i
 log:X.log=Y.log
 next:X.next=Y.next
 seq:X.seq=Y.seq
 least:X.least=Y.least
 gens:X.gens=Y.gens
theorem EqS.refl (X:State):EqS X X:=⟨fun _ _=>rfl,rfl,rfl,rfl,rfl,rfl⟩
theorem EqS.tot {X Y:State} (h:EqS X Y):∀ n,n<=5->tot X n=tot Y n
 | 0,_=>rfl
 | n+1,hn=>by simp only [Go.Tan.tot,h.tot n (by omega),h.lv n (by omega)]
theorem EqS.all {X Y:State} (h:EqS X Y):∀ n,n<=5->dI X n=dI Y n
 | 0,_=>rfl
 | n+1,hn=>by simp only [dI,h.all n (by omega),h.lv n (by omega)]
theorem EqS.good {X Y:State} (h:EqS X Y) (m:Meta):Go.Tan.good X m=Go.Tan.good Y m:=by unfold Go.Tan.good; rw [h.next,h.gens]
theorem EqS.right' {X Y:State} (h:EqS X Y) (a:RightP X):RightP Y:=by
 refine ⟨h.seq▸a.seq,h.least▸a.least,by rw [← h.log,←h.next]; exact a.log,by rw [← h.tot 5 (qd _)]; exact a.few,fun i c=>?_,?_⟩
 ·have:=a.lv i c;rw [h.lv i c] at this;exact ⟨fun m e=>⟨(this.1 m e).1,by grind[good,zM]⟩,this.2⟩
 rw [← h.all 5 (qd _)]; exact a.apart
theorem EqS.symm {X Y:State} (h:EqS X Y):EqS Y X:=⟨fun i a=>(h.lv i a).symm,h.log.symm,h.next.symm,h.seq.symm,h.least.symm,h.gens.symm⟩
theorem EqS.right {X Y:State} (h:EqS X Y):fE X=fE Y:=by
 cases c:fE X with
 | true=>exact (aAk (h.right' (oN c))).symm
 | false =>
  cases a:fE Y with
  | false=>rfl
  | true=>have:=aAk (h.symm.right' (oN a)); simp_all
def AppR (s:State) (e:Edit) (X:State) (err:Int):Prop :=
 (fE s=false∧err=1∧X=State.zero)∨(fE s=true∧mR s e=none∧err=180∧X=State.zero)∨(fE s=true∧err=0∧∃ Y,mR s e=some Y∧EqS X Y)
theorem aRE {s:State} {e:Edit} (h:tO s e=false):mR s e=none:=by simp_all[mR]
theorem zS {s:State} {e:Edit} (h:dJ gS e.drop s.lv=none):mR s e=none:=by
 simp_all[mR]
theorem aRC {s:State} {e:Edit} {a:cP} (h1:dJ gS e.drop s.lv=some a) (h:dJ mD e.add a=none):mR s e=none:=by
 simp_all[mR]
theorem aJB {s:State} {e:Edit} {c a:cP} (f:tO s e=true) (h1:dJ gS e.drop s.lv=some c) (h2:dJ mD e.add c=some a):mR s e=xQ (wN e (jZ a)):=by
 simp_all[mR]
theorem aR8 {X Y:State} (h:EqS X Y) (a:fE X=true):xQ Y=some Y:=by unfold xQ; rw [← h.right,a]; rfl
theorem aR9 {X Y:State} (h:EqS X Y) (a:fE X=false):xQ Y=none:=by unfold xQ; rw [← h.right,a]; rfl
theorem qZ {p:Meta->Bool} {l:List Meta} (h:¬ eK p l<0):(eK p l).toNat<l.length∧eK p l=((eK p l).toNat:Int):=by
 grind[eK,xu]
theorem aTe {L a:cP} (h:gS g L=some a):∀ i,(a i).Sublist (L i):=by
 unfold gS at h;split at h
 ·split at h
  ·cases h
  ·simp only [Option.some.injEq] at h;subst h;intro i;by_cases c:i=g.level.toNat
   ·subst c;rw [aHz];have:=(List.Sublist.refl ((L g.level.toNat).take (eK (iO g) (L g.level.toNat)).toNat)).append (List.drop_sublist_drop_left (L g.level.toNat) (Nat.le_succ (eK (iO g) (L g.level.toNat)).toNat));simp_all
   simp_all[aEj]
 grind
theorem aFi:∀ {gs:List Gone} {L L':cP},dJ gS gs L=some L'->∀ i,(L' i).Sublist (L i)
 | [],L,L',h,i=>by simp_all[dJ]
 | g :: gs,L,L',h,i=>by
  simp only [dJ] at h;cases hf:gS g L with
  | none=>simp_all
  | some L1=>rw [hf] at h; exact (aFi h i).trans (aTe hf i)
def aBM (i:Nat) (m:Meta):Bool:=m.level.toNat == i
theorem aBJ:∀ {ms:List Meta} {L L':cP},dJ mD ms L=some L'->∀ i,L' i=L i++ms.filter (aBM i)
 | [],L,L',h,i=>by simp_all[dJ]
 | m :: ms,L,L',h,i=>by
  simp only [dJ] at h;unfold mD at h;split at h
  ·simp only [Option.bind_some] at h;rw [aBJ h i];by_cases hi:i=m.level.toNat
   ·subst hi;rw [aHz,List.filter_cons_of_pos (by simp [aBM])]; simp
   ·rw [aEj hi,List.filter_cons_of_neg (by simp [aBM]; omega)]
  ·cases h
theorem qW {s:State} {e:List Gone} {L:cP} (a:RightP s) (h:dJ gS e s.lv=some L) {i:Nat} (c:i<5):(L i).length<=1024:=by
 have j:=(aFi h i).length_le;have g:=aAY s c;have f:=a.few;omega
theorem zP {ms:List Meta} {L a:cP} {N:Nat} (h:dJ mD ms L=some a) {i:Nat} (c:(L i).length<=N):(a i).length<=N+ms.length:=by
 rw [aBJ h i,qa];grind
theorem aTf {s:State} {f:List Gone} {L:cP} (a:∀ i,i<5->∀ m∈s.lv i,m.wf) (h:dJ gS f s.lv=some L):∀ i,i<5->∀ m∈L i,m.wf:=fun i e m c=>a i e m ((aFi h i).subset c)
theorem aQp {ms:List Meta} {L a:cP} (e:∀ i,i<5->∀ m∈L i,m.wf) (hm:∀ m∈ms,m.wf) (h:dJ mD ms L=some a):∀ i,i<5->∀ m∈a i,m.wf:=by
 intro i f m c;rw [aBJ h i] at c;grind
theorem bAp (L:cP) (i:Nat):(jZ L i).length=(L i).length:=bAb _
theorem aN2 {L:cP} {i:Nat}:m∈jZ L i↔m∈L i:=(aHe _).mem_iff
def xC (w0 w1 w2 w3 w4:Value) (e:Edit):List Value:=[w0,w1,w2,w3,w4,.int .u64 e.log,.int .u64 e.next,.int .u64 e.seq,.int .u64 e.least]++(qe 5).map fun i=>.int .u64 (e.gens i)
def pk {α:Type} (k i:Nat) (a b:α):α:=if i<k then a else b
def hx5 (a b c d f:Sh):Nat->Sh:=fun i=>match i with | 0=>a | 1=>b | 2=>c | 3=>d | _=>f
theorem bAv {G:PM} {X:State} {a b c d f:Sh} (k:SlR G 40 Meta.cells a (X.lv 0)) (h1:SlR G 40 Meta.cells b (X.lv 1)) (h2:SlR G 40 Meta.cells c (X.lv 2)) (h3:SlR G 40 Meta.cells d (X.lv 3)) (j:SlR G 40 Meta.cells f (X.lv 4)) (h:∀ i,i<5->(X.lv i).length<=1000000) (e:∀ i,i<5->∀ m∈X.lv i,m.wf):StR G X (hx5 a b c d f):=by
 refine ⟨fun i g=>?_,fun i g=>?_,e⟩
 ·grind[hx5]
 grind
theorem bDL {a b c d f:Sh} {e:Edit} {L:cP}:xC (a.val (L 0).length) (b.val (L 1).length) (c.val (L 2).length) (d.val (L 3).length) (f.val (L 4).length) e=(wN e L).cells (hx5 a b c d f):=rfl
theorem bDM {w0 g f c a:Value} {e:Edit} (k:w0.oneCell'=true) (h1:g.oneCell'=true) (h2:f.oneCell'=true) (h3:c.oneCell'=true) (j:a.oneCell'=true):∀ u∈xC w0 g f c a e,u.oneCell'=true:=by
 intro u h;simp only [xC,qv,qi,qg,qj,or_false] at h;rcases h with (rfl|rfl|rfl|rfl|rfl|rfl|rfl|rfl|rfl) | ⟨i,_,rfl⟩<;>first|trivial|rfl
theorem aBY {L:cP} (h:g.level=(q:Int)) (c:q<5) (a:eK (iO g) (L q)=(k:Int)):gS g L=some (fF L q ((L q).take k++(L q).drop (k+1))):=by
 unfold gS;grind
theorem aBZ {L:cP} (h:g.level=(q:Int)) (a:eK (iO g) (L q)<0):gS g L=none:=by
 simp_all[gS]
theorem aTc {L:cP} (h:5<=g.level):gS g L=none:=by simp_all[gS,if_neg]
theorem mQ {L:cP} (h:m.level=(q:Int)) (a:q<5):mD m L=some (fF L q (L q++[m])):=by
 unfold mD;grind
theorem aQo {L:cP} (h:5<=m.level):mD m L=none:=by simp_all[mD]
theorem jT {a:Type} {f:a->cP->Option cP} {c:List a} {b:a} {e L g:cP} (i:c[j]? = some b) (k:dJ f (c.take j) e=some L) (h:f b L=some g):dJ f (c.take (j+1)) e=some g:=by simp_all[aKl]
theorem yA {a:Type} {f:a->cP->Option cP} {c:List a} {b:a} {e L:cP} (g:c[j]? = some b) (i:dJ f (c.take j) e=some L) (h:f b L=none):dJ f c e=none:=aUa (k:=j+1) (by simp_all[aKl])
theorem aCU {M a:cP} (h:∀ i,M i=if i<k then jZ a i else a i):∀ i,fF M k (mJ (cG (kZ (k:Int))) (M k)) i=if i<k+1 then jZ a i else a i:=by
 intro i;by_cases c:i=k
 ·simp_all[aLh,fF,jZ]
 ·rw [aEj c,h i];grind
theorem aRD {s:State} {e:Edit} (h:((decide ((e.add.length:Int) > 1024)||decide ((e.drop.length:Int) > 1024))||uD s e)=true):mR s e=none:=by
 refine aRE ?_;unfold tO;grind
theorem aXz {s:State} {e:Edit} (h:((decide ((e.add.length:Int) > 1024)||decide ((e.drop.length:Int) > 1024))||uD s e)=false):tO s e=true∧e.add.length<=1024∧e.drop.length<=1024:=by
 grind[tO]
theorem aMa {s:State} {e:Edit} (h:tO s e=true):e.add.length<=1024∧e.drop.length<=1024:=by
 unfold tO at h;grind
theorem aBL {s:State} {e:Edit} {Y:State} (h:mR s e=some Y):tO s e=true∧fE Y=true∧∃ L1 L2,dJ gS e.drop s.lv=some L1∧dJ mD e.add L1=some L2∧Y=wN e (jZ L2):=by
 unfold mR at h;split at h
 ·rename_i c;cases hd:dJ gS e.drop s.lv with
  | none=>simp_all
  | some L1 =>
   rw [hd] at h;simp only [qw] at h;cases a:dJ mD e.add L1 with
   | none=>simp_all
   | some L2 =>
    rw [a] at h;simp only [qw] at h;unfold xQ at h;grind
 grind
section
variable {enc mac:Nat→Y} {va vr vp v:Value} {h:Hd} {used u:Int} {torn b:Bool}
theorem k64:(ba 32 enc++ba 32 mac).length=64:=tC _ _
end
theorem aK4 {a b:Hd} (h:a.kind=b.kind∧a.level=b.level∧a.gen=b.gen∧a.epoch=b.epoch∧a.num=b.num):a=b:=by
 obtain ⟨i,g,f,e,c⟩:=a;simp_all
instance:DecidableEq Hd:=fun a b=>decidable_of_iff (a.kind=b.kind∧a.level=b.level∧a.gen=b.gen∧a.epoch=b.epoch∧a.num=b.num) ⟨aK4,fun h=>by subst h; exact ⟨rfl,rfl,rfl,rfl,rfl⟩⟩
theorem bCq {k:IntKind} {x y:BitVec k.bits} (h:uv k x=uv k y):x=y:=by
 simp only [uv,Value.int.injEq,true_and] at h;grind[wl]
theorem aUr {a b:Hd}:decide (a=b)=true↔[V a.kind,V a.level,uv .u64 a.gen,uv .u64 a.epoch,uv .u64 a.num]=[V b.kind,V b.level,uv .u64 b.gen,uv .u64 b.epoch,uv .u64 b.num]:=by
 rw [decide_eq_true_eq];constructor
 ·simp_all
 ·intro h;simp only [List.cons.injEq,and_true] at h;grind[aK4,bCq]
theorem aK3 (a:Hd):Conf [.int .u8,.int .u8,.int .u64,.int .u64,.int .u64] [V a.kind,V a.level,uv .u64 a.gen,uv .u64 a.epoch,uv .u64 a.num]:=.u8 (.u8 (.u64 (.u64 (.u64 .nil))))
def wD (s:State):Edit:=⟨s.log,s.next,s.seq,s.least,s.gens,[],[]⟩
def tP (m:Meta):Edit:=⟨0,0,0,0,fun _=>0,[m],[]⟩
def wG (e:Edit):Dg:=gI (sT e)
def aAU (s:State):List Dg:=wG (wD s) :: (dI s 5).map fun m=>wG (tP m)
def aNM (s:State):Dg:=fP (aAU s)
def aET (mark:BitVec 64) (x:State) (e:Edit):List Y:=cY mark 8++yl 32 (aNM x)++sT e
theorem aZO (a:BitVec 64) (x:State) (e:Edit):(aET a x e).length=40+(sT e).length:=by
 grind[aET,kI,bY]
theorem AppR.right {s:State} {e:Edit} {X:State} (h:AppR s e X 0):fE s=true∧∃ Z,mR s e=some Z∧EqS X Z∧fE Z=true∧fE X=true:=by
 rcases h with ⟨_,h,_⟩ | ⟨_,_,h,_⟩ | ⟨g,_,Z,f,c⟩
 ·cases h
 ·cases h
 ·obtain ⟨_,a,_⟩:=aBL f;exact ⟨g,Z,f,c,a,by rw [c.right]; exact a⟩
theorem aIu:∀ {ms:List Meta} {L L':cP},dJ mD ms L=some L'->∀ m∈ms,m.level<5
 | [],L,L',_,m,hm=>by cases hm
 | x :: ms,L,L',h,m,hm=>by
  simp only [dJ] at h;unfold mD at h;split at h
  ·rename_i h5;rcases List.mem_cons.1 hm with rfl | hm
   ·exact h5
   ·exact aIu h m hm
  grind
theorem aQr {s:State} {e:Edit} {Z:State} (h:mR s e=some Z):(∀ m∈e.add,m.fits)∧e.add.length<=1024∧e.drop.length<=1024:=by
 obtain ⟨i,n,r,j,q,g,rfl⟩:=aBL h;refine ⟨fun m k=>?_,(aMa i).1,(aMa i).2⟩;have p:=aIu g m k;have l:m.level.toNat<5:=by omega
 have c:m∈j m.level.toNat:=by
  rw [aBJ g];simp_all[aBM]
 have a:m∈(wN e (jZ j)).lv m.level.toNat:=aN2.2 c;have f:=(((oN n).lv _ l).1 m a).2;unfold good at f;simp only [dP] at f;exact ⟨om,om,om,om⟩
theorem aZV {s:State} (h:fE s=true) {i:Nat} (c:i<5):∀ m∈s.lv i,m.min.size<=1024∧m.max.size<=1024:=by
 intro m a;have e:=(((oN h).lv _ c).1 m a).2;unfold good at e;grind
def LayR (root:Nat->Y) (h:Hd) (n mark:BitVec 64) (s:State) (e:Edit) (L:List Y) (X:State) (r:Int):Prop :=
 ∃ X0 r0,AppR s e X0 r0∧((r0≠0∧L=[]∧X=State.zero∧r=r0)∨(r0=0∧∃ L1 r1,(L1,r1)=mZ root h n (aET mark X0 e)∧((r1≠0∧L=[]∧X=State.zero∧r=r1)∨(r1=0∧L=L1∧X=X0∧r=0))))
theorem Tr.cutRow {p G:PM} {K0:List Nat} {w0 w:World} {μ:aB} {b sz m cap:Nat} {xs:List Value} (h:Tr p K0 w0 G (.row (.slice (some ⟨b,0,none⟩) m cap) E sz m xs :: μ) w) (v:q<=m) :
  Tr p K0 w0 G (.row (.slice (some ⟨b,0,none⟩) q cap) E sz q (xs.take (q*sz)) :: μ) w:=by
 have i:keys (.row (.slice (some ⟨b,0,none⟩) q cap) E sz q (xs.take (q*sz)) :: μ)=keys (.row (.slice (some ⟨b,0,none⟩) m cap) E sz m xs :: μ):=by rfl
 have a:w.ownsRow 0 E sz (.slice (some ⟨b,0,none⟩) m cap) m xs:=h.sat.own _ (ql ..);refine { h with sat:=⟨h.sat.sub,fun r f=>?_,by rw [i]; exact h.sat.apart,by rw [i]; exact h.sat.nodup⟩,mine:=by rw [i]; exact h.mine };rcases qg.1 f with rfl | f
 ·have C:=a.1;have t:q*sz<=m*sz:=Nat.mul_le_mul_right _ v;rcases a.2 with ⟨e,_⟩ | ⟨g,n,l,e,A,y,x,k,j,c⟩
  ·cases e
  simp only [Value.slice.injEq,Option.some.injEq,Addr.mk.injEq,and_true,true_and] at e;obtain ⟨rfl,rfl⟩:=e;refine ⟨by simp_all,.inr ⟨b,cap,l,rfl,A,y,om,k,j,?_⟩⟩;grind
 exact h.sat.own r (qo _ f)
theorem aPL {sz:Nat} {X:Cx} {f:Code} {k:List KI} {ρ:aG} {G:PM} {μ c:aB} {b cap:Nat} {xs:List α} (A B:List α) (i:∀ x∈xs,(enc x).length=sz) (hm:MTake μ (rS sz enc (.slice (some ⟨b,0,none⟩) xs.length cap) E xs) c) (e:xs=A++B) (h:Wk X f k ρ G (rS sz enc (.slice (some ⟨b,0,none⟩) A.length cap) E A :: c)):Wk X f k ρ G μ :=
 ⟨fun a w j g=>h.out a w j (by
  subst e;have:=(g.perm hm.perm).cutRow (q:=A.length) (by simp);grind[aF7,vk])⟩
section
variable {dr:Bool} {mc:Md} {P:Program} {n:Fm} {l:List Oper} {K:aG→PM→aB→Prop} {i:Nat} {σ:List Nat} {ρ:aG} {G:PM} {μ:aB}
variable {d t:Nat} {p:String} {af:Array Edge} {g:Option (Nat×Bool)} {c:Bool}
theorem aQ7 (A:Nat):BitVec.ofNat 64 A &&& BitVec.ofNat 64 1=BitVec.ofNat 64 (A%2):=by
 apply wl;grind
theorem an1 {T F:TypeId} {x:Operand} {m k:Int} (A:Nat) (C:nth l i=some ⟨some d,.binOp .and T x y F,t,p,af,g⟩) (D:Gd l ρ g c) (v:Ev ρ c x (.int .i64 m)) (r:Ev ρ c y (.int .i64 k)) (j:m=A) (f:k=1) (h:Wo dr mc P n l K σ ((d,c,.int .i64 ((A%2:Nat):Int)) :: ρ) G μ):Wo dr mc P n l K (i :: σ) ρ G μ :=
 .pure C (.inl rfl) D (fun a q w e=>by
  subst j; subst f;have E:(binOp .and T (.int .i64 (A:Int)) (.int .i64 1)).run P w=.ok (.int .i64 ((A%2:Nat):Int)) w:=by
   have j:qh 64 (A:Int)=qb 64 A:=by simp
   have f:qh 64 (1:Int)=qb 64 1:=rfl;have I:IntKind.i64.wrap ((qb 64 (A%2)).toNat:Int)=((A%2:Nat):Int):=by
    grind[bL]
   have H:(Op.intBits .and .i64 (A:Int) 1)=pure (.int .i64 (IntKind.i64.wrap ((qh 64 (A:Int) &&& qh 64 (1:Int)).toNat:Int))):=rfl;simp_all[binOp,aQ7]
  simp only [execOp,v.eval e a,r.eval e a,Sem.run_bind,mF,Result.andThen_ok,E]; rfl) h
end
def fJ (S:List (Nat×Dg)):List Dg:=(S.map (·.2)).reverse
theorem aAt (a:Nat) (r:Dg) (S:List (Nat×Dg)):fJ ((a,r) :: S)=fJ S++[r]:=by simp [fJ]
theorem zC (S:List (Nat×Dg)):(fJ S).length=S.length:=by simp [fJ]
def zD:Dg:=fun _=>0#8
theorem aN9 (a:Nat) (r:Dg) (S:List (Nat×Dg)):(fJ ((a,r) :: S)).getD S.length zD=r:=by
 simp[aAt,zC]
def sV (d:Dg) (L:List Dg):Nat->Dg
 | 0=>d
 | j+1=>sV (pD (L.getD j zD) d) L j
theorem aF4:∀ (j:Nat) (d x:Dg) (L:List Dg),j<=L.length->sV d (L++[x]) j=sV d L j
 | 0,_,_,_,_=>rfl
 | j+1,d,x,L,h=>by
  have e:(L++[x]).getD j zD=L.getD j zD:=by rw [xx,yh om,←xx]
  simp only [sV,e]; exact aF4 j _ x L om
theorem aUL {d:Dg} {L:List Dg} (h:0<j):sV d L j=sV (pD (L.getD (j-1) zD) d) L (j-1):=by
 obtain ⟨i,rfl⟩ : ∃ i,j=i+1:=⟨j-1,om⟩;rfl
theorem bA5 {c:List (Nat×Dg)} {a:Nat} {s:Dg} (h:S=(a,s) :: c):(fJ S).getD ((fJ S).length-1) zD=s:=by
 grind[zC,aN9]
theorem aKe:∀ (S:List (Nat×Dg)) (d:Dg),sV d (fJ S) S.length=finD d S
 | [],d=>rfl
 | (a,r) :: S,d=>by
  simp only [List.length_cons,sV,finD,aN9];rw [aAt,aF4 _ _ _ _ (by rw [zC]; exact Nat.le_refl _),aKe S]
theorem bA4 {L:List Dg} (h:Stk S L) (c:0<L.length):0<(fJ S).length∧fP L=sV ((fJ S).getD ((fJ S).length-1) zD) (fJ S) ((fJ S).length-1):=by
 rw [zC];match S,h with
 | [],h=>cases h; cases c
 | (a,r) :: S,h =>
  refine ⟨km _,?_⟩;rw [h.done,←aKe S r];simp[aAt,aF4,zC]
theorem aYP {d:Dg} {a:Nat} {l:List Dg} (h:Pend S d a l) (eq:q=l.length / 2^a) (c:q%2=0):∃ s S',S=(a,s) :: S'∧Pend S' (pD s d) (a+1) l∧q / 2=l.length / 2^(a+1):=by
 subst eq; exact h.even c
theorem aYR {d:Dg} {a:Nat} {l:List Dg} (h:Pend S d a l) (eq:q=l.length / 2^a) (c:¬ q%2=0):Stk ((a,d) :: S) l:=by
 subst eq; exact h.odd om
theorem aYS {d:Dg} {a:Nat} {l:List Dg} (h:Pend S d a l) (eq:q=l.length / 2^a):0<q:=by
 obtain ⟨L,c,j,g,f,e,i⟩:=h.out;subst eq;exact Nat.div_pos (by grind) (Nat.pow_pos dc)
theorem aYQ {d:Dg} {a:Nat} {l:List Dg} (h:Pend S d a l):S.length<=l.length:=by
 obtain ⟨L,c,f,i,g,e,j⟩:=h.out;have:=f.short;grind
section
variable {dr:Bool} {mc:Md} {P:Program} {n:Fm} {l:List Oper} {K:aG→PM→aB→Prop} {i:Nat} {σ:List Nat} {ρ:aG} {G:PM} {μ:aB}
variable {d t:Nat} {p:String} {af:Array Edge} {g:Option (Nat×Bool)} {c:Bool}
theorem kaf {f:FuncId} {k:Operand} {xs:List Operand} {e:Array TypeId} {vc:List Value} {μ₁ μ₂:aB} {post:PM->aB->Value->Prop} {m:Option Nat} (x:nth l i=some ⟨m,.call { callee:=.value k,args:=xs.toArray,argTypes:=e },t,p,af,none⟩) (hm:mc.c=true∨dr=false) (g:Ev ρ true k (.func (.func f) #[] vc.toArray)) (A:dW P f=true) (q:∀ a,Ag n ρ a->true=true->xs.map a.eval=vs) (r:μ.Perm (μ₁++μ₂)) (y:Ct P f (vs++vc).toArray G μ₁ post) (h:∀ v G' μ',PM.le G G'->post G' μ' v->Wo dr mc P n l K σ (bT ρ m true v) G' (μ'++μ₂)):Wo dr mc P n l K (i :: σ) ρ G μ :=
 .act x (by simp_all[bK]) .no r (fun a w j _=>.inr ⟨f,_,by
  have C:=q a j rfl;simp [execOp,resolve,Deferred.ofValue,g.eval j rfl,invoke,aAn A];omega,y⟩) h
end
theorem SlR.one1 {sz:Nat} {G:PM} {b:Nat} {x:α} {T:TypeId}:SlR (G.add b (cl (enc x) T)) sz enc ⟨some ⟨b,0,none⟩,1⟩ [x]:=by
 refine ⟨fun _=>rfl,qd _,fun i y a j v c=>?_⟩;cases i with
 | succ i=>grind
 | zero =>
  simp only [List.getElem?_cons_zero,Option.some.injEq] at a;subst a;rw [ve,Nat.add_zero];exact RdP.blk (bP _ _ _) (by simp_all[Sh.o])
structure StN (s:State):Prop where
 log:u64 s.log
 next:u64 s.next
 seq:u64 s.seq
 least:u64 s.least
 gens:∀ i,i<5→u64 (s.gens i)
theorem aUt {s:State} (h:StN s):(wD s).wf:=⟨h.log,h.next,h.seq,h.least,h.gens,(fun m a=>absurd a qj),(fun g c=>absurd c qj)⟩
theorem aX2 (h:m.wf):(tP m).wf:=by
 have z:u64 0:=⟨dc,dc⟩;refine ⟨z,z,z,z,fun _ _=>z,fun x c=>?_,(fun g a=>absurd a qj)⟩;simp_all[tP]
theorem aX1 (h:m.wf):((tP m).add.flatMap gA).length<=m.min.size+m.max.size+112:=by
 show ([m].flatMap gA).length<=_;simp_all[aFp]
theorem aUs {s:State}:((wD s).add.flatMap gA).length<=10:=by simp_all[wD]
def oI (s:State) (k j:Nat):List Dg:=wG (wD s) :: ((dI s k++(s.lv k).take j).map fun m=>wG (tP m))
theorem aWS (s:State):oI s 0 0=[]++[wG (wD s)]:=by rfl
theorem aWW {s:State} (h:(s.lv k)[j]? = some m):oI s k j++[wG (tP m)]=oI s k (j+1):=by
 simp_all[oI,wg]
theorem aWV {s:State} (h:(s.lv k).length<=j):oI s k j=oI s (k+1) 0:=by
 simp_all[oI,qz,dI]
theorem aWT (s:State):oI s 5 0=aAU s:=by simp[oI,aAU]
theorem aWU (s:State) (k j:Nat):((oI s k j).length:Int)<=1+tot s k+(s.lv k).length:=by
 grind[aE8,oI,qp]
theorem bCK {s:State} (h:k<5):tot s k+(s.lv k).length<=tot s 5:=aEg _ (show k+1<=5 by omega)
theorem aWm (s:State) (hd:Nat->Sh) {j:Int} (h:k<5) (e:j.toNat=k):((List.range 5).map fun i=>(hd i).val (s.lv i).length)[j.toNat]? = some ((hd k).val (s.lv k).length):=by
 simp_all
theorem aWR (s:State):((aAU s).length:Int)=1+tot s 5:=by
 grind[aE8,aAU]
theorem bC5 {sz:Nat} {ρ:aG} {G:PM} {μ:aB} {X:Cx} {e:Code} {k:List KI} {b:Nat} {c:aB} (x:α) (hm:MTake μ (.blk b (cl (enc x) E)) c) (j:(enc x).length=sz) (h:Wk X e k ρ G (rS sz enc (.slice (some ⟨b,0,none⟩) 1 1) E [x] :: c)):Wk X e k ρ G μ :=
 ⟨fun a w g f=>by
  have i : [x].flatMap enc=enc x:=by simp
  refine h.out a w g ?_;show Tr _ _ _ _ (.row _ E sz [x].length ([x].flatMap enc) :: c) w;rw [i];exact (f.perm hm.perm).asRow (m:=1) (cap:=1) (sz:=sz) om (qd _) (by trivial) (by grind) (by grind)⟩
structure StL (s:State):Prop where
 few:tot s 5≤100000
 short:∀ i,i<5→∀ m∈s.lv i,m.min.size+m.max.size≤900000000000
structure Fl where
 h:Hd
 n:BitVec 64
 safe:Bool
def Fl.cells (f:Fl):List Value:=f.h.cells++[uv .u64 f.n,.bool f.safe]
def Fl.zero:Fl:=⟨Hd.zero,0,false⟩
def pt (b:Nat):Value:=.pointer (some ⟨b,0,none⟩)
structure Db where
 dk:Nat
 tr:Nat
 root:Nat→Y
 o:Opts
 ep:BitVec 64
 s:State
 hd:Nat→Sh
 next:BitVec 64
 seq:BitVec 64
 turn:BitVec 64
 held:Nat
 lg:Fl
 ol:Fl
 mn:Fl
 now:Nat
 wt:Option Nat:=none
 flt:Int:=0
 cls:Bool:=false
def ptO (o:Option Nat):Value:=.pointer (o.map fun b=>⟨b,0,none⟩)
def Db.cells (b:Db):List Value :=
 [pt b.dk,pt b.tr]++ba 32 b.root++b.o.cells++[uv .u64 b.ep]++b.s.cells b.hd++[uv .u64 b.next,uv .u64 b.seq,uv .u64 b.turn,.map (some b.held)]++b.lg.cells++b.ol.cells++b.mn.cells++[pt b.now,ptO b.wt,.int .i64 b.flt,.bool b.cls]
theorem aPj (b:Db) (v:BitVec 64):b.cells.set 56 (uv .u64 v)=Db.cells { b with next:=v }:=rfl
theorem aPm (b:Db) (v:BitVec 64):b.cells.set 57 (uv .u64 v)=Db.cells { b with seq:=v }:=rfl
theorem aCk (b:Db) (f:Fl):put b.cells 60 f.cells=Db.cells { b with lg:=f }:=rfl
theorem aII (b:Db) (f:Fl):put b.cells 74 f.cells=Db.cells { b with mn:=f }:=rfl
theorem aIK (b:Db) (s:State) (hd:Nat->Sh):put b.cells 42 (s.cells hd)=Db.cells { b with s:=s,hd:=hd }:=rfl
theorem aPi (b:Db) (n:BitVec 64):b.cells.set 65 (uv .u64 n)=Db.cells { b with lg:={ b.lg with n:=n } }:=rfl
theorem aCl (b:Db) (s:Bool):b.cells.set 66 (.bool s)=Db.cells { b with lg:={ b.lg with safe:=s } }:=rfl
theorem aIJ (b:Db) (n:BitVec 64):b.cells.set 79 (uv .u64 n)=Db.cells { b with mn:={ b.mn with n:=n } }:=rfl
theorem Fl.one (f:Fl):∀ u∈f.cells,u.oneCell'=true:=by
 intro u a;simp only [Fl.cells,Hd.cells,ww,qu,qg,qj,or_false] at a;rcases a with rfl|rfl|rfl|rfl|rfl|rfl|rfl<;>rfl
def jG (a b:Int):Edit:=⟨a,b,0,0,fun _=>0,[],[]⟩
def gO (a b:Int):State:=⟨fun _=>[],a,b,0,0,fun _=>0⟩
theorem aFn {a b:Int} (h:u64 a) (f:u64 b):(jG a b).wf:=by
 have z:u64 0:=⟨dc,dc⟩;exact ⟨h,f,z,z,fun _ _=>z,(fun m c=>absurd c qj),(fun g e=>absurd e qj)⟩
theorem aHg {G:PM} {a b:Int}:StR G (gO a b) eT:=⟨fun _ _=>dG,fun _ _=>qr _,fun _ _ m c=>nomatch c⟩
theorem aRW {a b:Int} (f:0<=a) (e:0<=b):uD State.zero (jG a b)=false:=by
 rw [aJM (fun i c=>by grind[jG,State.zero])];grind[jG,State.zero]
theorem aNG {a b:Int} (g:0<=a) (f:a<=b):fE (gO a b)=true:=by
 refine aAk ⟨by simp_all[gO],by simp_all[gO],by trivial,by simp[tot,gO],fun i e=>?_,fun x y c _=>?_⟩
 ·simp_all[zM,gO]
 trivial
theorem bAu {a b:Int} (h:k<5):((gO a b).cells eT).set (0+k*1) (.slice none 0 0)=(gO a b).cells eT:=by
 match k,h with
 | 0,_=>rfl | 1,_=>rfl | 2,_=>rfl | 3,_=>rfl | 4,_=>rfl
theorem bAt {a b:Int} (h:k<5):((gO a b).cells eT)[0+k*1]? = some (.slice none 0 0):=by
 match k,h with
 | 0,_=>rfl | 1,_=>rfl | 2,_=>rfl | 3,_=>rfl | 4,_=>rfl
theorem aMD {j:Int} (h:j.toNat<5):((List.range 5).map (fun _=>Value.slice none 0 0))[j.toNat]? = some (.slice none 0 0):=by simp [h]
theorem aN7 {a b:Int} (e:u64 a) (c:u64 b):StN (gO a b):=⟨e,c,⟨by simp_all[gO],by simp_all[gO]⟩,⟨by simp_all[gO],by simp_all[gO]⟩,fun _ _=>⟨by simp_all[gO],by simp_all[gO]⟩⟩
theorem bAs {a b:Int}:StL (gO a b):=⟨by simp[tot,gO],fun _ _ m c=>absurd c qj⟩
theorem aWN {root:Nat->Y} {h:Hd} {n:BitVec 64} {p L:List Y} {e:Int} (g:p.length<=400) (a:(L,e)=mZ root h n p):e=0∧L.length<=600:=by
 unfold mZ at a;rw [if_pos om] at a;obtain ⟨f,i⟩:=Prod.mk.inj a;have c:(kR (fN root (bG h)) (fO root (bG h)) (jA n) (bG h) p).length=p.length+16:=by rw [uY]
 generalize kR (fN root (bG h)) (fO root (bG h)) (jA n) (bG h) p=S at f c;have j:aHI S=rM S ((S.length+127) / 128):=rfl;grind[aG6]
section
variable {dr:Bool} {mc:Md} {P:Program} {n:Fm} {l:List Oper} {K:aG→PM→aB→Prop} {i:Nat} {σ:List Nat} {ρ:aG} {G:PM} {μ:aB}
variable {t:Nat} {p:String} {af:Array Edge}
theorem stp {T c:TypeId} {x:Operand} {b o:Nat} {cs cs':List Value} {a:aB} (m:nth l i=some ⟨none,.store T x y,t,p,af,none⟩) (g:Ev ρ true x (.pointer (some ⟨b,o,none⟩))) (f:Ev ρ true y v) (j:v.cells=vs.toArray) (e:iU P T=some vs.length) (hm:MTake μ (.blk b (cl cs c)) a) (q:o+vs.length<=cs.length) (h1:∀ u∈vs,u.oneCell'=true) (k:put cs o vs=cs') (h:Wo dr mc P n l K σ ρ G (.blk b (cl cs' c) :: a)):Wo dr mc P n l K (i :: σ) ρ G μ:=by
 grind[st]
end
section
variable {mc:Md} {P:Program} {n:Fm} {l:List Oper} {K:aG→PM→aB→Prop} {i:Nat} {σ:List Nat} {ρ:aG} {G:PM} {μ:aB}
variable {d t:Nat} {p:String} {af:Array Edge}
theorem kpc {f:FuncId} {xs:List Operand} {j:Array TypeId} {post:PM->aB->Value->Prop} {die:List PanicEntry->Prop} {m:Option Nat} (r:nth l i=some ⟨m,.call { callee:=.value (.func f),args:=xs.toArray,argTypes:=j },t,p,af,none⟩) (A:dW P f=true) (q:∀ a,Ag n ρ a->true=true->xs.map a.eval=vs) (y:Cp P f vs.toArray G [] post die) (E:∀ k g e c,PM.le G g->die k->(∀ i,cO e i=cO ρ i)->c.Perm μ->n.die k e g c) (h:∀ v g c,PM.le G g->post g c v->Wo false mc P n l K σ (bT ρ m true v) g (c++μ)):Wo false mc P n l K (i :: σ) ρ G μ :=
 .callp (μ₁:=[]) rfl r .no (.refl _) (fun a w C=>xB A (q a C rfl) _ _ _ _ _ _) y.cq (fun k g D e c x hd H F=>by simp_all) h
theorem kpq {f:FuncId} {xs:List Operand} {c:Array TypeId} {μ₁ μ₂:aB} {post:PM->aB->Value->Prop} {die:PM->aB->List PanicEntry->Prop} {e:Option Nat} (m:nth l i=some ⟨e,.call { callee:=.value (.func f),args:=xs.toArray,argTypes:=c },t,p,af,none⟩) (r:dW P f=true) (j:∀ a,Ag n ρ a->true=true->xs.map a.eval=vs) (k:μ.Perm (μ₁++μ₂)) (q:Cq P f vs.toArray G μ₁ post die) (g:∀ ch G' ν ρ' μ',PM.le G G'->die G' ν ch->(∀ i,cO ρ' i=cO ρ i)->μ'.Perm (ν++μ₂)->n.die ch ρ' G' μ') (h:∀ v G' μ',PM.le G G'->post G' μ' v->Wo false mc P n l K σ (bT ρ e true v) G' (μ'++μ₂)):Wo false mc P n l K (i :: σ) ρ G μ :=
 .callp rfl m .no k (fun a w x=>xB r (j a x rfl) _ _ _ _ _ _) q g h
theorem pnc {x:Operand} {T:TypeId} {g:Option Nat} (e:nth l i=some ⟨g,.panic x,t,p,af,none⟩) (c:ev ρ x=some (true,.iface T v)) (hd:∀ ρ' μ',(∀ i,cO ρ' i=cO ρ i)->μ'.Perm μ->n.die [{ v:=.iface T v,recovered:=false }] ρ' G μ'):Wo false mc P n l K (i :: σ) ρ G μ :=
 .pan rfl e .no (fun a w f=>by simp [execOp,f.eval c rfl,Instr.panic,goPanic]) hd
end
theorem bCn {P:Program} {o:Oper} {a:Act} {next c:Act->World->Prop} {Q f:Exit->Act->World->Prop} (h1:∀ a w,next a w->c a w) (h2:∀ ch a w,Q (.panic ch) a w->f (.panic ch) a w) (h3:LetsOut Q->LetsOut f) :
  ∀ r,o.upon P a next Q r->o.upon P a c f r:=by
 intro r h;unfold Oper.upon at h ⊢;split at h
 ·simp_all
 ·simp_all
 ·simp_all
 ·refine h.mono fun e i g=>?_;grind
 ·exact h.mono fun v i g=>h1 _ _ g
 ·simp_all
 omega
theorem aCh {P:Program} {c:Array Oper} {Q:Exit->Act->World->Prop} {e:List Nat}:∀ {σ1:List Nat} {a:Act} {w:World},wpOps P c (Exit.then (wpOps P c Q e) Q) σ1 a w->wpOps P c Q (σ1++e) a w
 | [],a,w,h=>h
 | i :: σ1,a,w,h=>by
  simp only [wpOps,List.cons_append] at h ⊢;cases ho:c[i]? with
  | none=>simp only [ho] at h; exact aCh h
  | some o =>
   simp only [ho] at h;dsimp only;split at h
   ·rename_i hw;rw [if_pos hw];rcases h with h | ⟨h,hl⟩
    ·exact .inl (bCn (fun a w h=>aCh h) (fun ch a w h=>h) (fun h=>h) _ h)
    ·exact .inr ⟨h,hl⟩
   ·rename_i hw;rw [if_neg hw]; exact aCh h
abbrev Cx.dfr (X:Cx) (d:Deferred) (die1:List PanicEntry→aG→PM→aB→Prop)
  (ok1:∀ ch ρ G μ a w,die1 ch ρ G μ→Ag ⟨X.n.n,[d],die1⟩ ρ a→Tr X.G0 X.K0 X.w0 G μ w→Leaves X.P X.fn a.tmps (RR X.post X.die X.G0 X.K0 X.w0) a.defers (.panicking ch) w):Cx :=
 ⟨X.P,X.fn,⟨X.n.n,[d],die1⟩,X.G0,X.K0,X.w0,X.post,X.die,ok1⟩
theorem aBF {X Y:Cx} (h1:X.P=Y.P) (h2:X.fn=Y.fn) (h3:X.R=Y.R):∀ k,gM X k=gM Y k
 | []=>by simp_all[gM]
 | .code c :: k=>by simp only [gM,aBF h1 h2 h3 k,h1]
 | .blk id :: k=>by simp only [gM,aBF h1 h2 h3 k]
 | .lp I :: k=>by simp only [gM,aBF h1 h2 h3 k]
structure DefOp (P:Program) (n:Fm) (l:List Oper) (j:Nat) (d:Deferred) (ρ:aG):Prop where
 of:∃ o,nth l j=some o∧o.guard=none∧o.dst=none∧∀ a w,Ag n ρ a→(execOp a.eval o).run P w=.ok (.defer d) w
theorem Wk.defer {X:Cx} {k:List KI} {e:aG} {G:PM} {f:aB} {x:Nat} {l:List Oper} (g:List Nat) (j:Nat) (d:Deferred) (c:List PanicEntry->aG->PM->aB->Prop)
  (m:∀ ch e G f a w,c ch e G f->Ag ⟨X.n.n,[d],c⟩ e a->Tr X.G0 X.K0 X.w0 G f w->Leaves X.P X.fn a.tmps (RR X.post X.die X.G0 X.K0 X.w0) a.defers (.panicking ch) w)
  (y:List.range l.length=g++[j]) (v:jP X.n l=true) (E:X.n.ds=[])
  (h:Wo false ⟨false,false⟩ X.P X.n l (fun e G f=>DefOp X.P X.n l j d e∧We (X.dfr d c m) .normal k e G f) g e G f):Wk X (.region x l.toArray false) k e G f:=by
 refine ⟨fun a w i t=>wp_region ?_⟩;have A:qe l.toArray.size=g++[j]:=by omega
 rw [A];refine aCh ?_;refine Wo.run (Q:=Exit.then (wpOps X.P l.toArray (gM X k) [j]) (gM X k)) (aDV v) (fun _=>vM _ k) (fun e G f D a w i t=>?_) _ _ _ _ a w h i t;obtain ⟨⟨o,C,F,q,p⟩,r⟩:=D;show wpOps X.P l.toArray (gM X k) [j] a w;simp only [wpOps,kN,C];rw [if_pos (by grind[Region.wanted])];refine .inl ?_;unfold Oper.wp;rw [p a w i];simp only [Oper.upon,wpOps,q,Act.put];have:=r.out { a with defers:=d :: a.defers } w ⟨i.size,by show d :: a.defers=[d]; rw [i.defers,E],i.get⟩ t;rwa [aBF (X:=X.dfr d c m) (Y:=X) rfl rfl rfl k] at this
theorem We.finD {X:Cx} {ρ:aG} {G:PM} {μ:aB} (h:∀ a w,Ag X.n ρ a->Tr X.G0 X.K0 X.w0 G μ w->Leaves X.P X.fn a.tmps X.R X.n.ds .returning w):We X .ret [] ρ G μ :=
 ⟨fun a w c e=>by
  show Leaves X.P X.fn a.tmps X.R a.defers .returning w;rw [c.defers]; simp_all⟩
def ifT (P:Program) (T:TypeId):Bool:=match P.underlying T with | some (.interface _)=>true | _=>false
theorem aGJ {P:Program} {T:TypeId} (h:ifT P T=true):∃ q,P.underlying T=some (.interface q):=by
 grind[ifT]
def dfc (f:FuncId) (args:List Value):Deferred:={ target:=.fn (.func f) #[],args:=args.toArray }
theorem aQf {X:Cx} {ρ:aG} {G:PM} {μ c:aB} {k:List ResultVar} {f:FuncId} {args:List Value} (t:dW X.P f=true) (g:X.n.ds=[dfc f args]) (m:∀ w,CallsD X.P f args.toArray .returning w (fun e j i=>(∃ v,e=.returned v)∧j=.returning∧i=w)) (r:X.fn.results=k.toArray) (h:Rs X.P ρ G μ k vs) (hM:MSub c μ) (p:X.post G c (eV vs)):We X .ret [] ρ G μ :=
 We.finD fun a w q l=>by
  rw [g];refine leaves_cons (by simp) (f:=f) (args:=args.toArray) (by grind[invoke,aAn]) ((m w).mono ?_);rintro e j i ⟨⟨v,rfl⟩,rfl,rfl⟩;exact ⟨_,aEV (by simp_all) q l.sat,.inl ⟨_,G,c,rfl,hM.tr l,p⟩⟩
theorem bC6 {X:Cx} {k:List KI} {ρ:aG} {G:PM} {μ:aB} {g:Nat} {l:List Oper} {f:FuncId} {x:Operand} {c:Array TypeId} {t:Nat} {p:String} {y:Array Edge} (j:l=[⟨none,.defer { callee:=.value (.func f),args:=#[x],argTypes:=c },t,p,y,none⟩]) (r:X.n.ds=[]) (i:ev ρ x=some (true,v)) (h:We (X.dfr (dfc f [v]) (fun _ _ _ _=>False) (fun _ _ _ _ _ _ e=>e.elim)) .normal k ρ G μ):Wk X (.region g l.toArray false) k ρ G μ:=by
 subst j;refine Wk.defer [] 0 (dfc f [v]) (fun _ _ _ _=>False) (fun _ _ _ _ _ _ e=>e.elim) rfl rfl r (.nil ⟨⟨_,rfl,rfl,rfl,fun a w q=>?_⟩,h⟩);have A:a.eval x=v:=q.eval i rfl;have m:a.eval (.func f)=.func (.func f) #[] #[]:=rfl;simp_all[execOp,resolve,Deferred.ofValue,dfc]
theorem Rs.congr {P:Program} {ρ a:aG} {G:PM} {μ:aB} {c:List ResultVar} (h:Rs P ρ G μ c vs) (e:∀ i,cO a i=cO ρ i):Rs P a G μ c vs:=by
 induction h<;>simp_all[nil,tmp,cell]
structure DQ where
 f:FuncId
 args:List Value
 vc:List Value
def DQ.d (q:DQ):Deferred:={ target:=.fn (.func q.f) q.vc.toArray,args:=q.args.toArray }
def aIa (P:Program) (G:PM) (μ:aB) (q:DQ):Prop :=
 dW P q.f=true∧∀ w,Sat G μ w->CallsD P q.f (q.args++q.vc).toArray .returning w (fun e u' w'=>(∃ v,e=.returned v)∧u'=.returning∧w'=w)
theorem aLY {P:Program} {fn:Func} {a:Array Value} {R:Ending->World->Prop} {G:PM} {μ:aB} {w:World} (g:Sat G μ w) (i:Leaves P fn a R [] .returning w) :
  ∀ {ds:List DQ},(∀ q∈ds,aIa P G μ q)->Leaves P fn a R (ds.map DQ.d) .returning w
 | [],_=>i
 | q :: ds,h=>by
  have hq:=h q (ql ..);refine leaves_cons (by simp) (f:=q.f) (args:=(q.args++q.vc).toArray) (by simp [invoke,aAn hq.1]) ((hq.2 w g).mono ?_);rintro e l k ⟨⟨v,rfl⟩,rfl,rfl⟩;exact aLY g i fun j c=>h j (qo _ c)
abbrev Cx.dfs (X:Cx) (d:Deferred) (die1:List PanicEntry→aG→PM→aB→Prop)
  (ok1:∀ ch ρ G μ a w,die1 ch ρ G μ→Ag ⟨X.n.n,d :: X.n.ds,die1⟩ ρ a→Tr X.G0 X.K0 X.w0 G μ w→Leaves X.P X.fn a.tmps (RR X.post X.die X.G0 X.K0 X.w0) a.defers (.panicking ch) w):Cx :=
 ⟨X.P,X.fn,⟨X.n.n,d :: X.n.ds,die1⟩,X.G0,X.K0,X.w0,X.post,X.die,ok1⟩
theorem Wk.defers {X:Cx} {k:List KI} {e:aG} {G:PM} {f:aB} {x:Nat} {l:List Oper} (g:List Nat) (j:Nat) (d:Deferred) (c:List PanicEntry->aG->PM->aB->Prop)
  (m:∀ ch e G f a w,c ch e G f->Ag ⟨X.n.n,d :: X.n.ds,c⟩ e a->Tr X.G0 X.K0 X.w0 G f w->Leaves X.P X.fn a.tmps (RR X.post X.die X.G0 X.K0 X.w0) a.defers (.panicking ch) w)
  (y:List.range l.length=g++[j]) (v:jP X.n l=true)
  (h:Wo false ⟨false,false⟩ X.P X.n l (fun e G f=>DefOp X.P X.n l j d e∧We (X.dfs d c m) .normal k e G f) g e G f):Wk X (.region x l.toArray false) k e G f:=by
 refine ⟨fun a w i t=>wp_region ?_⟩;have A:qe l.toArray.size=g++[j]:=by omega
 rw [A];refine aCh ?_;refine Wo.run (Q:=Exit.then (wpOps X.P l.toArray (gM X k) [j]) (gM X k)) (aDV v) (fun _=>vM _ k) (fun e G f D a w i t=>?_) _ _ _ _ a w h i t;obtain ⟨⟨o,C,E,q,p⟩,r⟩:=D;show wpOps X.P l.toArray (gM X k) [j] a w;simp only [wpOps,kN,C];rw [if_pos (by grind[Region.wanted])];refine .inl ?_;unfold Oper.wp;rw [p a w i];simp only [Oper.upon,wpOps,q,Act.put];have:=r.out { a with defers:=d :: a.defers } w ⟨i.size,by show d :: a.defers=d :: X.n.ds; rw [i.defers],i.get⟩ t;rwa [aBF (X:=X.dfs d c m) (Y:=X) rfl rfl rfl k] at this
theorem aPo {P:Program} {n:Fm} {l:List Oper} {ρ:aG} {f:FuncId} {x:Operand} {vc:List Value} {c:Array TypeId} {t:Nat} {p:String} {k:Array Edge} (g:nth l j=some ⟨none,.defer { callee:=.value x,args:=#[],argTypes:=c },t,p,k,none⟩) (e:ev ρ x=some (true,.func (.func f) #[] vc.toArray)):DefOp P n l j (DQ.d ⟨f,[],vc⟩) ρ :=
 ⟨⟨_,g,rfl,rfl,fun a w i=>by
  have h:a.eval x=.func (.func f) #[] vc.toArray:=i.eval e rfl;simp_all[execOp,resolve,Deferred.ofValue,DQ.d]⟩⟩
theorem aBH {X:Cx} {ρ:aG} {G:PM} {μ c:aB} {g:List ResultVar} (ds:List DQ) (f:X.n.ds=ds.map DQ.d) (i:∀ q∈ds,aIa X.P G μ q) (l:X.fn.results=g.toArray) (h:Rs X.P ρ G μ g vs) (hM:MSub c μ) (j:X.post G c (eV vs)):We X .ret [] ρ G μ :=
 We.finD fun a w k e=>by
  rw [f];exact aLY e.sat ⟨_,aEV (by simp_all) k e.sat,.inl ⟨_,G,c,rfl,hM.tr e,j⟩⟩ i
def zro {α:Type}:α->Nat:=fun _=>0
theorem cD (y:α):zro y<1:=vv
theorem Wk.jn {X:Cx} {k:List KI} {ρ:aG} {G:PM} {μ:aB} {c:Code} (E:α->aG) (M:α->aB) (F:α->PM->Prop) (f:aG) (g:aB) (hE:ESub f ρ) (hM:MSub g μ) (h:Wk X c (.lp (fun a w=>∃ y,zro y<1∧Inv X G (fun x=>E x++f) (fun x=>M x++g) F y a w) :: k) ρ G μ) (h2:∀ y i,PM.le G i->F y i->We X .normal k (E y++f) i (M y++g)):Wk X c k ρ G μ :=
 ⟨fun a w m j=>wp_mono (h.out a w m j) fun e a w n=>by
  cases e with
  | normal =>
   obtain ⟨y,_,i,l,p,m,j⟩:=n;exact (h2 y i l p).out a w m j
  | _=>exact n⟩
section
variable {dr:Bool} {mc:Md} {P:Program} {n:Fm} {l:List Oper} {K:aG→PM→aB→Prop} {i:Nat} {σ:List Nat} {ρ:aG} {G:PM} {μ:aB}
variable {d t:Nat} {p:String} {af:Array Edge}
theorem apZ {sz f:Nat} {x:Operand} (v:nth l i=some ⟨some d,.call { callee:=.builtin .append,args:=#[x,y],argTypes:=#[T,T] },t,p,af,none⟩) (C:cI P T=some (E,sz,f)) (q:Ev ρ true x (.slice none 0 0)) (m:Ev ρ true y (.slice none 0 0)) (h:Wo dr mc P n l K σ ((d,true,.slice none 0 0) :: ρ) G μ) (hmc:mc.a=false∨dr=false:=by first|exact .inl rfl|exact .inr rfl):Wo dr mc P n l K (i :: σ) ρ G μ:=by
 obtain ⟨r,k,A,rfl,rfl⟩:=gE C;refine .act (μ₁:=[]) (μ₂:=μ) (post:=fun D c j=>D=G∧j=.slice none 0 0∧c=[]) v (by simp_all[bK]) .no (.refl _) (fun a w g e=>.inl ?_) ?_
 ·exact ⟨.slice none 0 0,w,G,[],.inl (by simp [execOp,resolve,invoke,builtin,q.eval g rfl,m.eval g rfl,Builtin.append_,run_underlying r,sizeOf,typeInfo,A,Builtin.lenOf,Builtin.firstCells,loadCells,loadCellsFrom]),gR (Sat.left (μ:=[]) e),rfl,rfl,rfl⟩
 simp_all[bT]
end
theorem DefOp.fn {P:Program} {n:Fm} {l:List Oper} {ρ:aG} {f:FuncId} {xs:List Operand} {c:Array TypeId} {t:Nat} {p:String} {k:Array Edge} (g:nth l j=some ⟨none,.defer { callee:=.value (.func f),args:=xs.toArray,argTypes:=c },t,p,k,none⟩) (e:∀ a,Ag n ρ a->true=true->xs.map a.eval=vs):DefOp P n l j (DQ.d ⟨f,vs,[]⟩) ρ :=
 ⟨⟨_,g,rfl,rfl,fun a w i=>by
  have m:=e a i rfl;have h:a.eval (.func f)=.func (.func f) #[] #[]:=rfl;simp_all[execOp,resolve,Deferred.ofValue,DQ.d]⟩⟩
theorem le_add {G:PM} {b:Nat} {o:Obj} (h:G b=none):PM.le G (G.add b o):=fun c u a=>by
 unfold PM.add;grind
theorem aCx {G:PM} {b c:Nat} {o:Obj} (h:c≠b):G.add b o c=G c:=by simp_all[PM.add]
theorem tK {μ f e c a:aB} {j i h g:Res} (h1:MTake μ j f) (h2:MTake f i e) (h3:MTake e h c) (k:MTake c g a):μ.Perm ([j,i,h,g]++a):=h1.perm.trans ((fC h2 h3 k).cons _)
theorem yO {μ g f e c a:aB} {l k j i h:Res} (h1:MTake μ l g) (h2:MTake g k f) (h3:MTake f j e) (n:MTake e i c) (m:MTake c h a):μ.Perm ([l,k,j,i,h]++a):=h1.perm.trans ((tK h2 h3 n m).cons _)
theorem aXG {μ h g f e c a:aB} {n m l k j i:Res} (h1:MTake μ n h) (h2:MTake h m g) (h3:MTake g l f) (r:MTake f k e) (q:MTake e j c) (p:MTake c i a):μ.Perm ([n,m,l,k,j,i]++a):=h1.perm.trans ((yO h2 h3 r q p).cons _)
theorem kK {P:Program} {f:FuncId} {args:Array Value} {G:PM} {μ:aB} {b:Nat} {o:Obj} {Q:aB->Value->Prop} (h:∀ G2,PM.le G G2->PB G2 b o->Ct P f args G2 μ (fun _ μ' u=>Q μ' u)) :
  Ct P f args G (.blk b o :: μ) (fun _ μ' u=>∃ ν,μ'=.blk b o :: ν∧Q ν u):=fun w a =>
 vH (h _ (le_add (a.apart b (by simp [keys,Res.keys]))) ⟨bP _ _ _⟩) w a
theorem aDs {P:Program} {f:FuncId} {args:Array Value} {G:PM} {μ:aB} {b1 b2 b3:Nat} {k j o3:Obj} {Q:aB->Value->Prop}
  (h:∀ G2,PM.le G G2->PB G2 b1 k->PB G2 b2 j->PB G2 b3 o3->Ct P f args G2 μ (fun _ a u=>Q a u)) :
  Ct P f args G (.blk b1 k :: .blk b2 j :: .blk b3 o3 :: μ) (fun _ a u=>∃ c,a=.blk b1 k :: .blk b2 j :: .blk b3 o3 :: c∧Q c u):=fun w l=>by
 have g:=l.nodup;have n:keys (.blk b1 k :: .blk b2 j :: .blk b3 o3 :: μ)=b1 :: b2 :: b3 :: keys μ:=by rfl
 rw [n] at g;have t:b1≠b2:=fun e=>(wy.1 g).1 (by simp_all);have r:b1≠b3:=fun e=>(wy.1 g).1 (by simp_all);have p:b2≠b3:=fun e=>(wy.1 (wy.1 g).2).1 (by simp_all);have x:G b1=none:=l.apart b1 (by simp_all);have D:G b2=none:=l.apart b2 (by simp_all);have C:G b3=none:=l.apart b3 (by simp_all);have m:PM.le G (((G.add b1 k).add b2 j).add b3 o3):=((le_add x).trans (le_add (by grind[aCx]))).trans (le_add (by grind[aCx]));have v:=h (((G.add b1 k).add b2 j).add b3 o3) m ⟨by simp_all[aCx,bP]⟩ ⟨by simp_all[aCx,bP]⟩ ⟨bP _ _ _⟩;exact (vH (Q:=fun a u=>∃ c,a=.blk b2 j :: .blk b3 o3 :: c∧Q c u) ((vH (Q:=fun a u=>∃ c,a=.blk b3 o3 :: c∧Q c u) (vH v)).mono fun A a u ⟨c,e,i,y,q⟩=>⟨i,by grind,q⟩)).mono (fun A a u ⟨c,e,i,y,q⟩=>⟨i,by grind,q⟩) w l
theorem aA7 {P:Program} {G:PM} {μ:aB} {f:FuncId} {args:Array Value} {xs:List Y} {post:PM->aB->Value->Prop} (h:∀ (s:Sh) (G2:PM),PM.le G G2->v=s.val xs.length->SlR G2 1 aK s xs->Ct P f args G2 μ post):Ct P f args G (rB v E xs :: μ) post:=by
 intro w c;have k:w.ownsRow 0 E 1 v xs.length (xs.map V):=c.own _ (ql ..);rcases k.2 with ⟨rfl,I⟩ | ⟨g,i,e,rfl,_,C,t,F,D,n⟩
 ·have A:xs=[]:=wo I;subst A;have m:keys (rB (.slice none 0 0) E [] :: μ)=keys μ:=by rfl
  have a:Sat G μ w:=⟨c.sub,fun r l=>c.own r (qo _ l),by rw [← m]; exact c.apart,by rw [← m]; exact c.nodup⟩;have:=h ⟨none,0⟩ G (PM.le.refl _) rfl dG w a;simp_all
 have m:keys (rB (.slice (some ⟨g,0,none⟩) xs.length i) E xs :: μ)=keys (.blk g (.cells e E (0,0)) :: μ):=by rfl
 have a:Sat G (.blk g (.cells e E (0,0)) :: μ) w:=by
  refine ⟨c.sub,fun r l=>?_,by rw [← m]; exact c.apart,by rw [← m]; exact c.nodup⟩;rcases qg.1 l with rfl | l
  ·exact C
  exact c.own r (qo _ l)
 have H:G g=none:=a.apart g (by simp [keys,Res.keys]);have p:SlR (G.add g (.cells e E (0,0))) 1 aK ⟨some ⟨g,0,none⟩,i⟩ xs:=by
  refine pP (fun _ _=>rfl) t (fun _=>rfl) ?_;rw [uN];intro j u J y q;show y.cell? ⟨g,0+j,none⟩=some u;rw [wb,cell_of_row y g j e E (0,0) (q g _ (bP _ _ _))];grind
 have:=rZ (fun x=>h ⟨some ⟨g,0,none⟩,i⟩ _ x rfl p) w a;simp_all
theorem aF1 {nm:ByteArray}:∀ {F:List Fi},nm∉F.map Fi.nm->aM nm F=none
 | [],_=>rfl
 | f :: r,h=>by
  rw [List.map_cons,List.mem_cons,not_or] at h;rw [aM,if_neg (fun e=>h.1 e.symm)]; exact aF1 h.2
theorem aKZ {nm:ByteArray}:∀ {F:List Fi},nm∈F.map Fi.nm->∃ f,aM nm F=some f
 | [],h=>by cases h
 | f :: r,h=>by
  rw [aM];by_cases q:f.nm=nm
  ·simp_all
  ·rw [if_neg q];rw [List.map_cons,List.mem_cons] at h;exact aKZ (h.resolve_left fun e=>q e.symm)
def wZ (x:ByteArray):List ByteArray->List ByteArray
 | []=>[]
 | y :: r=>if y=x then r else y :: wZ x r
theorem aFv {nm:ByteArray}:∀ {F:List Fi},(eE nm F).map Fi.nm=wZ nm (F.map Fi.nm)
 | []=>rfl
 | f :: r=>by
  rw [eE,List.map_cons,wZ];by_cases q:f.nm=nm
  ·simp_all
  ·rw [if_neg q,if_neg q,List.map_cons,aFv]
theorem qN:(cW 3 0).size=15:=by kernel_rfl
theorem sz5:(cW 5 0).size=11:=by kernel_rfl
theorem sz4:(cW 4 0).size=7:=by kernel_rfl
theorem aMJ:eN (cW 3 0):=⟨by simp[qN],by simp[qN]⟩
theorem aGs {a b:ByteArray} {m:Nat} (h1:a.size=m) (h2:b.size=k) (h:m≠k):a≠b:=fun e=>h (by simp_all)
theorem aXZ:cW 5 0∉[cW 3 0]:=fun h=>aGs sz5 qN dc (qf.1 h)
theorem aXY:cW 4 0∉[cW 3 0]:=fun h=>aGs sz4 qN dc (qf.1 h)
theorem aNK:wZ (cW 5 0) [cW 3 0,cW 5 0]=[cW 3 0]:=by
 simp[wZ,aGs,qN,sz5]
theorem bDD {F:List Fi} {f:Fi} {clk n:Nat} {nm:ByteArray} (e:DkR F clk) (h1:f.nm=nm) (h2:f.n=n) (h3:f.born=clk) (c:aM nm F=none) (h:nm.size<=100) (g:aZ F+n<=1000000000) (i:F.length<100) :
  DkR (dQ nm (F++[f])) (clk+1)∧(dQ nm (F++[f])).map Fi.nm=F.map Fi.nm++[nm]∧aZ (dQ nm (F++[f]))=aZ F+n:=by
 have a:DkR (F++[f]) (clk+1):=e.app h3 om (by simp_all) (by simp_all) om;refine ⟨a.sy,?_,?_⟩
 ·grind[aAM]
 simp_all[yB,aAu,aZ]
theorem aZb {F:List Fi} {f:Fi} {clk:Nat} {nm a:ByteArray} (g:DkR F clk) (e:aM nm F=some f) (c:aM a (eE nm F)=none) (h:a.size<=100) (l:F.length<100) :
  DkR (eE nm F++[{ f with nm:=a,born:=clk }]) (clk+1)∧(eE nm F++[{ f with nm:=a,born:=clk }]).map Fi.nm=wZ nm (F.map Fi.nm)++[a]∧aZ (eE nm F++[{ f with nm:=a,born:=clk }])=aZ F:=by
 have j:=(aAH e).1;have i:=g.few;have k:=(xZ (nm:=nm) (F:=F)).2;refine ⟨(g.del e).app rfl (by simp_all) c h om,?_,?_⟩
 ·simp[aFv]
 simp_all[aAu,aZ]
def Db.new (dk tr:Nat) (root:Nat->Y) (o:Opts) (ep:BitVec 64) (held now:Nat):Db:=⟨dk,tr,root,o,ep,State.zero,eT,0#64,0#64,0#64,held,Fl.zero,Fl.zero,Fl.zero,now,none,0,false⟩
def qY (ep:BitVec 64) (n:BitVec 64):Fl:=⟨⟨3#8,0#8,0#64,ep,0#64⟩,n,false⟩
def flL (ep:BitVec 64) (n:BitVec 64):Fl:=⟨⟨1#8,0#8,0#64,ep,1#64⟩,n,false⟩
def Db.d1 (dk tr:Nat) (root:Nat->Y) (o:Opts) (ep:BitVec 64) (held now:Nat):Db:={ Db.new dk tr root o ep held now with next:=1#64,mn:=qY ep 0#64 }
def Db.d2 (dk tr:Nat) (root:Nat->Y) (o:Opts) (ep:BitVec 64) (held now:Nat):Db:={ Db.new dk tr root o ep held now with next:=2#64,mn:=qY ep 0#64,lg:=flL ep 0#64 }
def zI (dk tr:Nat) (root:Nat->Y) (o:Opts) (ep:BitVec 64) (held now:Nat):Db:={ Db.new dk tr root o ep held now with next:=2#64,mn:=qY ep 1#64,lg:=flL ep 0#64,s:=gO 1 2 }
theorem aCm:DkR [] 0:=⟨xq,xq,(fun f a=>absurd a qj),dc,(fun f a=>absurd a qj),dc⟩
theorem aOx:u64 1:=⟨dc,dc⟩
theorem aOy:u64 2:=⟨dc,dc⟩
theorem aKA:((jG 1 0).cells ⟨none,0⟩ ⟨none,0⟩).set 9 (.slice none 0 0)=(jG 1 0).cells ⟨none,0⟩ ⟨none,0⟩:=rfl
theorem aTt:((jG 1 0).cells ⟨none,0⟩ ⟨none,0⟩).set 1 (uv .u64 2#64)=(jG 1 2).cells ⟨none,0⟩ ⟨none,0⟩:=rfl
theorem bCw {c:ByteArray} {q:BitVec 64}:WayN [Nd.z] c q (fun _=>0):=by
 have f:∀ k,bR [Nd.z] 0 k=0:=fun _=>rfl;refine ⟨rfl,fun k _=>vv,fun k _=>.inl ⟨rfl,.inl rfl⟩,fun a e k _=>?_⟩;simp_all
def kJ (nm:ByteArray) (h:Sh) (n safe:Nat):List Fi->List Fi
 | []=>[]
 | g :: r=>if g.nm=nm then ⟨nm,h,n,safe,g.born⟩ :: r else g :: kJ nm h n safe r
theorem aLz {nm:ByteArray} {h:Sh} {n safe:Nat}:∀ {F:List Fi},(aM nm F).isSome=true->rF nm (.agg [h.val n,.int .i64 (safe:Int)].toArray) (F.map Fi.fe)=(kJ nm h n safe F).map Fi.fe
 | [],h=>by cases h
 | g :: r,hs=>by
  rw [List.map_cons,rF,kJ];rw [aM] at hs;by_cases q:g.nm=nm
  ·rw [if_pos q,if_pos (show g.fe.1=nm from q)]; rw [← q]; rfl
  ·rw [if_neg q] at hs; rw [if_neg q,if_neg (show ¬ g.fe.1=nm from q),aLz hs]; rfl
theorem aF8 {nm:ByteArray} {h:Sh} {n safe:Nat}:∀ {F:List Fi},(kJ nm h n safe F).map Fi.nm=F.map Fi.nm∧(kJ nm h n safe F).map Fi.born=F.map Fi.born∧aZ (kJ nm h n safe F)<=aZ F+n
 | []=>⟨rfl,rfl,Nat.zero_le _⟩
 | g :: r=>by
  rw [kJ];by_cases q:g.nm=nm
  ·rw [if_pos q];refine ⟨by simp_all,rfl,?_⟩;grind[aZ]
  rw [if_neg q];obtain ⟨h1,h2,h3⟩:=aF8 (nm:=nm) (h:=h) (n:=n) (safe:=safe) (F:=r);refine ⟨by rw [wr,wr,h1],by rw [wr,wr,h2],?_⟩;simp only [aZ]; omega
theorem aLo {c:Type} {f:α->c} {a b:List α} (h:a.map f=b.map f):a.length=b.length:=by
 have:=congrArg wm h; grind
theorem DkR.put {F:List Fi} {clk:Nat} {nm:ByteArray} {h:Sh} {n safe:Nat} (a:DkR F clk) (l:aZ F+n<=1000000000):DkR (kJ nm h n safe F) clk:=by
 obtain ⟨i,k,m⟩:=aF8 (nm:=nm) (h:=h) (n:=n) (safe:=safe) (F:=F);refine ⟨by rw [k]; exact a.nd,by rw [i]; exact a.un,fun f j=>?_,by rw [aLo i]; exact a.cnt,fun f j=>?_,om⟩
 ·have:f.nm∈F.map Fi.nm:=by grind
  obtain ⟨g,c,e⟩:=qi.1 this;rw [← e]; exact a.gn g c
 have:f.born∈F.map Fi.born:=by grind
 obtain ⟨g,c,e⟩:=qi.1 this;rw [← e]; exact a.old g c
structure Opn where
 kind:Y
 user:ByteArray
 value:ByteArray
def Opn.cells (o:Opn):List Value:=[V o.kind,.string o.user,.string o.value]
def Opn.val (o:Opn):Value:=.agg o.cells.toArray
theorem Opn.len (o:Opn):o.cells.length=3:=rfl
theorem Opn.one (o:Opn):∀ u∈o.cells,u.oneCell'=true:=by
 intro u a;simp only [Opn.cells,qg,qj,or_false] at a;rcases a with rfl|rfl|rfl<;>rfl
instance qo10 {o:Opn}:QOne o.cells:=⟨Opn.one o⟩
instance ql11 {o:Opn}:QLen o.cells 3:=⟨rfl⟩
theorem aMf (l:List Opn):∀ u∈l.flatMap Opn.cells,u.oneCell'=true:=fun u a=>by
 obtain ⟨x,_,h⟩:=xy.1 a; exact x.one u h
def oZ (q:BitVec 64) (o:Opn):Ent:=⟨o.user,q,o.kind,o.value⟩
def eY:Nat->List Opn->List Ent
 | _,[]=>[]
 | j,o :: r=>oZ (BitVec.ofNat 64 (j+1)) o :: eY (j+1) r
theorem uM:∀ {l:List Opn} {j:Nat},(eY j l).length=l.length
 | [],_=>rfl
 | o :: r,j=>by rw [eY,List.length_cons,List.length_cons,uM]
theorem aBe:∀ {l:List Opn} {j k:Nat} {o:Opn},l[k]? = some o->(eY j l)[k]? = some (oZ (BitVec.ofNat 64 (j+k+1)) o)
 | [],_,_,_,h=>by grind
 | x :: r,j,0,o,h=>by simp_all[eY]
 | x :: r,j,k+1,o,h=>by
  rw [List.getElem?_cons_succ] at h;rw [eY,List.getElem?_cons_succ,aBe h];grind
theorem aKN:∀ {l:List Opn} {j k:Nat} {o:Opn},l[k]? = some o->eY j (l.take k)++[oZ (BitVec.ofNat 64 (j+k+1)) o]=eY j (l.take (k+1))
 | [],_,_,_,h=>by grind
 | x :: r,j,0,o,h=>by simp_all[eY]
 | x :: r,j,k+1,o,h=>by
  rw [List.getElem?_cons_succ] at h;rw [List.take_succ_cons,List.take_succ_cons,eY,eY,List.cons_append];congr 1;have:=aKN (j:=j+1) h;grind
theorem aRz:BitVec.ofNat 64 (k+1)+1#64=BitVec.ofNat 64 (k+1+1):=by
 apply wl;simp
section
variable {dr:Bool} {mc:Md} {P:Program} {n:Fm} {l:List Oper} {K:aG→PM→aB→Prop} {i:Nat} {σ:List Nat} {ρ:aG} {G:PM} {μ:aB}
variable {d t:Nat} {p:String} {af:Array Edge} {g:Option (Nat×Bool)} {c:Bool}
theorem apB {b m:Nat} {x:Operand} {u:Value} {cs:List Value} (xs:List Y) {ys:List Y} {c:aB} (O:nth l i=some ⟨some d,.call { callee:=.builtin .append,args:=#[x,y],argTypes:=#[T,T] },t,p,af,none⟩) (hT:cI P T=some (E,1,1)) (H:(P.info? E).bind (·.zero)=some (.int .u8 0)) (J:Ev ρ true x (.slice (some ⟨b,0,none⟩) m m)) (Z:cs=xs.map V) (Q:xs.length=m) (I:Ev ρ true y u) (hm:MTake μ (.blk b (cl cs E)) c) (q:Sc G μ u ys) (hb:xs.length+ys.length<=140737488355328) (h:∀ e L,e.oneCell'=true->L=xs++ys->Wo dr mc P n l K σ ((d,true,e) :: ρ) G (rB e E L :: c)) (hmc:mc.a=false∨dr=false:=by first|exact .inl rfl|exact .inr rfl):Wo dr mc P n l K (i :: σ) ρ G μ:=by
 subst Q; subst Z;obtain ⟨oa,v,rfl,N⟩:=q.ex;refine .act (μ₁:=[.blk b (cl (xs.map V) E)]) (μ₂:=c) (post:=fun D c e=>D=G∧e.oneCell'=true∧c=[rB e E (xs++ys)]) O (by simp_all[bK]) .no hm.perm (fun a w C q=>.inl ?_) ?_
 ·have g:Tr G (keys [.blk b (cl (xs.map V) E)]) w G [rB (.slice (some ⟨b,0,none⟩) xs.length xs.length) E xs] w :=
   (gR q.left).asRow (sz:=1) (by simp) (qd _) (by grind[maxLen]) (by simp) (by simp[qz])
  obtain ⟨e,F,f,M⟩:=yZ (ty:=t) (cp:=v) (news:=ys.map V) (k:=ys.length) (oa:=oa) hT H rfl g.sat (by simp) (fun S=>by
   obtain ⟨b,o,r,h2⟩:=N S;exact ⟨b,o,r,fun j u X=>h2 j u X w (q.perm hm.perm.symm)⟩) (aEI _) om (by grind[maxLen])
  refine ⟨e,F,G,[rB e E (xs++ys)],.inl (by simp [execOp,resolve,invoke,builtin,J.eval C rfl,I.eval C rfl,f]),?_,rfl,M.sat.rowOne,rfl⟩;simp_all[rB,keys,Res.keys,Value.ownBlock]
 rintro e D A _ ⟨rfl,r,rfl⟩;exact h e _ r rfl
theorem apN {sz r cp:Nat} {x:Operand} {z:Value} {oa:Option Addr} {ys:List α} (S:nth l i=some ⟨some d,.call { callee:=.builtin .append,args:=#[x,y],argTypes:=#[T,T] },t,p,af,none⟩) (Z:cI P T=some (E,sz,r)) (N:(P.info? E).bind (·.zero)=some z) (C:z.cells.size=sz) (Q:Ev ρ true x (.slice none 0 0)) (O:Ev ρ true y (Sh.val ⟨oa,cp⟩ ys.length)) (J:SlR G sz enc ⟨oa,cp⟩ ys) (g:∀ u∈ys,(enc u).length=sz) (h1:∀ u∈ys.flatMap enc,u.oneCell'=true) (hb:ys.length*r<=140737488355328) (a0:ys.length<=maxLen) (h:∀ c,c.oneCell'=true->Wo dr mc P n l K σ ((d,true,c) :: ρ) G (.row c E sz ys.length (ys.flatMap enc) :: μ)) (hmc:mc.a=false∨dr=false:=by first|exact .inl rfl|exact .inr rfl):Wo dr mc P n l K (i :: σ) ρ G μ:=by
 refine .act (μ₁:=[]) (μ₂:=μ) (post:=fun G' A c=>G'=G∧c.oneCell'=true∧A=[.row c E sz ys.length (ys.flatMap enc)]) S (by simp_all[bK]) .no (.refl _) (fun a w L F=>.inl ?_) ?_
 ·have f:Sat G μ w:=by simp_all
  have q:Tr G (keys []) w G [.row (.slice none 0 0) E sz 0 []] w:=(gR (Sat.left (μ:=[]) F)).nilRow;obtain ⟨c,M,m,v⟩:=yZ (ty:=t) (cp:=cp) (news:=ys.flatMap enc) (k:=ys.length) (oa:=oa) Z N C q.sat (uO g) (fun hk=>by
   have H:ys≠[]:=fun e=>by simp_all
   refine ⟨_,_,J.there H,fun j u X=>?_⟩;exact (SlR.flat g J j u X).rd w f) h1 (by simp_all) om
  have I:keys [.row (.slice none 0 0) E sz 0 []]=keys []:=by rfl
  rw [I] at v;simp only [wb,qu] at v;have D:c.oneCell'=true:=v.sat.rowOne;exact ⟨c,M,G,_,.inl (by simp [execOp,resolve,invoke,builtin,Q.eval L rfl,O.eval L rfl,Sh.val,m]),v,rfl,D,rfl⟩
 simp_all[bT]
theorem k00 {e sz:Nat} {x z:Operand} (C:nth l i=some ⟨some d,.slice T x none (some y) (some z),t,p,af,none⟩) (E:cI P T=some (e,sz,j)) (r:Ev ρ true x (.slice none 0 0)) (q:Ev ρ true y (.int .i64 0)) (m:Ev ρ true z (.int .i64 0)) (h:Wo dr mc P n l K σ ((d,true,.slice none 0 0) :: ρ) G μ):Wo dr mc P n l K (i :: σ) ρ G μ:=by
 obtain ⟨c,k,f,A,D⟩:=gE E;refine .pure (v:=.slice none 0 0) C (.inl rfl) .no (fun F a w g=>?_) h;simp [execOp,r.eval g rfl,q.eval g rfl,m.eval g rfl,Instr.sliceAt,run_underlying c,Instr.slice,Instr.sliceBounds,Instr.sliceBound,asIntOf,sizeOf,typeInfo,f]
end
structure Wtg where
 c:Nat
 sh:Sh
 ops:List Opn
 sy:Bool
def Wtg.cells (w:Wtg):List Value:=[.int .i64 (w.c:Int),w.sh.val w.ops.length,.bool w.sy]
theorem Wtg.len (w:Wtg):w.cells.length=3:=rfl
theorem Wtg.one (w:Wtg):∀ u∈w.cells,u.oneCell'=true:=by
 intro u a;simp only [Wtg.cells,qg,qj,or_false] at a;rcases a with rfl|rfl|rfl<;>rfl
instance qo12 {w:Wtg}:QOne w.cells:=⟨Wtg.one w⟩
instance ql13 {w:Wtg}:QLen w.cells 3:=⟨rfl⟩
def AllW (G:PM) (ws:List Wtg):Prop:=∀ w,w∈ws->SlR G 3 Opn.cells w.sh w.ops
theorem AllW.mono {G c:PM} {ws:List Wtg} (h:AllW G ws) (a:PM.le G c):AllW c ws:=fun w e=>(h w e).mono a
theorem AllW.nil {G:PM}:AllW G []:=fun w a=>absurd a qj
theorem AllW.snoc {G:PM} {ws:List Wtg} {w:Wtg} (h:AllW G ws) (c:SlR G 3 Opn.cells w.sh w.ops):AllW G (ws++[w]):=fun x a=>by
 grind[AllW]
def xT (c:Nat):List Value:=[.int .i64 (c:Int),.int .i64 0]
def aDX (w:Wtg):List Value:=[w.sh.val w.ops.length]
def jn (ws:List Wtg):List Opn:=ws.flatMap Wtg.ops
theorem aGM {ws:List Wtg} {w:Wtg} (h:ws[k]? = some w):jn (ws.take k)++w.ops=jn (ws.take (k+1)):=by
 simp_all[wg,jn]
theorem aLG {ws:List Wtg} {o:Opn} (h:o∈jn ws):∃ w∈ws,o∈w.ops:=xy.1 h
def cX:List Opn->Nat
 | []=>0
 | o :: r=>o.user.size+o.value.size+cX r
theorem aHo:∀ {l:List Opn} {k:Nat} {o:Opn},l[k]? = some o->cX (l.take (k+1))=cX (l.take k)+(o.user.size+o.value.size)
 | [],_,_,h=>by grind
 | x :: r,0,o,h=>by simp_all[cX]
 | x :: r,k+1,o,h=>by
  rw [List.getElem?_cons_succ] at h;rw [List.take_succ_cons,List.take_succ_cons,cX,cX,aHo h]; omega
section
variable {P:Program} {f:FuncId} {args:Array Value} {G:PM} {μ:aB}
theorem aIG {sz:Nat} {xs:List α} {post:PM->aB->Value->Prop} (p:∀ x∈xs,(enc x).length=sz) (h:∀ (s:Sh) (G2:PM),PM.le G G2->v=s.val xs.length->SlR G2 sz enc s xs->Ct P f args G2 μ post):Ct P f args G (rS sz enc v E xs :: μ) post:=by
 intro w a;have k:w.ownsRow 0 E sz v xs.length (xs.flatMap enc):=a.own _ (ql ..);rcases k.2 with ⟨rfl,J⟩ | ⟨g,i,c,rfl,_,F,y,I,H,n⟩
 ·have D:xs=[]:=wo J;subst D;have m:keys (rS sz enc (.slice none 0 0) E [] :: μ)=keys μ:=by rfl
  have e:Sat G μ w:=⟨a.sub,fun r l=>a.own r (qo _ l),by rw [← m]; exact a.apart,by rw [← m]; exact a.nodup⟩;have:=h ⟨none,0⟩ G (PM.le.refl _) rfl dG w e;simp_all
 have m:keys (rS sz enc (.slice (some ⟨g,0,none⟩) xs.length i) E xs :: μ)=keys (.blk g (.cells c E (0,0)) :: μ):=by rfl
 have e:Sat G (.blk g (.cells c E (0,0)) :: μ) w:=by
  refine ⟨a.sub,fun r l=>?_,by rw [← m]; exact a.apart,by rw [← m]; exact a.nodup⟩;rcases qg.1 l with rfl | l
  ·exact F
  exact a.own r (qo _ l)
 have q:SlR (G.add g (.cells c E (0,0))) sz enc ⟨some ⟨g,0,none⟩,i⟩ xs:=by
  refine pP p y (fun _=>rfl) ?_;intro j u K C t;show C.cell? ⟨g,0+j,none⟩=some u;rw [wb,cell_of_row C g j c E (0,0) (t g _ (bP _ _ _))];grind
 have:=rZ (fun A=>h ⟨some ⟨g,0,none⟩,i⟩ _ A rfl q) w e;simp_all
theorem aLb {sz l:Nat} {z:Value} {xs:List α} {r:Value} (j:∀ x∈xs,(enc x).length=sz) (h:∀ (s:Sh) (c:PM),PM.le G c->v=s.val xs.length->SlR c sz enc s xs->PB c l (cl [z,v] T)->Ct P f args c μ (fun _ a u=>a=μ∧u=r)) :
  Ct P f args G (.blk l (cl [z,v] T) :: rS sz enc v E xs :: μ) (fun _ a u=>a=.blk l (cl [z,v] T) :: rS sz enc v E xs :: μ∧u=r) :=
 (kK (Q:=fun e u=>e=rS sz enc v E xs :: μ∧u=r) fun y g t=>(sC (Q:=fun e u=>e=μ∧u=r) j fun s c i m n=>h s c (g.trans i) m n (t.mono i)).mono
  fun w a u ⟨e,q,p,k⟩=>⟨by simp_all,k⟩).mono fun w a u ⟨e,q,p,k⟩=>⟨by simp_all,k⟩
end
section
variable {dr:Bool} {mc:Md} {P:Program} {n:Fm} {l:List Oper} {K:aG→PM→aB→Prop} {i:Nat} {σ:List Nat} {ρ:aG} {G:PM} {μ:aB}
variable {d t:Nat} {p:String} {af:Array Edge}
theorem apE {sz C:Nat} {x:Operand} {z:Value} {X:Addr} {s:Sh} {ys:List α} (ho:nth l i=some ⟨some d,.call { callee:=.builtin .append,args:=#[x,y],argTypes:=#[T,T] },t,p,af,none⟩) (hT:cI P T=some (E,sz,C)) (hz:(P.info? E).bind (·.zero)=some z) (F:z.cells.size=sz) (hx:Ev ρ true x (.slice (some X) 0 0)) (hy:Ev ρ true y (s.val ys.length)) (N:SlR G sz enc s ys) (h0:0<ys.length) (A:∀ u∈ys,(enc u).length=sz) (S:∀ u∈ys.flatMap enc,u.oneCell'=true) (hb:ys.length*C<=140737488355328) (L:ys.length<=maxLen) (h:∀ c,c.oneCell'=true->Wo dr mc P n l K σ ((d,true,c) :: ρ) G (rS sz enc c E ys :: μ)) (hmc:mc.a=false∨dr=false:=by first|exact .inl rfl|exact .inr rfl):Wo dr mc P n l K (i :: σ) ρ G μ:=by
 refine .act (μ₁:=[]) (μ₂:=μ) (post:=fun Z D c=>Z=G∧c.oneCell'=true∧D=[rS sz enc c E ys]) ho (by simp_all[bK]) .no (.refl _) (fun a w Q H=>.inl ?_) ?_
 ·have r:Sat G μ w:=by simp_all
  obtain ⟨hu,f,O,rfl,rfl⟩:=gE hT;have g:=hz;rw [O] at g;simp only [qw] at g;have I:=N.nn h0;have q:=uO A;have k:∀ j u,(ys.flatMap enc)[j]? = some u->w.cell? ((⟨s.b,s.o,none⟩ : Addr).add j)=some u:=fun j u hj=>by rw [kG]; exact (SlR.flat A N j u hj) w r.sub
  unfold maxLen at L;have e:=run_append_grow (P:=P) w T t E f _ hu O g X 0 0 [] (by simp) (fun j v h=>by grind) ⟨s.b,s.o,none⟩ ys.length s.cap (ys.flatMap enc) q k om om (growslice_fits om (by simp_all));simp only [wb] at e;have h2:=((gR (Sat.left (μ:=[]) H)).drew).alloc (.cells (([]:List Value).toArray++(ys.flatMap enc).toArray++Builtin.zeroCells z.cells (grownCap w ys.length 0 E-ys.length)) E);have J:=grownCap_ge w ys.length 0 E;have h3:=h2.asRow (m:=ys.length) (cap:=grownCap w ys.length 0 E) (sz:=f.size) (xs:=ys.flatMap enc) q J (grownCap_le_maxLen w ys.length 0 E (by trivial)) (by
   simp only [Array.size_append,List.size_toArray,size_zeroCells,q,qc,F];have:=Nat.add_mul ys.length (grownCap w ys.length 0 E-ys.length) f.size;simp_all) (by simp_all)
  refine ⟨_,_,G,_,.inl (by simp [execOp,resolve,invoke,builtin,hx.eval Q rfl,hy.eval Q rfl,Sh.val,I,e]; rfl),h3,rfl,rfl,?_⟩;rfl
 rintro c Z M _ ⟨rfl,S,rfl⟩;exact h c S
end
theorem aZ5 {P:Program} {T:TypeId} (a:rP P T=true) (w:World):(Op.equal T (.pointer none) (.pointer none)).run P w=.ok true w:=by
 unfold rP at a;split at a
 ·rename_i e c;unfold Op.equal;rw [show Op.maxDepth=9999+1 from rfl,Op.equalIn];simp [run_underlying c]
 ·cases a
section
variable {dr:Bool} {mc:Md} {P:Program} {n:Fm} {l:List Oper} {K:aG→PM→aB→Prop} {i:Nat} {σ:List Nat} {ρ:aG} {G:PM} {μ:aB}
variable {d t:Nat} {p:String} {af:Array Edge} {g:Option (Nat×Bool)} {c:Bool}
theorem pn0 {T A:TypeId} {x:Operand} (m:nth l i=some ⟨some d,.binOp .neq T x y A,t,p,af,g⟩) (r:Gd l ρ g c) (v:rP P T=true) (j:Ev ρ c x (.pointer none)) (f:Ev ρ c y (.pointer none)) (h:Wo dr mc P n l K σ ((d,c,.bool false) :: ρ) G μ):Wo dr mc P n l K (i :: σ) ρ G μ :=
 .pure m (.inl rfl) r (fun a q w e=>by
  have k:(eqGuard .neq T x y (.pointer none) (.pointer none)).run P w=.ok () w:=by rfl
  simp [execOp,j.eval e a,f.eval e a,k,binOp,aZ5 v]) h
end
theorem aHv {xs:List α} {x:α} (h:xs[k]? = some x):xs.take k++[x]=xs.take (k+1):=by
 simp_all[wg]
section
variable {dr:Bool} {mc:Md} {P:Program} {n:Fm} {l:List Oper} {K:aG→PM→aB→Prop} {i:Nat} {σ:List Nat} {ρ:aG} {G:PM} {μ:aB}
variable {d t:Nat} {p:String} {af:Array Edge} {g:Option (Nat×Bool)} {c:Bool}
theorem kMa {e sz:Nat} {x z:Operand} {s:Sh} {xs:List α} (E:nth l i=some ⟨some d,.slice T x none (some y) (some z),t,p,af,none⟩) (F:cI P T=some (e,sz,q)) (f:SlR G sz enc s xs) (C:Ev ρ true x (s.val xs.length)) (A:Ev ρ true y (.int .i64 xs.length)) (v:Ev ρ true z (.int .i64 xs.length)) (h:SlR G sz enc ⟨s.oa,xs.length⟩ xs->Wo dr mc P n l K σ ((d,true,(⟨s.oa,xs.length⟩ : Sh).val xs.length) :: ρ) G μ):Wo dr mc P n l K (i :: σ) ρ G μ:=by
 have H:=h ⟨f.there,qd _,f.rd⟩;refine .pure E (.inl rfl) .no (fun k a w m=>?_) H;obtain ⟨D,r,j,rfl,rfl⟩:=gE F;have c:=C.eval m k;simp only [Sh.val] at c;have I:=f.le;have g:∀ oa:Option Addr,oa.map (fun a=>a.add 0)=oa:=fun oa=>by simp[aBK]
 simp [execOp,c,A.eval m k,v.eval m k,Instr.sliceAt,run_underlying D,Instr.slice,Instr.sliceBounds,Instr.sliceBound,asIntOf,I,sizeOf,typeInfo,j,Sh.val,g]
theorem apM {x:Operand} {oa:Option Addr} {k:Sh} {xs ys:List Y} (f:mc.a=false∨dr=false) (w:nth l i=some ⟨some d,.call { callee:=.builtin .append,args:=#[x,y],argTypes:=#[T,T] },t,p,af,none⟩) (A:cI P T=some (E,1,1)) (m:(P.info? E).bind (·.zero)=some (.int .u8 0)) (r:Ev ρ true x ((⟨oa,xs.length⟩ : Sh).val xs.length)) (q:Ev ρ true y (k.val ys.length)) (c:SlR G 1 aK ⟨oa,xs.length⟩ xs) (v:SlR G 1 aK k ys) (F:0<ys.length) (M:xs.length+ys.length<=140737488355328) (h:∀ g L,g.oneCell'=true->L=xs++ys->Wo dr mc P n l K σ ((d,true,g) :: ρ) G (rB g E L :: μ)):Wo dr mc P n l K (i :: σ) ρ G μ:=by
 by_cases D:xs=[]
 ·subst D;have J:ys.length<=140737488355328:=by omega
  have H:ys.flatMap aK=ys.map V:=uN _;cases oa with
  | none =>
   cases k with
   | mk o2 c2 =>
    refine apN (enc:=aK) w A m rfl r q v (fun _ _=>rfl) (fun u j=>?_) om (by grind[maxLen]) (fun g I=>?_) (hmc:=f)
    ·rw [H] at j; obtain ⟨y,_,rfl⟩:=qi.1 j; rfl
    simp_all
  | some a =>
   refine apE (enc:=aK) w A m rfl r q v F (fun _ _=>rfl) (fun u j=>?_) om (by grind[maxLen]) (fun g I=>?_) (hmc:=f)
   ·rw [H] at j; obtain ⟨y,_,rfl⟩:=qi.1 j; rfl
   grind
 obtain ⟨b0,C,e⟩ : ∃ b0 C,oa=some ⟨b0,C,none⟩:=⟨_,_,c.there D⟩;subst e;exact apF f w A m r q c rfl v.sc F (by simp_all) M h
end
def jS (nm:ByteArray) (h:Sh) (n safe clk:Nat) (F:List Fi):List Fi:=if (aM nm F).isSome=true then kJ nm h n safe F else F++[⟨nm,h,n,0,clk⟩]
def sN (nm:ByteArray) (clk:Nat) (F:List Fi):Nat:=if (aM nm F).isSome=true then clk else clk+1
def lN (n:Nat) (acc:List Y):List Y:=if 0<n∨acc.length<6 then lN (n / 10) (qb 8 (48+n%10) :: acc) else acc
termination_by n+(6-acc.length)
decreasing_by
 grind
def fV (n:Nat):List Y:=lN n []
theorem xS {n:Nat} {a:List Y} (h:0<n∨a.length<6):lN n a=lN (n / 10) (BitVec.ofNat 8 (48+n%10) :: a):=by rw [lN,if_pos h]
theorem xR {n:Nat} {a:List Y} (h:n=0) (h2:6<=a.length):lN n a=a:=by rw [lN,if_neg om]
def tU (l:List Y):Nat:=l.foldl (fun a y=>10*a+(y.toNat-48)) 0
theorem bCs {l:List Y}:∀ {a:Nat},l.foldl (fun a y=>10*a+(y.toNat-48)) a=a*10^l.length+tU l:=by
 unfold tU;induction l with
 | nil=>simp
 | cons y r ih =>
  grind
theorem bCr {y:Y} {l:List Y}:tU (y :: l)=(y.toNat-48)*10^l.length+tU l:=by
 have:tU (y :: l)=l.foldl (fun a y=>10*a+(y.toNat-48)) (10*0+(y.toNat-48)):=rfl;simp_all[bCs]
theorem aTT (m:Nat):∀ {n:Nat} {a:List Y},n+(6-a.length)<=m->tU (lN n a)=n*10^a.length+tU a:=by
 induction m with
 | zero =>
  intro n a h;rw [xR om om,show n=0 by omega,ve,wb]
 | succ m ih =>
  intro n a h;by_cases c:0<n∨a.length<6
  ·have f:n / 10+(6-(qb 8 (48+n%10) :: a).length)<=m:=by
    grind
   rw [xS c,ih f,bCr,wj,Nat.pow_succ];have e:(qb 8 (48+n%10)).toNat-48=n%10:=by
    grind
   rw [e,←yi];congr 1;generalize 10^a.length=p;rw [Nat.mul_comm p 10,←Nat.mul_assoc,←Nat.add_mul];grind
  simp_all
theorem aTV (n:Nat):tU (fV n)=n:=by
 rw [fV,aTT _ (qd _)]; simp [tU]
theorem aTR (m:Nat):∀ {n:Nat} {a:List Y},n+(6-a.length)<=m->∀ q,n<10^q->a.length+q<=20->6<=(lN n a).length∧(lN n a).length<=20:=by
 induction m with
 | zero =>
  grind[xR]
 | succ m ih =>
  intro n a h q f g;by_cases c:0<n∨a.length<6
  ·have e:n / 10+(6-(qb 8 (48+n%10) :: a).length)<=m:=by
    grind
   rw [xS c];cases q with
   | zero =>
    have i:n=0:=by omega
    exact ih e 0 om (by grind)
   | succ q=>grind
  grind
theorem aFf {n:Nat} (h:n<18446744073709551616):6<=(fV n).length∧(fV n).length<=20:=aTR _ (qd _) 20 (yt h dc) (by simp)
def nG (k n:Nat):ByteArray:=if k=1 then aV (yb (aV (fV n))++yb ⟨#[46,108,111,103]⟩) else if k=2 then aV (yb (aV (fV n))++yb ⟨#[46,116,97,98]⟩) else if k=3 then aV (yb ⟨#[109,97,110,105,102,101,115,116,45]⟩++yb (aV (fV n))) else if k=4 then aME else if k=5 then aMI else ⟨#[]⟩
theorem nG1 {n:Nat} (h:k=1):aV (yb (aV (fV n))++yb ⟨#[46,108,111,103]⟩)=nG k n:=by subst h; rfl
theorem nG2 {n:Nat} (h:k=2):aV (yb (aV (fV n))++yb ⟨#[46,116,97,98]⟩)=nG k n:=by subst h; rfl
theorem nG3 {n:Nat} (h:k=3):aV (yb ⟨#[109,97,110,105,102,101,115,116,45]⟩++yb (aV (fV n)))=nG k n:=by subst h; rfl
theorem nG4 {n:Nat} (h:k=4):(⟨#[99,117,114,114,101,110,116]⟩ : ByteArray)=nG k n:=by subst h; rfl
theorem nG5 {n:Nat} (h:k=5):(⟨#[99,117,114,114,101,110,116,46,116,109,112]⟩ : ByteArray)=nG k n:=by subst h; rfl
theorem nG0 {n:Nat} (h1:k≠1) (h2:k≠2) (h3:k≠3) (c:k≠4) (a:k≠5):(⟨#[]⟩ : ByteArray)=nG k n:=by
 simp_all[nG]
theorem aTU {n:Nat} (h:n<10):fV n=rU n:=by
 simp_all[Nat.div_eq_of_lt,fV,xS,yp,xR,rU]
theorem aL6 {n:Nat} (h:n<10):cW k n=nG k n:=by simp_all[cW,nG,aMF,aMH,aMG,aTU]
theorem aJ2 {a b:Nat} (h:fV a=fV b):a=b:=by have:=congrArg tU h; grind[aTV]
theorem aXK {a b:Nat} (h:nG 1 a=nG 1 b):a=b:=aJ2 (by have:=qaE (xP h); simp_all[iI])
theorem yP {a b:Nat} (h:nG 2 a=nG 2 b):a=b:=aJ2 (by have:=qaE (xP h); simp_all[iI])
theorem aTQ (m:Nat):∀ {n:Nat} {a:List Y},n+(6-a.length)<=m->a.length<=(lN n a).length:=by
 induction m with
 | zero=>intro n a h; rw [xR om om]; omega
 | succ m ih =>
  intro n a h;by_cases c:0<n∨a.length<6
  ·grind[xS]
  simp_all
theorem aTL {m n:BitVec 64} {b:List Y} (h:lN m.toNat b=fV n.toNat):b.length<=20:=by
 have a:=aTQ _ (qd (m.toNat+(6-b.length)));rw [h] at a;have:=(aFf n.isLt).2; omega
theorem aTM {m:BitVec 64} {b L R:List Y} (c:lN m.toNat b=R) (a:0<m.toNat∨b.length<6) (e:L=[(48#64+m%10#64).setWidth 8]++b):lN (m / 10#64).toNat L=R:=by
 have h:(m%10#64).toNat=m.toNat%10:=vh ..;have g:(m / 10#64).toNat=m.toNat / 10:=qaF ..;have f:(48#64+m%10#64).setWidth 8=qb 8 (48+m.toNat%10):=by
  grind[kb]
 simp_all[xS]
theorem aTK {m:BitVec 64} {b:List Y} (a:0<m.toNat∨b.length<6):(m / 10#64).toNat+(6-(b.length+1))<m.toNat+(6-b.length):=by
 grind[qaF]
theorem aWh {nm:ByteArray} {F:List Fi} {f:Fi} (h:aM nm F=some f):(hZ nm (F.map Fi.fe)).isSome=true:=by simp[*,aAV]
theorem aXQ {G:PM} {h:Sh} {xs:List Y} (a:SlR G 1 aK h xs) (c:h.oa.isNone=true):xs=[]:=by
 cases xs with
 | nil=>rfl
 | cons x r =>
  have:=a.there (by simp);simp_all
theorem aXw {x:Int} (a:0<=x) (h1:x<18446744073709551616):(BitVec.ofInt 64 x).toNat=x.toNat:=by
 grind
theorem aPh {P:Program} {G:PM} {f:FuncId} {args:Array Value} {μ0 ν:aB} {Q:PM->aB->Value->Prop} {xs:List Y} (h:Ct P f args G μ0 Q) (k:∀ c a u,Q c a u->a.Perm (rB u E xs :: ν)) :
  Ct P f args G μ0 (fun c a u=>∃ s:Sh,SlR c 1 aK s xs∧a=ν∧u=s.val xs.length):=by
 intro w i;refine (h w i).mono ?_;rintro e l ⟨v,c,a,rfl,g,j⟩;obtain ⟨r,s,q,p,n,m⟩:=(g.perm (k _ _ _ j)).frzB;grind
def iT (d:Db):Edit:=⟨d.s.log,(d.next.toNat:Int),d.s.seq,d.s.least,d.s.gens,[],[]⟩
theorem Db.lv_at (d:Db) {o:Nat} (h:k<5) (a:o=42+k):d.cells[o]? = some ((d.hd k).val (d.s.lv k).length):=by
 subst a;match k,h with
 | 0,_=>rfl
 | 1,_=>rfl
 | 2,_=>rfl
 | 3,_=>rfl
 | 4,_=>rfl
def iM (s:ByteArray):List Value:=[.string s]
theorem SlR.t1 {G:PM} {h:Sh} {xs:List ByteArray} (s:SlR G 1 iM h xs) {j:Int} (k:Nat) {x:ByteArray} (c:j.toNat=k) (a:xs[k]? = some x):RdP G ⟨h.b,h.o+j.toNat*1,none⟩ (.string x):=by
 have:=s.rd k x a 0 _ rfl;simp_all
theorem hpb (bits:Int):((fY bits:Nat):Int)=if (if (64:Int)<bits then 64 else bits) > 1 then (if (64:Int)<bits then 64 else bits) else 1:=by grind[fY]
theorem aUw (bits:Int):((rO bits:Nat):Int)=max 1 (min ((fY bits*69 / 100:Nat):Int) 30):=by grind[rO]
section
variable {s:ByteArray} {n k:Nat} {L L' f:List Y}
theorem bAx (c:0<n) (a:n<500000000):(wU s n k >>> 3).toNat<n:=by rw [aNs]; simp_all[aYc]
theorem bAy (c:0<n) (a:n<500000000):BitVec.ofInt 32 ((8*n:Nat):Int)≠0#32:=by
 intro e;have:=congrArg BitVec.toNat e;rw [kg,jz,yp om] at this;grind
theorem bAz {m:Nat} (hm:m=L.length) (e:L'=(rR s L k).set (wU s m k >>> 3).toNat ((rR s L k).getD (wU s m k >>> 3).toNat 0 ||| 1#8 <<< (wU s m k &&& 7#32).toNat)):L'=rR s L (k+1):=by
 subst hm;rw [e,aNs,aQ9]; rfl
end
theorem aEF (h:k<18446744073709551616):(BitVec.ofInt 64 (k:Int)).toNat=k:=by simp_all
section
variable {a b:ByteArray} {k:Nat}
theorem aQy (e:k<a.size∧k<b.size) (f:∀ j,j<k->(yb a).getD j 0=(yb b).getD j 0) (c:¬ (((yb a).getD k 0).toNat:Int)=(((yb b).getD k 0).toNat:Int)):eV [.int .i64 (k:Int)]=.int .i64 (gF (yb a) (yb b):Int):=by rw [aFJ e f c]; rfl
theorem aQx (c:k<=a.size∧k<=b.size) (hm:min a.size b.size<=k) (e:∀ j,j<k->(yb a).getD j 0=(yb b).getD j 0):gF (yb a) (yb b)=min a.size b.size:=by
 grind[aDH,bZ]
end
theorem yQ {L A:List Y} {n:BitVec 64} (e:L=A++bV n.toNat):L.length<=A.length+10:=by
 have:=iR n.isLt;simp_all
theorem nm0 {L:List Y} {n:BitVec 64} (e:L=[]++bV n.toNat):L.length<=10:=by have:=yQ e; omega
theorem aX0 {a b c d:Value} (h1:a.oneCell'=true) (h2:b.oneCell'=true) (h3:c.oneCell'=true) (e:d.oneCell'=true):∀ u∈[a,b,c,d],u.oneCell'=true:=by
 simp_all
theorem aLQ (e:Ent):(aV (dM e)).size=e.user.size+8:=by rw [fS,aAR]
section
variable {last:List Y} {e:Ent} {O L1 L2 L3 L4 L5 L6:List Y} {s:ByteArray}
theorem zO {anew:Bool} (c:e.user.size<=10000000) (a:e.value.size<=10000000) (f:k=lK last (dM e) anew) (h1:L1=[]++bV (BitVec.ofInt 64 (k:Int)).toNat) (h2:L2=L1++bV (BitVec.ofInt 64 (((aV (dM e)).size:Int)-(k:Int))).toNat) (h3:L3=L2++bV (BitVec.ofInt 64 (e.value.size:Int)).toNat) (i:L4=O++L3) (h:L5=L4++yb (aV ((yb (aV (dM e))).drop k))) (g:L6=L5++yb e.value):L6=O++qX last anew e:=by
 grind[aFW,aAR,aLQ,iI,qX]
theorem aFY {last a:List Y}:lK last a true=0:=rfl
theorem aFZ {last a:List Y}:lK last a false=gF last a:=rfl
end
section
variable {l:List Ent} {every:Int} {k:Nat}
theorem aBQ:(decide (every<1)||decide (every > 1024) || !cR l||l.any (fun e => !cM e))=true↔(every<1∨1024<every∨cR l=false∨∃ e∈l,cM e=false):=by
 grind
theorem aRu (h:(decide (every<1)||decide (every > 1024) || !cR l||l.any (fun e => !cM e))=true):([],1)=iF l every:=(aRx (aBQ.1 h)).symm
theorem aFM (h:(decide (every<1)||decide (every > 1024) || !cR l||l.any (fun e => !cM e))=false):(1<=every∧every<=1024)∧∀ e∈l,e.user.size<=1024∧e.value.size<=65536:=by
 have a:¬ _:=fun q=>by rw [aBQ.2 q] at h; cases h
 refine ⟨⟨by apply zz.1; exact fun q=>a (.inl q),by apply zz.1; exact fun q=>a (.inr (.inl q))⟩,fun e f=>?_⟩;have c:cM e=true:=by
  cases q:cM e with
  | true=>rfl
  | false=>exact absurd (.inr (.inr (.inr ⟨e,f,q⟩))) a
 simp only [cM,dP] at c;omega
theorem aRv (h:(decide (every<1)||decide (every > 1024) || !cR l||l.any (fun e => !cM e))=false) (a:k<l.length) (h1:1048576<(gD every.toNat l (k+1)).length):([],4)=iF l every :=
 (aJU (fun q=>by grind[aBQ]) (.inl ⟨k,a,h1⟩)).symm
theorem aFK (h:(decide (every<1)||decide (every > 1024) || !cR l||l.any (fun e => !cM e))=false) (h1:1048576<(gY every.toNat l).length):([],4)=iF l every :=
 (aJU (fun q=>by grind[aBQ]) (.inr h1)).symm
theorem aFL (h:(decide (every<1)||decide (every > 1024) || !cR l||l.any (fun e => !cM e))=false) (h1:∀ j,j<l.length->(gD every.toNat l (j+1)).length<=1048576) (h2:(gY every.toNat l).length<=1048576):(gY every.toNat l,0)=iF l every :=
 (aFN (fun q=>by grind[aBQ]) (fun q=>by
  rcases q with ⟨j,a,q⟩ | q
  ·grind
  ·omega)).symm
theorem aRw {n:Nat} (h:∀ j,j<k->(gD n l (j+1)).length<=1048576) (c:(gD n l (k+1)).length<=1048576):∀ j,j<k+1->(gD n l (j+1)).length<=1048576:=fun j a=>by
 grind
theorem aYD {n:Nat} (a:n<18446744073709551616) (c:l.length<18446744073709551616) (h:∀ j,j<k->(gD n l (j+1)).length<=1048576):(gD n l k).length<=1048576:=by
 cases k with
 | zero =>
  grind[iR,gD]
 | succ k=>simp_all
theorem aWK (h:∀ e∈l,e.user.size<=1024∧e.value.size<=65536) (k:Nat):(aV (rA l k)).size<=1032:=by
 cases k with
 | zero=>rw [fS]; exact qr _
 | succ k =>
  rw [fS,rA,aAR];by_cases a:k<l.length
  ·simp_all
  simp_all[Ent.zero]
theorem aC7:ByteArray.empty=aV []:=aFI rfl
theorem aRm {n:Nat} {x y:Int} (h1:x=n) (h2:y=l.length) (b1:n<18446744073709551616) (b2:l.length<18446744073709551616) : []++bV (BitVec.ofInt 64 x).toNat++bV (BitVec.ofInt 64 y).toNat=gD n l 0:=by
 subst h1; subst h2;rw [aEF b1,aEF b2]; rfl
theorem aWL {e:Ent} (a:l[k]? = some e):rA l (k+1)=dM e:=by simp_all[rA]
theorem aFG {n:Nat} {e:Ent} {L:List Y} {last:ByteArray} {anew:Bool} (a:l[k]? = some e) (c:last=aV (rA l k)) (f:anew=(((k%n:Nat):Int) == 0)) (g:L=gD n l k++qX (yb last) anew e):L=gD n l (k+1):=by
 have:(((k%n:Nat):Int) == 0)=(k%n == 0):=by
  grind
 simp_all[iI,gD]
theorem aYd {n:Nat} {anew:Bool} {P a O:List Y} (c:anew=(((k%n:Nat):Int) == 0)) (g:O=gD n l k) (f:P=pF n l k) (e:a=if anew=true then P++cY (BitVec.ofInt 64 (O.length:Int)) 4 else P):a=pF n l (k+1):=by
 rw [e,pF,f,g,c];grind
theorem aZt {n a:Nat} {anew:Bool} (e:anew=(((k%n:Nat):Int) == 0)) (c:a=nJ n k):(if anew=true then a+1 else a)=nJ n (k+1):=by
 rw [c,nJ,e];grind
theorem zW {n a:Nat} {O P f e c:List Y} (i:O=gD n l l.length) (h:P=pF n l l.length) (g:a=nJ n l.length) (h1:f=O++P) (h2:e=[]++cY (BitVec.ofInt 64 (a:Int)) 4) (h3:c=f++e):c=gY n l:=by
 rw [h3,h2,h1,i,h,g]; rfl
end
section
variable {s:ByteArray} {L:List Y}
theorem bCH (h:(s.size:Int)-8<0):iV (yb s)=(Ent.zero,80):=by unfold iV; rw [if_pos (by grind[bZ])]
theorem aOp (e:L=yb (aV ((yb s).drop (s.size-8)))):(⟨aV ((yb s).take (s.size-8)),eC L 8 >>> 8,(eC L 8).setWidth 8,ByteArray.empty⟩ : Ent)=uL (yb s):=by
 simp_all[uL,aBy,iI,bZ]
theorem bCD (h:¬ (s.size:Int)-8<0) (c:cM (uL (yb s))=false):iV (yb s)=(Ent.zero,80):=by simp_all[iV]
theorem bCE (h:0<=(s.size:Int)-8) (c:cM ⟨aV ((yb s).take (s.size-8)),eC (yb (aV ((yb s).drop (s.size-8)))) 8 >>> 8,(eC (yb (aV ((yb s).drop (s.size-8)))) 8).setWidth 8,ByteArray.empty⟩=false):iV (yb s)=(Ent.zero,80):=by
 simp_all[aOp,bCD]
theorem bCF (h:¬ (s.size:Int)-8<0) (c:cM (uL (yb s))=true):iV (yb s)=(uL (yb s),0):=by unfold iV; rw [if_neg (by grind[bZ]),c]; rfl
theorem bCG (h:0<=(s.size:Int)-8) (c:cM ⟨aV ((yb s).take (s.size-8)),eC (yb (aV ((yb s).drop (s.size-8)))) 8 >>> 8,(eC (yb (aV ((yb s).drop (s.size-8)))) 8).setWidth 8,ByteArray.empty⟩=true):iV (yb s)=(⟨aV ((yb s).take (s.size-8)),eC (yb (aV ((yb s).drop (s.size-8)))) 8 >>> 8,(eC (yb (aV ((yb s).drop (s.size-8)))) 8).setWidth 8,ByteArray.empty⟩,0):=by
 simp_all[aOp,bCF]
end
section
variable {xs L:List Y} {k n:Nat} {y:Y} {e:Int}
theorem bCY (a:k<xs.length) (h:lF ⟨xs.drop k,0⟩=(y,⟨L,e⟩)):y=xs.getD k 0∧L=xs.drop (k+1)∧e=0:=by
 unfold lF at h;rw [if_neg (by simp),if_neg (by grind)] at h;simp_all
theorem bCX (y:Y):(y.setWidth 64).setWidth 8=y:=by
 simp
def vC (xs:List Y) (n k:Nat):List Y:=xs.take k++List.replicate (n-k) 0#8
theorem bCa (f:k<n) (c:n<=xs.length):(vC xs n k).set k (xs.getD k 0)=vC xs n (k+1):=by
 unfold vC;have a:(xs.take k).length=k:=by grind
 rw [ke _ _ om,a,jp];obtain ⟨m,e⟩ : ∃ m,n-k=m+1:=⟨n-k-1,om⟩;grind[wg]
theorem bCZ {z:Y} (e:k<n) (c:n<=xs.length) (f:j=k) (a:z=xs.getD k 0):(vC xs n k).set j z=vC xs n (k+1):=by grind[bCa]
theorem bCW:vC xs n n=xs.take n:=by simp[vC]
theorem bCb:vC xs n 0=List.replicate n 0#8:=by rfl
end
theorem aPr (e:Ent) (v:ByteArray):e.cells.set 3 (.string v)=({ e with value:=v }:Ent).cells:=rfl
def oQ (last xs:List Y):Option (Ent×List Y×List Y):=xV last (fun e key r=>some (e,key,r)) xs
theorem aYL {a:Type} {k:Nat->List Y->Option α} {c:Nat->List Y->Option a} {f:a->Option α} (h:∀ n r,k n r=(c n r).bind f) (xs:List Y):fD k xs=(fD c xs).bind f:=by
 grind[fD]
theorem aKL (last:List Y) (k:Ent->List Y->List Y->Option α) (xs:List Y):xV last k xs=(oQ last xs).bind fun p=>k p.1 p.2.1 p.2.2:=by
 unfold oQ xV;grind[aYL]
section
variable {last:ByteArray} {xs L1 L2 L3:List Y} {n1 n2 n3:Nat} {e1 e2 e3:Int}
theorem aHw (h1:gN ⟨xs,0⟩=(n1,⟨L1,e1⟩)) (h2:gN ⟨L1,e1⟩=(n2,⟨L2,e2⟩)) (h3:gN ⟨L2,e2⟩=(n3,⟨L3,e3⟩)) :
  oQ (yb last) xs=if e3=0∧n1<=last.size∧n2<=L3.length∧n3<=L3.length-n2 then
   (if (iV ((yb last).take n1++L3.take n2)).2=0 then some ({ (iV ((yb last).take n1++L3.take n2)).1 with value:=aV ((L3.drop n2).take n3) },(yb last).take n1++L3.take n2,(L3.drop n2).drop n3) else none) else none:=by
 have h:=((aIh (b:=xs) (k:=fD fun a=>fD fun rest=>fD fun v r =>
  if a<=(yb last).length∧rest<=r.length∧v<=r.length-rest then
   (if (iV ((yb last).take a++r.take rest)).2=0 then some ({ (iV ((yb last).take a++r.take rest)).1 with value:=aV ((r.drop rest).take v) },(yb last).take a++r.take rest,(r.drop rest).drop v) else none)
  else none)).numE h1).numE h2 |>.numE h3
 rcases h with ⟨q1,_,c⟩ | ⟨q1,q2⟩
 ·simp only at q1;refine (show oQ (yb last) xs=_ from c).trans ?_;simp[bZ,q1]
 refine (show oQ (yb last) xs=none from q1).trans ?_;simp_all
end
section
variable {xs L1 L2 rest:List Y} {n1 n2:Nat} {e1 e2:Int} {l acc:List Ent}
theorem aEQ (h1:gN ⟨xs,0⟩=(n1,⟨L1,e1⟩)) (h2:gN ⟨L1,e1⟩=(n2,⟨L2,e2⟩)):oM xs=if e2=0∧n1<=1024 then (match (jR n2 [] [] L2).bind fun l=>if iF l n1=(xs,0) then some l else none with
  | some l=>((l,0):List Ent×Int)
  | none=>([],100)) else ([],100):=by
 have h:=(aIh (b:=xs) (k:=fD fun a=>fD fun n r=>if a<=1024 then (jR n [] [] r).bind fun l=>if iF l a=(xs,0) then some l else none else none)).numE h1 |>.numE h2
 unfold oM;rcases h with ⟨q1,_,c⟩ | ⟨q1,q2⟩
 ·grind
 simp_all
theorem aY5 (h1:gN ⟨xs,0⟩=(n1,⟨L1,e1⟩)) (h2:gN ⟨L1,e1⟩=(n2,⟨L2,e2⟩)) (c:¬ e2=0∨1024<(n1:Int)):([],100)=oM xs:=by
 rw [aEQ h1 h2,if_neg]; omega
theorem aY6 (h1:gN ⟨xs,0⟩=(n1,⟨L1,e1⟩)) (h2:gN ⟨L1,e1⟩=(n2,⟨L2,e2⟩)) (c:e2=0∧(n1:Int)<=1024) (h:jR n2 [] [] L2=none):([],100)=oM xs:=by
 rw [aEQ h1 h2,if_pos ⟨c.1,om⟩,h]; rfl
theorem aY3 (h1:gN ⟨xs,0⟩=(n1,⟨L1,e1⟩)) (h2:gN ⟨L1,e1⟩=(n2,⟨L2,e2⟩)) (c:e2=0∧(n1:Int)<=1024) (h:jR n2 [] [] L2=some l) {L:List Y} {a:Int} (e:(L,a)=iF l n1) (f:¬ a=0∨¬ L=xs):([],100)=oM xs:=by
 rw [aEQ h1 h2,if_pos ⟨c.1,om⟩,h,qw,←e,if_neg];grind
theorem aY4 (h1:gN ⟨xs,0⟩=(n1,⟨L1,e1⟩)) (h2:gN ⟨L1,e1⟩=(n2,⟨L2,e2⟩)) (c:e2=0∧(n1:Int)<=1024) (h:jR n2 [] [] L2=some l) {L:List Y} {a:Int} (f:(L,a)=iF l n1) (g:a=0) (e:L=xs):(l,0)=oM xs:=by
 rw [aEQ h1 h2,if_pos ⟨c.1,om⟩,h,qw,←f,g,e,if_pos rfl]
theorem bDO:yb ByteArray.empty=[]:=by rw [aC7,iI]
theorem aRi {l:List Ent} {every a:Int} {L:List Y} (h:(L,a)=iF l every):L.length<=1048576:=by
 unfold iF at h;split at h
 ·simp_all
 ·split at h
  ·simp_all
  grind[vF]
theorem aTx {n:Nat} {last:List Y} {E:Ent} {a r:List Y} (c:0<n) (h:oQ last rest=some (E,a,r)):jR n last acc rest=jR (n-1) a (acc++[E]) r:=by
 obtain ⟨m,rfl⟩ : ∃ m,n=m+1:=⟨n-1,om⟩;simp_all[jR,aKL]
theorem aTw {n:Nat} {last:List Y} (a:0<n) (h:oQ last rest=none):jR n last acc rest=none:=by
 obtain ⟨m,rfl⟩ : ∃ m,n=m+1:=⟨n-1,om⟩;simp_all[jR,aKL]
theorem bCU {last:List Y} {E:Ent} {e r:List Y} (h:oQ last rest=some (E,e,r)):r.length+1<=rest.length∧e.length+r.length<=last.length+rest.length:=by
 unfold oQ xV at h;obtain ⟨a,i,rfl,l,h⟩:=wQ h;obtain ⟨b,g,rfl,k,h⟩:=wQ h;obtain ⟨c,f,rfl,j,h⟩:=wQ h;grind[aGv]
end
section
variable {P:Program} {n:Fm} {l:List Oper} {K K':aG→PM→aB→Prop} {mc:Md}
theorem Sat.nil {G:PM} {w:World} (h:∀ b o,G b=some o->w.heap[b]? = some o):Sat G [] w:=⟨h,by simp,by simp [keys],by trivial⟩
theorem aQm {ρ:aG} {G:PM} {μ:aB} {y q:Oper} {c:Bool} (F:mC K) (g:nth l j=some q) (e:Apart l y q) (hd:jF n y.dst) (H:Wo true mc P n l K [j] (bT ρ y.dst c v) G μ):Wo true mc P n l (fun ρ' p k=>PM.le G p∧(∃ c' r,ρ'=bT ρ q.dst c' r)∧K (bT ρ' y.dst c v) p k) [j] ρ G μ:=by
 have I:∀ {ρ G μ},Wo true mc P n l K [] ρ G μ->K ρ G μ:=fun h=>by cases h with | nil h=>exact h
 have sw:∀ {c':Bool} {r:Value} {p:PM} {k:aB},Wo true mc P n l K [] (bT (bT ρ y.dst c v) q.dst c' r) p k->K (bT (bT ρ q.dst c' r) y.dst c v) p k:=fun h=>F.1 _ _ _ _ (nA e.dd) (I h);cases H with
 | @pure _ _ _ _ _ o cj vj ho hk hg hr h =>
  obtain rfl:q=o:=Option.some.inj (g.symm.trans ho);refine .pure g hk (pW e.ij hg) (fun D a w i=>oF hd e.sj e.ij (Φ:=fun s=>s.run P w=.ok (.value vj) w) (fun a i=>hr D a w i) a i) (.nil ⟨PM.le.refl _,⟨_,_,rfl⟩,sw h⟩)
 | @read _ _ _ _ _ o cj vj ho hk hg hr h =>
  obtain rfl:q=o:=Option.some.inj (g.symm.trans ho);refine .read g hk (pW e.ij hg) (fun D a w i A=>oF hd e.sj e.ij (Φ:=fun s=>s.run P w=.ok (.value vj) w) (fun a i=>hr D a w i A) a i) (.nil ⟨PM.le.refl _,⟨_,_,rfl⟩,sw h⟩)
 | @make _ _ _ _ _ o ob mkv ho hk hg hr h =>
  obtain rfl:q=o:=Option.some.inj (g.symm.trans ho);exact .make g hk hg hr fun b=>.nil ⟨PM.le.refl _,⟨_,_,rfl⟩,sw (h b)⟩
 | @box _ _ _ _ _ o ob mkv ho hk hg hr h =>
  obtain rfl:q=o:=Option.some.inj (g.symm.trans ho);exact .box g hk (pW e.ij hg) (fun a w i=>oF hd e.sj e.ij (Φ:=fun s=>s.run P w=.ok (.value (mkv w.heap.size)) (w.alloc ob)) (fun a i=>hr a w i) a i) fun b=>.nil ⟨PM.le.refl _,⟨_,_,rfl⟩,sw (h b)⟩
 | @callv _ _ _ _ _ o cj f args vj Gp ho hk hg hr hf h =>
  obtain rfl:q=o:=Option.some.inj (g.symm.trans ho);exact .callv g hk (pW e.ij hg) (fun D a w i=>oF hd e.sj e.ij (Φ:=fun s=>s.run P w=.ok (.enter f args) w) (fun a i=>hr D a w i) a i) hf (.nil ⟨PM.le.refl _,⟨_,_,rfl⟩,sw h⟩)
 | @call _ _ _ _ _ o f args post ho hk hg hr hf h =>
  obtain rfl:q=o:=Option.some.inj (g.symm.trans ho);exact .call g hk (pW e.ij hg) (fun a w i=>oF hd e.sj e.ij (Φ:=fun s=>s.run P w=.ok (.enter f args) w) (fun a i=>hr a w i) a i) hf fun r p k m C=>.nil ⟨m,⟨_,_,rfl⟩,sw (h r p k m C)⟩
 | callg hdf _ _ _ _ _=>grind
 | callp hdf _ _ _ _ _ _ _=>grind
 | pan hdf _ _ _ _=>grind
 | @fresh _ _ _ _ _ o μ₁ μ₂ post ho hk hg C hr hw h =>
  obtain rfl:q=o:=Option.some.inj (g.symm.trans ho);exact .fresh g hk hg C (fun a w i A=>oF hd e.sj e.ij (Φ:=fun s=>∃ v w' p x t,s.run P w=.ok (.value v) w'∧Tr G (keys μ₁) w p (x++t) w'∧post p x t v) (fun a i=>hr a w i A) a i) hw fun r p x t m E=>.nil ⟨m,⟨_,_,rfl⟩,sw (h r p x t m E)⟩
 | @act _ _ _ _ _ o μ₁ μ₂ post ho hk hg C hr h =>
  obtain rfl:q=o:=Option.some.inj (g.symm.trans ho);exact .act g hk (pW e.ij hg) C (fun a w i A=>oF hd e.sj e.ij (Φ:=fun s=>(∃ v w' p k,(s.run P w=.ok (.value v) w'∨s.run P w=.ok .skip w'∧v=undef)∧Tr G (keys μ₁) w p k w'∧post p k v) ∨
    (∃ f args,s.run P w=.ok (.enter f args) w∧Ct P f args G μ₁ post)) (fun a i=>hr a w i A) a i) fun r p k m E=>.nil ⟨m,⟨_,_,rfl⟩,sw (h r p k m E)⟩
def rI (mc:Md) (l:List Oper) (listed:Array Bool) (i:Nat):Bool :=
 (cT l listed).contains i&&match nth l i with
 | some oi=>(bK mc oi.op == .read)&&(qe l.length).all fun j=>listed.getD j true||j == i||match nth l j with
  | some oj=>sQ l l.length j i||oi.apart l.toArray oj
  | none=>false
 | none=>false
def PRd (P:Program) (n:Fm) (l:List Oper) (o:Oper) (c:Bool) (v:Value) (ρ:aG) (G:PM):Prop :=
 Gd l ρ o.guard c∧(c=true->∀ a w,Ag n ρ a->(∀ b u,G b=some u->w.heap[b]? = some u)->(execOp a.eval o).run P w=.ok (.value v) w)
def aGU (l:List Oper) (j:Nat):Bool:=(qe l.length).all fun i=>i == j||sQ l l.length j i
def Wp (mc:Md) (P:Program) (n:Fm) (l:List Oper) (K:aG->PM->aB->Prop):Nat->Array Bool->aG->PM->aB->Prop
 | 0,listed,ρ,G,μ=>cT l listed=[]∧K ρ G μ
 | m+1,listed,ρ,G,μ=>(∃ i,nD mc l listed i=true∧Wo true mc P n l (fun ρ' G' μ'=>Wp mc P n l K m (listed.setIfInBounds i true) ρ' G' μ') [i] ρ G μ) ∨
   (cT l listed≠[]∧∀ j∈cT l listed,Wo true mc P n l (fun ρ' G' μ'=>Wp mc P n l K m (listed.setIfInBounds j true) ρ' G' μ') [j] ρ G μ) ∨
   (∃ i o c v,rI mc l listed i=true∧nth l i=some o∧PRd P n l o c v ρ G∧Wp mc P n l K m (listed.setIfInBounds i true) (bT ρ o.dst c v) G μ) ∨
   (∃ j,cT l listed=[j]∧aGU l j=true∧Wo false mc P n l (fun ρ' G' μ'=>Wp mc P n l K m (listed.setIfInBounds j true) ρ' G' μ') [j] ρ G μ)
theorem PRd.congr {o:Oper} {c:Bool} {v:Value} {ρ f:aG} {G:PM} (h:PRd P n l o c v ρ G) (e:∀ i,cO ρ i=cO f i):PRd P n l o c v f G :=
 ⟨h.1.congr fun _ t _ _ _=>e t,fun j a w k g=>h.2 j a w (k.congr e) g⟩
theorem sJ (a:mC K):∀ (m:Nat) (listed:Array Bool),mC (fun ρ G μ=>Wp mc P n l K m listed ρ G μ)
 | 0,listed=>⟨fun ρ ρ' G μ e h=>⟨h.1,a.1 _ _ _ _ e h.2⟩,fun ρ G μ μ' p h=>⟨h.1,a.2 _ _ _ _ p h.2⟩⟩
 | m+1,listed=>by
  refine ⟨fun ρ ρ' G μ e h=>?_,fun ρ G μ μ' p h=>?_⟩
  ·rcases h with ⟨i,h1,h2⟩ | ⟨h1,h2⟩ | ⟨i,o,c,v,h1,h2,h3,h4⟩ | ⟨j,h1,h2,h3⟩
   ·exact .inl ⟨i,h1,h2.congr (sJ a m _) e⟩
   ·exact .inr (.inl ⟨h1,fun j hj=>(h2 j hj).congr (sJ a m _) e⟩)
   ·exact .inr (.inr (.inl ⟨i,o,c,v,h1,h2,h3.congr e,(sJ a m _).1 _ _ _ _ (rC e _ _ _) h4⟩))
   exact .inr (.inr (.inr ⟨j,h1,h2,h3.congr (sJ a m _) e⟩))
  rcases h with ⟨i,h1,h2⟩ | ⟨h1,h2⟩ | ⟨i,o,c,v,h1,h2,h3,h4⟩ | ⟨j,h1,h2,h3⟩
  ·exact .inl ⟨i,h1,h2.perm (sJ a m _) p⟩
  ·exact .inr (.inl ⟨h1,fun j hj=>(h2 j hj).perm (sJ a m _) p⟩)
  ·exact .inr (.inr (.inl ⟨i,o,c,v,h1,h2,h3,(sJ a m _).2 _ _ _ _ p h4⟩))
  exact .inr (.inr (.inr ⟨j,h1,h2,h3.perm (sJ a m _) p⟩))
theorem aX3 {a:Array Bool} {i:Nat} (f:i≠j) (h:rI mc l a i=true):rI mc l (a.setIfInBounds j true) i=true:=by
 unfold rI at h ⊢;simp only [qq] at h ⊢;obtain ⟨p,c⟩:=h;refine ⟨by simp_all[wY],?_⟩;cases m:nth l i with
 | none=>simp_all
 | some oi =>
  simp only [m,qq] at c ⊢;refine ⟨c.1,wd.2 fun k g=>?_⟩;have n:=wd.1 c.2 k g;by_cases e:j=k
  ·simp_all
  simp_all
theorem aLW {a:Array Bool} {i:Nat} (k:Closed l a) (g:a.getD i true=false) (c:i<l.length) (f:j∈cT l a) (e:i≠j) (h:aGU l j=true):False:=by
 have m:=wd.1 h i (xo.2 c);grind[aCD]
theorem Wp.front (hK:mC K) (L:Region.noSelect l.toArray=true) (M:∀ j y,nth l j=some y->bK mc y.op=.make->vK P y) (D:∀ j y,nth l j=some y->jF n y.dst) :
  ∀ (m:Nat) (listed:Array Bool) (j:Nat) (ρ:aG) (G:PM) (μ:aB),qP listed=m+1->Closed l listed->j∈cT l listed->Wp mc P n l K (m+1) listed ρ G μ->Wo true mc P n l (fun p J r=>Wp mc P n l K m (listed.setIfInBounds j true) p J r) [j] ρ G μ∨(aGU l j=true∧Wo false mc P n l (fun p J r=>Wp mc P n l K m (listed.setIfInBounds j true) p J r) [j] ρ G μ)
 | m,listed,j,ρ,G,μ,hu,hcl,hj,H=>by
  rcases H with ⟨i,h1,h2⟩ | ⟨_,h2⟩ | ⟨i,S,c,v,h1,g,h2,h3⟩ | ⟨j',h1,h2,h3⟩
  ·by_cases e:j=i
   ·simp_all
   have T:i∈cT l listed:=by simp_all[nD]
   have O:=wY hj e;have k:=(kO.1 T).1;have C:=(kO.1 hj).1;have a3:=aAy k;have t:(listed.setIfInBounds i true).getD j true=false:=by simp_all[Ne.symm]
   have hp:=aHy t;obtain ⟨F,rfl⟩ : ∃ F,m=F+1:=⟨m-1,om⟩;obtain ⟨_,S,g,_⟩:=kO.1 T;have Q:i<l.length:=by
    have:=(kN _ _).trans g;grind
   obtain ⟨_,y,f,_⟩:=kO.1 hj;have h3:Wo true mc P n l (fun p J r=>Wp mc P n l K F ((listed.setIfInBounds i true).setIfInBounds j true) p J r) (i :: [j]) ρ G μ :=
    h2.bind1 fun p J r h=>(Wp.front hK L M D F (listed.setIfInBounds i true) j p J r om (hcl.set T) O h).resolve_right fun hl=>aLW hcl k Q hj (fun q=>e q.symm) hl.1
   have A:=aCD hcl k hj l.length;have N:j<l.length:=by
    have:=(kN _ _).trans f;grind
   have x:=h1;unfold nD at x;simp only [qq,g] at x;obtain ⟨_,a8,E⟩:=x;have Z:=wd.1 E j (xo.2 N);simp only [C,f,A,ja,wv,beq_iff_eq,e,false_or,qq,bne_iff_ne] at Z;simp only [wv,beq_iff_eq] at a8;have a7:bK mc S.op=.pure∨(bK mc S.op=.read∧bK mc y.op≠.act)∨bK mc y.op=.make:=by
    grind
   have h5:=Wo.swap (sJ hK F _) rfl g f (zT L g f Z.1) D (M j y f) a7 h3;refine .inl (h5.cut1.bind1 fun p J r h=>.nil (.inl ⟨i,aMc (Ne.symm e) h1,?_⟩));grind[jm]
  ·simp_all
  ·by_cases e:j=i
   ·subst e;have a6:bK mc S.op=.read:=by
     simp_all[rI]
    exact .inl (.read g (.inl a6) h2.1 (fun hc a w X L=>h2.2 hc a w X L.sub) (.nil h3))
   have T:i∈cT l listed:=by simp_all[rI]
   have O:=wY hj e;have k:=(kO.1 T).1;have C:=(kO.1 hj).1;have a3:=aAy k;have t:(listed.setIfInBounds i true).getD j true=false:=by simp_all[Ne.symm]
   have hp:=aHy t;obtain ⟨F,rfl⟩ : ∃ F,m=F+1:=⟨m-1,om⟩;obtain ⟨_,y,f,_⟩:=kO.1 hj;have A:=aCD hcl k hj l.length;have N:j<l.length:=by
    have:=(kN _ _).trans f;grind
   have x:=h1;unfold rI at x;simp only [qq,g] at x;obtain ⟨_,_,E⟩:=x;have Z:=wd.1 E j (xo.2 N);simp only [C,f,A,ja,wv,beq_iff_eq,e,false_or] at Z;have I:=zT L g f Z;have Q:i<l.length:=by
    have:=(kN _ _).trans g;grind
   have h5:=(Wp.front hK L M D F (listed.setIfInBounds i true) j _ G μ om (hcl.set T) O h3).resolve_right fun hl=>aLW hcl k Q hj (fun q=>e q.symm) hl.1;refine .inl ((aQm (sJ hK F _) f I (D i S g) h5).bind1 fun p J r ⟨a4,⟨c',v',a2⟩,h⟩=>.nil (.inr (.inr (.inl ⟨i,S,c,v,aX3 (Ne.symm e) h1,g,?_,?_⟩))))
   ·subst a2;refine ⟨yC I.ji h2.1,fun hc a w X L=>?_⟩;exact wF (D j y f) I.si I.ji (Φ:=fun s=>s.run P w=.ok (.value v) w) (fun a X=>h2.2 hc a w X (fun b u hb=>L b u (a4 b u hb))) a X
   grind[jm]
  simp_all
theorem Wp.any {Q:Exit->Act->World->Prop} {F:PM} {K0:List Nat} {w0:World} (A:mC K) (t:Region.noSelect l.toArray=true) (p:∀ j oj,nth l j=some oj->bK mc oj.op=.make->vK P oj) (e:∀ j oj,nth l j=some oj->jF n oj.dst)
  (y:∀ ρ G μ,K ρ G μ->∀ a w,Ag n ρ a->Tr F K0 w0 G μ w->Q .normal a w) (C:∀ ch ρ G μ a w,n.die ch ρ G μ->Ag n ρ a->Tr F K0 w0 G μ w->Q (.panic ch) a w) :
  ∀ (m:Nat) (listed:Array Bool) (ρ:aG) (G:PM) (μ:aB) (a:Act) (w:World),qP listed=m->Closed l listed->Wp mc P n l K m listed ρ G μ->Ag n ρ a->Tr F K0 w0 G μ w->wpAny P .any l.toArray Q m listed a w
 | 0,listed,ρ,G,μ,a,w,_,_,H,ha,ht=>⟨H.1,y _ _ _ H.2 a w ha ht⟩
 | m+1,listed,ρ,G,μ,a,w,hu,hcl,H,ha,ht=>by
  refine ⟨fun h0=>?_,fun j hj=>?_⟩
  ·rcases H with ⟨i,h1,_⟩ | ⟨h1,_⟩ | ⟨i,oi,c,v,h1,_⟩ | ⟨j',h1,_⟩
   ·simp_all[cT,nD]
   ·trivial
   ·simp_all[cT,rI]
   simp_all[cT]
  have hj':j∈cT l listed:=hj;have L:=aAy (kO.1 hj').1;obtain ⟨o,M,h⟩ : ∃ o,nth l j=some o∧if Region.wanted o (yielded l.toArray a.tmps) then o.wp P a w (wpAny P .any l.toArray Q m (listed.setIfInBounds j true)) Q else wpAny P .any l.toArray Q m (listed.setIfInBounds j true) (a.put o.dst undef) w:=by
   rcases Wp.front A t p e m listed j ρ G μ hu hcl hj' H with x | ⟨_,x⟩
   ·exact x.head ha ht (next:=wpAny P .any l.toArray Q m (listed.setIfInBounds j true)) (Q:=Q) e (fun J=>om)
     (fun f I g D r E q k=>by cases E with | nil h=>exact Wp.any A t p e y C m _ f I g D r om (hcl.set hj') h q k)
   exact x.head ha ht (next:=wpAny P .any l.toArray Q m (listed.setIfInBounds j true)) (Q:=Q) e (fun _=>C)
    (fun f I g D r E q k=>by cases E with | nil h=>exact Wp.any A t p e y C m _ f I g D r om (hcl.set hj') h q k)
  simp only [wpOp,kN,M];grind
theorem dT {X:Cx} {k:List KI} {m:Nat} {ρ:aG} {G:PM} {μ:aB} (mc:Md) (hm:X.P.follows .mixedOrders=true) (c:aD5 X.P X.n.n l=true)
  (h:Wp mc X.P X.n l (fun ρ G μ=>We X .normal k ρ G μ) l.length (Array.replicate l.length false) ρ G μ):Wk X (.region m l.toArray true) k ρ G μ:=by
 simp only [aD5,qq] at c;obtain ⟨⟨v,t⟩,r⟩:=c;refine ⟨fun a w i f=>wp_region_any hm ?_⟩;have p:qP (Array.replicate l.length false)=l.length:=by simp [qP]
 have:=Wp.any (Q:=gM X k) (aE3 .normal) v (fun j e g q=>aGg q (wd.1 r e (aAb g)))
  (fun j e g=>by
   have:=wd.1 t e (aAb g);cases hd:e.dst with
   | none=>trivial
   | some d=>rw [hd] at this; show d<X.n.n; simp_all) (fun _ _ _ h a w i f=>h.out a w i f) (vM _ k) l.length _ ρ G μ a _ p (Closed.none _) h i f.drew
 omega
variable {ρ:aG} {G:PM} {μ:aB} {m:Nat} {listed:Array Bool}
theorem Wp.last (a:cT l listed=[]) (h:K ρ G μ):Wp mc P n l K 0 listed ρ G μ:=⟨a,h⟩
theorem Wp.one (i:Nat) (a:nD mc l listed i=true) (h:Wo true mc P n l (fun ρ' G' μ'=>Wp mc P n l K m (listed.setIfInBounds i true) ρ' G' μ') [i] ρ G μ):Wp mc P n l K (m+1) listed ρ G μ:=.inl ⟨i,a,h⟩
theorem Wp.pr (i:Nat) (j:rI mc l listed i=true) (h:Wo true mc P n l (fun ρ' G' μ'=>(G'=G∧μ'=[])∧Wp mc P n l K m (listed.setIfInBounds i true) ρ' G μ) [i] ρ G []):Wp mc P n l K (m+1) listed ρ G μ:=by
 have k:=j;unfold rI at k;simp only [qq] at k;cases e:nth l i with
 | none=>simp_all
 | some oi =>
  have q:bK mc oi.op=.read:=by simp_all
  cases h with
  | @read _ _ _ _ _ o c v ho hk hg hr h =>
   obtain rfl:oi=o:=Option.some.inj (e.symm.trans ho);cases h with
   | nil h=>exact .inr (.inr (.inl ⟨i,oi,c,v,j,e,⟨hg,fun g a w r p=>hr g a w r (Sat.nil p)⟩,h.2⟩))
  | @pure _ _ _ _ _ o cj vj ho hk _ _ _=>simp_all
  | @make _ _ _ _ _ o _ _ ho hk _ _ _=>simp_all
  | @box _ _ _ _ _ o _ _ ho hk _ _ _=>simp_all
  | @callv _ _ _ _ _ o cj f args vj Gp ho hk _ _ _ _=>simp_all
  | @call _ _ _ _ _ o f args post ho hk _ _ _ _=>simp_all
  | callg hdf _ _ _ _ _=>grind
  | callp hdf _ _ _ _ _ _ _=>grind
  | pan hdf _ _ _ _=>grind
  | @fresh _ _ _ _ _ o μ₁ μ₂ post ho hk _ _ _ _ _=>simp_all
  | @act _ _ _ _ _ o μ₁ μ₂ post ho hk _ _ _ _=>simp_all
theorem Wp.b1 (j:Nat) (e:cT l listed=[j]) (h:Wo true mc P n l (fun ρ' G' μ'=>Wp mc P n l K m (listed.setIfInBounds j true) ρ' G' μ') [j] ρ G μ):Wp mc P n l K (m+1) listed ρ G μ :=
 .inr (.inl ⟨by simp_all,fun c a=>by simp_all⟩)
theorem Wp.b2 (j a:Nat) (f:cT l listed=[j,a]) (h:Wo true mc P n l (fun ρ' G' μ'=>Wp mc P n l K m (listed.setIfInBounds j true) ρ' G' μ') [j] ρ G μ)
  (h2:Wo true mc P n l (fun ρ' G' μ'=>Wp mc P n l K m (listed.setIfInBounds a true) ρ' G' μ') [a] ρ G μ):Wp mc P n l K (m+1) listed ρ G μ :=
 .inr (.inl ⟨by simp_all,fun e c=>by
  grind⟩)
theorem Wp.b3 (j c a:Nat) (g:cT l listed=[j,c,a]) (h:Wo true mc P n l (fun ρ' G' μ'=>Wp mc P n l K m (listed.setIfInBounds j true) ρ' G' μ') [j] ρ G μ)
  (h2:Wo true mc P n l (fun ρ' G' μ'=>Wp mc P n l K m (listed.setIfInBounds c true) ρ' G' μ') [c] ρ G μ) (h3:Wo true mc P n l (fun ρ' G' μ'=>Wp mc P n l K m (listed.setIfInBounds a true) ρ' G' μ') [a] ρ G μ):Wp mc P n l K (m+1) listed ρ G μ :=
 .inr (.inl ⟨by simp_all,fun f e=>by
  grind⟩)
theorem aA (i:Nat) (h:Wo true mc P n l (fun ρ' G' μ'=>Wp mc P n l K m (listed.setIfInBounds i true) ρ' G' μ') [i] ρ G μ) (a:nD mc l listed i=true:=by kernel_rfl):Wp mc P n l K (m+1) listed ρ G μ:=Wp.one i a h
theorem fR (i:Nat) (h:Wo true mc P n l (fun ρ' G' μ'=>(G'=G∧μ'=[])∧Wp mc P n l K m (listed.setIfInBounds i true) ρ' G μ) [i] ρ G []) (a:rI mc l listed i=true:=by kernel_rfl):Wp mc P n l K (m+1) listed ρ G μ:=Wp.pr i a h
theorem aI (j:Nat) (h:Wo true mc P n l (fun ρ' G' μ'=>Wp mc P n l K m (listed.setIfInBounds j true) ρ' G' μ') [j] ρ G μ) (a:cT l listed=[j]:=by kernel_rfl):Wp mc P n l K (m+1) listed ρ G μ:=Wp.b1 j a h
theorem bO (h:K ρ G μ) (a:cT l listed=[]:=by kernel_rfl):Wp mc P n l K 0 listed ρ G μ:=Wp.last a h
end
theorem aL4 {μ f e c a:aB} {j i h g:Res} (h1:MTake μ j f) (h2:MTake f i e) (h3:MTake e h c) (k:MTake c g a):μ.Perm ([j,i,h,g]++a):=h1.perm.trans ((fC h2 h3 k).cons _)
def fW:ByteArray:=xe
theorem aFq (l:List ByteArray):∀ x∈l,(iM x).length=1:=fun _ _=>rfl
theorem aT2 {l:List ByteArray} {j:Int} (k:Nat) (c:0+j.toNat*1=k) (a:k<l.length):(l.flatMap iM)[0+j.toNat*1]? = some (.string (l.getD k fW)):=by
 rw [c];have:=aDf (aFq _) (wi a);rw [Nat.mul_one] at this;have e:=congrArg (fun z=>z[0]?) this;simp only [List.getElem?_take,List.getElem?_drop] at e;simp_all[iM]
theorem aBd {l:List ByteArray} {o:Nat} (k:Nat) (c:o=k) (a:k<l.length):(l.flatMap iM)[o]? = some (.string (l.getD k fW)):=by
 have:=aT2 (l:=l) (j:=(k:Int)) k om a;simp_all
theorem aFU:∀ (l:List ByteArray) (p y:ByteArray),sO p (l++[y])=sO p l++(if y=l.getLastD p then [] else [y])
 | [],p,y=>by rfl
 | b :: l,p,y=>by
  simp only [List.cons_append,sO,List.getLastD_cons];split
  ·rename_i h; subst h; exact aFU l _ y
  ·rw [aFU l b y]; rfl
theorem aUj {l:List ByteArray} (h:k<l.length):l.getD k fW=l[k]:=by simp_all
theorem aDF {l:List ByteArray} (h1:1<=j) (h2:j<l.length):jE (l.take (j+1))=jE (l.take j)++(if l.getD j fW=l.getD (j-1) fW then [] else [l.getD j fW]):=by
 cases l with
 | nil=>simp
 | cons a l =>
  obtain ⟨i,rfl⟩ : ∃ i,j=i+1:=⟨j-1,om⟩;have c:i<l.length:=by simp_all
  rw [vd,vd,wg,wi c];simp only [jE,Option.toList_some,aFU,ww];grind
theorem aFR {l:List ByteArray}:∀ k,k<=l.length->(∀ j,1<=j->j<k->¬ l.getD j fW=l.getD (j-1) fW)->jE (l.take k)=l.take k
 | 0,_,_=>rfl
 | 1,h,_=>by
  cases l with
  | nil=>rfl
  | cons a l=>rfl
 | k+2,h,hj=>by
  rw [aDF (by omega) (by omega),aFR (k+1) (by omega) (fun j h1 h2=>hj j h1 (by omega)),if_neg (hj (k+1) (by omega) (by omega)),List.take_add_one (i:=k+1),List.getElem?_eq_getElem (by omega),aUj (by omega)];rfl
theorem aSN {l:List ByteArray} (h:(l.length:Int)<2):jE l=l:=by
 match l with
 | []=>rfl
 | [a]=>rfl
 | a :: b :: r=>grind
theorem aSM {l:List ByteArray} (h:l.length<=k) (a:∀ j,1<=j->j<k->¬ l.getD j fW=l.getD (j-1) fW):jE l=l:=by
 have:=aFR l.length (qd _) fun j c e=>a j c om;simp_all
structure CmR (l M:List ByteArray) (c j:Nat):Prop where
 len:M.length=l.length
 cj:c<j
 jl:j≤l.length
 c1:1≤c
 fst:M.take c=jE (l.take j)
 rest:∀ i,j≤i+1→M.getD i fW=l.getD i fW
theorem aPe {l:List ByteArray} (a:1<=k) (c:k<l.length) (e:∀ j,1<=j->j<k->¬ l.getD j fW=l.getD (j-1) fW) (f:l.getD k fW=l.getD (k-1) fW):CmR l l k (k+1) :=
 ⟨rfl,om,om,a,by rw [aDF a c,aFR k om e,if_pos f,we],fun _ _=>rfl⟩
theorem CmR.same {l M:List ByteArray} {c:Nat} (h:CmR l M c j) (e:j<l.length) (a:M.getD j fW=M.getD (j-1) fW):CmR l M c (j+1):=by
 have g:=h.c1; have f:=h.cj;refine ⟨h.len,om,om,g,?_,fun i k=>h.rest i om⟩;rw [h.rest j om,h.rest (j-1) om] at a;rw [aDF om e,if_pos a,we]; exact h.fst
theorem CmR.next {l M:List ByteArray} {c:Nat} (h:CmR l M c j) (f:j<l.length) (g:¬ M.getD j fW=M.getD (j-1) fW):CmR l (M.set c (M.getD j fW)) (c+1) (j+1):=by
 have n:=h.c1; have k:=h.cj; have e:=h.len;have a:=g;rw [h.rest j om,h.rest (j-1) om] at a;refine ⟨by simp_all,om,om,om,?_,fun i m=>?_⟩
 ·rw [aDF om f,if_neg a,←h.fst,wg,List.getElem?_set_self om,List.take_set_of_le (qd _),h.rest j om]; rfl
 have:c≠i:=by omega
 rw [xx,List.getElem?_set_ne this,←xx];exact h.rest i om
theorem CmR.fin {l M:List ByteArray} {c:Nat} (h:CmR l M c j) (a:l.length<=j):M.take c=jE l:=by
 rw [h.fst,qz om]
theorem bA9 {a b:ByteArray} (h:(a.toList == b.toList)=false):¬ a=b:=fun e=>by simp_all
theorem aSF {l:List ByteArray} (h:∀ j,1<=j->j<k->¬ l.getD j fW=l.getD (j-1) fW) (c:((l.getD k fW).toList == (l.getD (k-1) fW).toList)=false):∀ j,1<=j->j<k+1->¬ l.getD j fW=l.getD (j-1) fW:=fun j e a=>by
 grind
theorem aZk {X A L:List Y} (a:X.length<18446744073709551616) (e:A=[]++bV (BitVec.ofInt 64 (X.length:Int)).toNat) (c:L=A++yl 32 (gI X)):L=jY X:=by
 rw [c,e,aEF a]; rfl
def iE (enc mac:Nat->Y) (va vo vl:Value):List Value:=ba 32 enc++ba 32 mac++[va,vo,vl]
section
variable {enc mac:Nat→Y} {va vo vl v:Value}
theorem aEo:(iE enc mac va vo vl).length=67:=by rfl
theorem aPP:((iE enc mac va vo vl).drop 0).take 64=ba 32 enc++ba 32 mac:=by rfl
theorem aPO:(iE enc mac va vo vl)[64]? = some va:=by rfl
theorem tX:(iE enc mac va vo vl)[65]? = some vo:=by rfl
theorem aEp:(iE enc mac va vo vl)[66]? = some vl:=by rfl
theorem aH7:(iE enc mac va vo vl).set 65 v=iE enc mac va v vl:=by rfl
theorem bDG:(iE enc mac va vo vl).set 66 v=iE enc mac va vo v:=by rfl
end
def oC (h:Hd) (l:List Ent) (blk every:Int):Prop:=¬ h.kind=2#8∨h.right=false∨l=[]∨blk<1∨1048576<blk∨every<1∨1024<every∨(∃ e∈l,cM e=false)∨cR l=false
def dA (root:Nat->Y) (h:Hd) (l:List Ent) (blk every bits:Int):Tab:=⟨root,h,every.toNat,bits,dZ blk l⟩
def qR (root:Nat->Y) (h:Hd) (l:List Ent) (blk every bits:Int) (L:List Y) (m:Meta) (er:Int):Prop :=
 (oC h l blk every∧L=[]∧m=Meta.zero∧er=1)∨(¬ oC h l blk every∧L=(dA root h l blk every bits).bytes∧m=(dA root h l blk every bits).info∧er=0)
section
variable {root:Nat→Y} {h:Hd} {l:List Ent} {blk every bits:Int}
theorem aOi:(((h.kind.toNat:Int) != 2) || !h.right||((l.length:Int) == 0)||decide (blk<1)||decide (blk > 1048576)||decide (every<1)||decide (every > 1024)||l.any (fun e => !cM e) || !cR l)=true↔oC h l blk every:=by
 have a:(((h.kind.toNat:Int) != 2)=true)↔¬ h.kind=2#8:=by
  rw [bne_iff_ne];exact ⟨fun q e=>q (by simp_all),fun q e=>q (wl (by grind))⟩
 simp_all[oC,or_assoc]
theorem bB2 (c:(((h.kind.toNat:Int) != 2) || !h.right||((l.length:Int) == 0)||decide (blk<1)||decide (blk > 1048576)||decide (every<1)||decide (every > 1024)||l.any (fun e => !cM e) || !cR l)=true):qR root h l blk every bits [] Meta.zero 1:=.inl ⟨aOi.1 c,rfl,rfl,rfl⟩
theorem aGE (a:¬ oC h l blk every) (e:lightE l):(dA root h l blk every bits).Good:=by
 have f:(dA root h l blk every bits).ents=l:=pS _ _;have c:1<=every∧every<=1024:=⟨zz.1 fun q=>a (.inr (.inr (.inr (.inr (.inr (.inl q)))))),zz.1 fun q=>a (.inr (.inr (.inr (.inr (.inr (.inr (.inl q))))))) ⟩;refine ⟨⟨by simp_all,aFd _ _,by show every.toNat<=1024; omega⟩,?_,?_,by show 1<=every.toNat; omega,?_,?_,?_⟩
 ·apply Classical.byContradiction; intro q; exact a (.inl q)
 ·grind[dA,oC]
 ·grind[oC]
 ·simp_all[oC]
 grind[Tab.ents,oC]
theorem bB7 (c:(((h.kind.toNat:Int) != 2) || !h.right||((l.length:Int) == 0)||decide (blk<1)||decide (blk > 1048576)||decide (every<1)||decide (every > 1024)||l.any (fun e => !cM e) || !cR l)=false) (a:lightE l):¬ oC h l blk every∧(dA root h l blk every bits).Good∧1<=every:=by
 grind[aOi,aGE]
end
theorem aRk {t:Tab} (g:t.Good) {i:Nat} (h:i<t.cs.length):iF (t.cs.getD i []) t.every=(gY t.every (t.cs.getD i []),0):=by
 have c:∀ e∈t.cs.getD i [],cM e=true:=fun e a=>g.ents e (vm.2 ⟨_,oH h,a⟩);have f:cR (t.cs.getD i [])=true:=aM3 ((qaC.1 (aHJ g.rises)).1 _ (oH h));have l:=aA6 (oH h);have k:cC t.cs.flatten<=50000:=g.ok.light.2;have j:t.cs.flatten.length<=2000:=g.ok.light.1;have a:=g.ok.every;have m:=g.ev1;grind[aFN,aC6,aEK,aEq]
section
variable {root:Nat→Y} {h:Hd} {l rest L R B:List Ent} {blk every bits er:Int} {k:Nat} {x y:Ent}
theorem bCB (g:(dA root h l blk every bits).Good) (n:1<=every) (f:rest=((dZ blk l).drop k).flatten) (v:0<(rest.length:Int)) (x:L=rest.take (iL blk 0 rest)) (w:R=rest.drop (iL blk 0 rest)) :
  k<(dZ blk l).length∧(dZ blk l).getD k []=L∧R=((dZ blk l).drop (k+1)).flatten∧L.length=iL blk 0 rest∧0<L.length∧(∀ {X:List Y} {c:Int},(X,c)=iF L every->X=gY every.toNat L∧c=0):=by
 have a:rest≠[]:=fun q=>by simp_all
 obtain ⟨e,t,r⟩:=aJs f a;have j:=aAA blk 0 a;have m:=aFc blk rest 0;refine ⟨e,by simp_all,by simp_all,by simp_all,by simp_all,fun {X c} p=>?_⟩;have:=aRk g (i:=k) e;grind[dA]
theorem bB4 (g:k<(dZ blk l).length) (h:(dZ blk l).getD k []=L) (c:R=((dZ blk l).drop (k+1)).flatten) (m:0<(R.length:Int)) (f:L[L.length-1]? = some x) (e:R[0]? = some y):qU (yb x.user) (yb y.user)=oD (dZ blk l) k:=by
 have a:R≠[]:=fun q=>by simp_all
 obtain ⟨j,i,_⟩:=aJs c a;simp_all[aAA,oD,jV,oG]
theorem bB3 (f:(dZ blk l).getD k []=L) (c:R=((dZ blk l).drop (k+1)).flatten) (h:(R.length:Int)<=0) (e:L[L.length-1]? = some x):yb x.user=oD (dZ blk l) k:=by
 have a:R=[]:=wo om;have g:=aJr c a;simp_all[oD,if_neg,jV]
end
section
variable {t:Tab} {k:Nat} {O D' X W L1 L2:List Y} {US:List ByteArray} {L:List Ent}
theorem aOl (a:t.cs.getD k []=L) (e:X=kR (fN t.root (bG t.h)) (fO t.root (bG t.h)) (jA (BitVec.ofInt 64 ((2+k:Nat):Int))) (bG t.h) (gY t.every L)):X=t.prt k:=by simp_all[Tab.prt,aAp]
theorem aOk (c:O=t.out k) (a:X=t.prt k) (e:L1=O++X):L1=t.out (k+1):=by rw [e,c,a,t.out_succ]
theorem aOm (e:O=t.rows k) (a:X=t.prt k) (c:W=jY X) {s:List Y} (es:s=oD t.cs k) (g:L1=O++gL s) (f:L2=L1++W):L2=t.rows (k+1):=by rw [f,g,e,c,a,es,t.rows_succ,qk]
theorem aOj {D a:List Dg} (f:D=t.lvs k) (c:X=t.prt k) (e:a=D++[gI X]):a=t.lvs (k+1):=by rw [e,f,c,t.lvs_succ]
theorem aOn (a:k<t.cs.length) (c:t.cs.getD k []=L) (e:US=(t.cs.take k).flatten.map (·.user)):US++L.map (·.user)=(t.cs.take (k+1)).flatten.map (·.user):=by simp_all[aFb]
theorem aO3 {x:Ent} (h:L[j]? = some x):US++(L.take j).map (·.user)++[x.user]=US++(L.take (j+1)).map (·.user):=by
 simp_all[wg]
end
theorem bCA {l rest:List Ent} {blk:Int} (c:lightE l) (a:rest=((dZ blk l).drop k).flatten):lightE rest:=by
 have e:l=((dZ blk l).take k).flatten++rest:=by grind[qx,pS]
 grind[qQ,lightE]
theorem usz {L:List Ent} {x:Ent} (e:lightE L) (a:L[j]? = some x):x.user.size<=50000∧x.value.size<=50000:=by
 have c:=(xb.1 a).1;have:=zH c;grind[lightE]
theorem aOA {L A:List Y} {s:ByteArray} (e:L=A++gL (yb s)) (a:s.size<=50000):L.length<=A.length+50010:=by
 grind[iR,bZ,gL]
theorem aHO {W X:List Y} (e:W=jY X) (a:X.length<=100000000):32<=W.length∧W.length<=42:=by
 grind[iR,jY,bY]
theorem aFV:∀ {l:List ByteArray} {p s:ByteArray},s∈sO p l->s∈l
 | b :: l,p,s,h=>by
  unfold sO at h;split at h
  ·exact List.mem_cons_of_mem _ (aFV h)
  ·rcases List.mem_cons.1 h with rfl | h
   ·simp
   ·exact List.mem_cons_of_mem _ (aFV h)
theorem aSO:∀ {l:List ByteArray} {s:ByteArray},s∈jE l->s∈l
 | a :: l,s,h=>by
  unfold jE at h;rcases List.mem_cons.1 h with rfl | h
  ·simp
  ·exact List.mem_cons_of_mem _ (aFV h)
theorem bCp {l:List Ent} (c:lightE l):∀ s∈jE (l.map (·.user)),s.size<=1000000:=fun s a=>by
 obtain ⟨e,g,rfl⟩:=qi.1 (aSO a);obtain ⟨i,f,rfl⟩:=yo g;have:=(usz c (wi f)).1;omega
section
variable {root:Nat→Y} {h:Hd} {l:List Ent} {blk every bits:Int}
theorem bBe:(dA root h l blk every bits).users=l.map (·.user):=by
 simp[Tab.users,Tab.ents,dA,pS]
theorem bB1 {a:List ByteArray} (c:(dZ blk l).length<=k) (e:a=((dA root h l blk every bits).cs.take k).flatten.map (·.user)):a=l.map (·.user):=by
 grind[qz,pS,dA]
theorem bB6 {M X:List Y} {a:List ByteArray} (e:a=l.map (·.user)) (f:M=aAZ (jE a) bits) (c:X=kR (fN root (bG h)) (fO root (bG h)) (jA (BitVec.ofInt 64 ((1:Nat):Int))) (bG h) M):X=(dA root h l blk every bits).filt:=by
 unfold Tab.filt; rw [bBe,c,f,e]; rfl
theorem bB8 {R W N L I:List Y} (c:R=(dA root h l blk every bits).rows (dZ blk l).length) (g:W=jY (dA root h l blk every bits).filt) (a:N=[]++bV (BitVec.ofInt 64 ((dZ blk l).length:Int)).toNat) (i:(dZ blk l).length<=2000) (e:L=R++W) (f:I=N++L):I=(dA root h l blk every bits).idx:=by
 rw [aEF om] at a;rw [f,a,e,c,g]; rfl
theorem bCC {I X:List Y} (c:I=(dA root h l blk every bits).idx) (a:X=kR (fN root (bG h)) (fO root (bG h)) (jA (BitVec.ofInt 64 ((0:Nat):Int))) (bG h) I):X=(dA root h l blk every bits).sidx:=by
 unfold Tab.sidx; rw [a,c]; rfl
theorem bB5 {O F S c a L:List Y} {z:Int} (g:O=(dA root h l blk every bits).out (dZ blk l).length) (j:F=(dA root h l blk every bits).filt) (f:S=(dA root h l blk every bits).sidx) (m:c=O++F) (k:a=c++S) (e:z=(S.length:Int)) (i:L=a++cY (BitVec.ofInt 64 z) 8):L=(dA root h l blk every bits).bytes:=by
 rw [i,k,m,e,g,j,f]; rfl
theorem bB9 {L:List Y} {f e c:List Dg} {F S:List Y} {x y:Ent} (i:L=(dA root h l blk every bits).bytes) (r:f=(dA root h l blk every bits).lvs (dZ blk l).length) (j:F=(dA root h l blk every bits).filt) (g:S=(dA root h l blk every bits).sidx) (q:e=f++[gI F]) (p:c=e++[gI S]) (v:l[0]? = some x) (t:l[l.length-1]? = some y) :
  [V h.level,uv .u64 h.gen,uv .u64 h.epoch,uv .u64 h.num,.int .i64 (L.length:Int),.int .i64 (l.length:Int),.string x.user,.string y.user]++ba 32 (fP c)=(dA root h l blk every bits).info.cells:=by
 have a:(dA root h l blk every bits).ents=l:=pS _ _;have n:c=(dA root h l blk every bits).leaves:=by rw [p,q,r,j,g]; rfl
 have m:oG l=x.user:=by simp_all[oG]
 have k:jV l=y.user:=by simp_all[jV]
 rw [n,i,←m,←k];conv=>lhs; rw [show (l.length:Int)=((dA root h l blk every bits).ents.length:Int) by rw [a],show oG l=oG (dA root h l blk every bits).ents by rw [a],show jV l=jV (dA root h l blk every bits).ents by rw [a]]
 rfl
end
theorem aL3 {a b c d e f g i:Value} {w:Nat->Y}:([a,b,c,d,e,f,g,i]++ba 32 w).length=40:=by rfl
theorem bCo (cs:List (List Ent)) (k:Nat):((cs.take k).flatten.map (·.user)).length<=cs.flatten.length:=by grind[aH9]
def aAl (p:RowT×Sh):List Value:=[.string (aV p.1.bound),p.2.val p.1.bytes.length]++ba 32 p.1.leaf
theorem aAm {p:RowT×Sh}:(aAl p).length=34:=by rfl
theorem aZh {p:RowT×Sh}:((aAl p).drop 2).take 32=ba 32 p.1.leaf:=by
 rfl
theorem aZi (p:RowT×Sh):∀ u∈aAl p,u.oneCell'=true:=uU (qC rfl rfl) (pR _ _)
structure RdrR (G:PM) (h:Hd) (ps:List (RowT×Sh)) (ix:List Y) (ha hr hi:Sh):Prop where
 ad:SlR G 1 aK ha (bG h)
 rows:SlR G 34 aAl hr ps
 each:∀ p∈ps,SlR G 1 aK p.2 p.1.bytes
 ix:SlR G 1 aK hi ix
 sm:∀ p∈ps,p.1.bytes.length≤1000000
 len:ps.length≤999990
theorem RdrR.mono {G i:PM} {h:Hd} {c:List (RowT×Sh)} {ix:List Y} {g e f:Sh} (r:RdrR G h c ix g e f) (a:PM.le G i):RdrR i h c ix g e f :=
 ⟨r.ad.mono a,r.rows.mono a,fun p j=>(r.each p j).mono a,r.ix.mono a,r.sm,r.len⟩
theorem aGh {a:List (RowT×Sh)} {rows:List RowT} {i:Nat} {p:RowT×Sh} (e:a.map (·.1)=rows) (c:a[i]? = some p):rows.getD i qH=p.1:=by
 grind
section
variable {root:Nat→Y} {h:Hd} {x:RowT} {part i:Nat} {L:List Y} {rows:List RowT} {l:List Ent}
theorem bC3 (a:lY root h x part=some L):decide (yl 32 (gI x.bytes)=yl 32 x.leaf)=true:=by
 simp_all[lY]
theorem aPJ (a:lY root h x part=some L):wS root h part x.bytes=some L:=by
 simp_all[lY]
theorem aPI (a:lY root h x part=some L):L.length<=x.bytes.length:=by
 have:=(aNl (aPJ a)).2.2;omega
theorem aKE (a:wB root h rows i=some l):∃ y,lY root h (rows.getD i qH) (2+i)=some y∧oM y=(l,0):=by
 unfold wB at a;cases c:lY root h (rows.getD i qH) (2+i) with
 | none=>simp_all
 | some y =>
  grind
end
theorem Tk.got {a:α} {s:Rd'} {bad:Bool} {k:List Y->Option α} (h:Tk (some a) s bad k):s.bad=0∧some a=k s.rest:=by
 simp_all[Tk]
theorem Tk.put {a:α} {r:List Y} {k:List Y->Option α} (h:k r=some a):Tk (some a) ⟨r,0⟩ false k:=.inl ⟨rfl,rfl,h.symm⟩
def kkT (b:List Y):Nat:=(eC (b.drop (b.length-8)) 8).toNat
def aCN (b:List Y):List Y:=(b.drop 30).take (b.length-38)
theorem aZP {b:List Y} (h:38<=b.length):(aCN b).length=b.length-38:=by grind[aCN]
structure BegR (root:Nat→Y) (m:Meta) (b:List Y) (rows:List RowT) (ix:List Y):Prop where
 take:nM b=(eG m,0)
 size:(b.length:Int)=m.size
 long:38≤b.length
 kk:kkT b≤b.length-38
 eix:ix=(aCN b).drop (b.length-38-kkT b)
 opn:∃ y,wS root (eG m) 0 ix=some y∧(fD fun n r=>if 0<n then iB (n+1) [] ((aCN b).take (b.length-38-kkT b)) r else none) y=some rows
 root:(yl 32 (fP (rows.map (·.leaf)++[gI ix]))).map (fun y=>((y.toNat:Nat):Int))=(List.range 32).map m.root
theorem aJO {root:Nat->Y} {b:List Y} {rows:List RowT} {ix:List Y} (h:sL root m b=some (rows,ix)):BegR root m b rows ix:=by
 unfold sL at h;split at h
 ·rename_i c;obtain ⟨l,k,j,i,g⟩:=c;simp only at h;cases e:wS root (eG m) 0 (((b.drop 30).take (b.length-38)).drop (b.length-38-(eC (b.drop (b.length-8)) 8).toNat)) with
  | none=>simp_all
  | some y =>
   rw [e,qw] at h;cases a:(fD fun n r=>if 0<n then iB (n+1) [] (((b.drop 30).take (b.length-38)).take (b.length-38-(eC (b.drop (b.length-8)) 8).toNat)) r else none) y with
   | none=>simp_all
   | some rs =>
    rw [a,qw] at h;split at h
    ·rename_i f;simp only [Option.some.injEq,Prod.mk.injEq] at h;obtain ⟨rfl,rfl⟩:=h;exact ⟨Prod.ext j l,k,i,g,rfl,⟨y,e,a⟩,f⟩
    grind
 grind
theorem aZe (a:m.wf) {d:Dg} (h:(yl 32 d).map (fun y=>((y.toNat:Nat):Int))=(List.range 32).map m.root):yl 32 d=yl 32 (fun i=>BitVec.ofInt 8 (m.root i)):=by
 have e:∀ i,i<32->d i=qh 8 (m.root i):=fun i c=>by
  have:=congrArg (fun z=>z[i]?) h;grind[yl]
 exact aEr e
theorem aZc (a:m.wf):(m.cells.drop 8).take 32=ba 32 (fun i=>BitVec.ofInt 8 (m.root i)):=by
 have e:m.cells=[.int .u8 m.level,.int .u64 m.gen,.int .u64 m.epoch,.int .u64 m.number,.int .i64 m.size,.int .i64 m.count,.string m.min,.string m.max]++(qe 32).map fun i=>.int .u8 (m.root i):=rfl;rw [e];show ((qe 32).map fun i=>Value.int .u8 (m.root i)).take 32=_;rw [qz (by simp)];unfold ba;refine List.map_congr_left fun i c=>?_;have:=a.root i (by simp_all);show Value.int .u8 (m.root i)=.int .u8 ((qh 8 (m.root i)).toNat:Int);grind[zm]
section
variable {rows acc:List RowT} {rest r:List Y} {n k:Nat}
theorem aZl {a:α} {f:List Y->Nat->Dg->List Y->Option α} (h:xA false f r=some a):Tk (some a) ⟨r,0⟩ false (uX 1024 fun bd=>fD fun size=>oL lT 32 fun xs=>f bd size (fun i=>xs.getD i 0)):=Tk.put h
theorem aZj {a:α} {f:List Y->Nat->Dg->List Y->Option α} (h:xA true f r=some a):Tk (some a) ⟨r,0⟩ false (fD fun size=>oL lT 32 fun xs=>f [] size (fun i=>xs.getD i 0)):=Tk.put h
theorem aHP (h:iB (n+1) acc rest r=some rows):xA (n == 0) (fun bd size d r=>if size<=rest.length then iB n (acc++[⟨bd,rest.take size,d⟩]) (rest.drop size) r else none) r=some rows:=h
theorem aZn {s:Rd'} {bad:Bool} {size:Nat} {bd:List Y} {d:Dg} (h:Tk (some rows) s bad (fun r=>if size<=rest.length then iB n (acc++[⟨bd,rest.take size,d⟩]) (rest.drop size) r else none)) :
  s.bad=0∧size<=rest.length∧iB n (acc++[⟨bd,rest.take size,d⟩]) (rest.drop size) s.rest=some rows:=by
 simp_all[Tk]
theorem aNT (h:iB 0 acc rest r=some rows):r=[]∧rest=[]∧acc=rows:=by
 simp_all[iB]
end
structure AllB (G:PM) (ps:List (RowT×Sh)):Prop where
 each:∀ p∈ps,SlR G 1 aK p.2 p.1.bytes
 sm:∀ p∈ps,p.1.bytes.length≤1000000
theorem AllB.mono {G e:PM} {c:List (RowT×Sh)} (h:AllB G c) (a:PM.le G e):AllB e c:=⟨fun p f=>(h.each p f).mono a,h.sm⟩
theorem AllB.nil {G:PM}:AllB G []:=⟨fun p a=>(by cases a),fun p a=>(by cases a)⟩
theorem AllB.snoc {G:PM} {c:List (RowT×Sh)} {p:RowT×Sh} (h:AllB G c) (e:SlR G 1 aK p.2 p.1.bytes) (f:p.1.bytes.length<=1000000):AllB G (c++[p]) :=
 ⟨fun q a=>by
  rcases qv.1 a with a | a
  ·exact h.each q a
  simp_all,fun q a=>by
  rcases qv.1 a with a | a
  ·exact h.sm q a
  simp_all⟩
theorem aRf {a b:Int} {h:Hd} (e:a=b) (c:38<=a):(((a == b)&&((0:Int) == 0))&&decide (h=h)&&decide (a>=38))=true:=by simp_all
theorem aRg {rows:List RowT} {n:Nat} {A r:List Y} (h:some rows=if 0<n then iB (n+1) [] A r else none):0<n∧iB (n+1) [] A r=some rows:=by
 simp_all
section
variable {rows acc:List RowT} {A R:List Y} {n k:Nat}
def aHN (n:Nat) (acc:List RowT) (A:List Y) (bd:List Y) (size:Nat) (d:Dg) (r:List Y):Option (List RowT):=if size<=A.length then iB n (acc++[⟨bd,A.take size,d⟩]) (A.drop size) r else none
theorem aRh (h:iB (n+1-k) acc A R=some rows) (c:k<n):Tk (some rows) ⟨R,0⟩ false (uX 1024 fun bd=>fD fun size=>oL lT 32 fun xs=>aHN (n-k) acc A bd size (fun i=>xs.getD i 0)):=by
 rw [show n+1-k=(n-k)+1 by omega] at h;have a:=aHP h;rw [show (n-k == 0)=false from beq_eq_false_iff_ne.2 om] at a;exact aZl a
theorem aRe (h:iB (n+1-k) acc A R=some rows) (e:¬ k<n) (c:k<=n):Tk (some rows) ⟨R,0⟩ false (fD fun size=>oL lT 32 fun xs=>aHN (n-k) acc A [] size (fun i=>xs.getD i 0)):=by
 rw [show n+1-k=(n-k)+1 by omega] at h;have a:=aHP h;rw [show (n-k == 0)=true from beq_iff_eq.2 om] at a;exact aZj a
theorem aJP {s:Rd'} {size:Nat} {bd a:List Y} {f:Nat->Y} (c:∀ i,f i=a.getD i 0) (h:Tk (some rows) s false (aHN (n-k) acc A bd size (fun i=>a.getD i 0))) :
  s.bad=0∧size<=A.length∧iB (n+1-(k+1)) (acc++[⟨bd,A.take size,f⟩]) (A.drop size) s.rest=some rows:=by
 have:=aZn h;rw [show n+1-(k+1)=n-k by omega,show f=fun i=>a.getD i 0 from funext c];omega
end
theorem aJW {L a:List Y} {e c:Int} {y:Y} (h:lF ⟨L,e⟩=(y,⟨a,c⟩)):a.length<=L.length∧(c=0->e=0∧a.length+1<=L.length):=by
 unfold lF at h;grind
def zA (bd:List Y) (v:Value) (f:Nat->Y):List Value:=[.string (aV bd),v]++ba 32 f
theorem aAo {bd:List Y} {f:Nat->Y}:(zA bd v f).length=34:=by rfl
theorem aNf {bd:List Y} {f:Nat->Y}:((zA bd v f).drop 2).take 32=ba 32 f:=by
 rfl
theorem aNg {bd:List Y} {f:Nat->Y} {m:Nat} {z:Y} (hm:m=2+k):(zA bd v f).set m (V z)=zA bd v (bM f k z):=by
 subst hm;unfold zA;rw [ke _ _ (by simp),show 2+k-([Value.string (aV bd),v]:List Value).length=0+(k:Int).toNat*1 by simp,mU k om]
theorem aZm {n:Nat} {j rows:List RowT} {rest r:List Y} (h:iB (n+1) j rest r=some rows):∃ g c d e,iB n (j++[⟨g,rest.take c,d⟩]) (rest.drop c) e=some rows:=by
 have p:∀ {k:Type} {a:k} {last:Bool} {f:List Y->Nat->Dg->List Y->Option k} {r:List Y},xA last f r=some a->∃ g c d e,f g c d e=some a:=by
  intro k a last f r h;have q:∀ {g:List Y} {r:List Y},(fD fun c=>oL lT 32 fun l=>f g c (fun i=>l.getD i 0)) r=some a->∃ g c d e,f g c d e=some a:=by
   intro g r h;obtain ⟨c,t,_,_,h⟩:=wQ h;have v:∀ (m:Nat) (K:List Y->List Y->Option k) (r:List Y),oL lT m K r=some a->∃ l e,K l e=some a:=by
    intro m;induction m with
    | zero=>intro K r h; exact ⟨[],r,h⟩
    | succ m ih =>
     intro K r h;obtain ⟨x,e,_,h⟩:=aR2 h;grind
   grind
  unfold xA at h;cases last with
  | true=>exact q h
  | false =>
   simp only [jg,if_false] at h;obtain ⟨g,e,_,_,h⟩:=bBA h;exact q h
 obtain ⟨g,c,d,e,w⟩:=p (aHP h);grind
theorem aNS:∀ {n:Nat} {acc rows:List RowT} {rest r:List Y},iB n acc rest r=some rows->rows.length=acc.length+n
 | 0,acc,rows,rest,r,h=>by grind[aNT]
 | n+1,acc,rows,rest,r,h=>by
  obtain ⟨bd,size,d,r',h2⟩:=aZm h;have:=aNS h2;rw [this,qa]; simp; omega
theorem aRY {root:Nat->Y} {b:List Y} {rows:List RowT} {ix:List Y} (h:sL root m b=some (rows,ix)):2<=rows.length:=by
 obtain ⟨y,_,a⟩:=(aJO h).opn;obtain ⟨n,r,_,_,a⟩:=wQ a;split at a
 ·have:=aNS a;omega
 ·cases a
theorem aMh (every:Nat) (l:List Ent):∀ k,k<=(gD every l k).length
 | 0=>Nat.zero_le _
 | k+1=>by
  have:=aMh every l k;have a:=aGv (lK (rA l k) (dM (l.getD k Ent.zero)) (k%every == 0));unfold gD qX;simp only [qa]; omega
theorem aZM {y:List Y} {l:List Ent} (h:oM y=(l,0)):l.length<=y.length:=by
 unfold oM at h;split at h
 ·rename_i g c;simp only [Prod.mk.injEq,and_true] at h;subst h;obtain ⟨a,r,_,_,c⟩:=wQ c;obtain ⟨n,e,_,_,c⟩:=wQ c;split at c
  ·cases f:jR n [] [] e with
   | none=>simp_all
   | some l2 =>
    rw [f,qw] at c;grind[gY,iF,aMh]
  ·cases c
 simp_all
theorem aQ3 {root:Nat->Y} {b:List Y} {l:List Ent} (h:sK root m b=some l) :
  ∃ rows ix f,sL root m b=some (rows,ix)∧lY root (eG m) (rows.getD (rows.length-1) qH) 1=some f∧nY root (eG m) rows (rows.length-1) 0 []=some l∧(cR l=true∧(l.length:Int)=m.count∧(l=[]∨oG l=m.min∧jV l=m.max)):=by
 unfold sK at h;cases c:sL root m b with
 | none=>simp_all
 | some p =>
  obtain ⟨rows,ix⟩:=p;rw [c,qw] at h;simp only at h;cases a:lY root (eG m) (rows.getD (rows.length-1) qH) 1 with
  | none=>simp_all
  | some f =>
   rw [a,qw] at h;cases e:nY root (eG m) rows (rows.length-1) 0 [] with
   | none=>simp_all
   | some l2 =>
    grind
theorem aQt {root:Nat->Y} {hd:Hd} {rows:List RowT} {l a:List Ent} {n:Nat} (f:j<n) (h:nY root hd rows (n-j) j a=some l):∃ x,wB root hd rows j=some x∧nY root hd rows (n-(j+1)) (j+1) (a++x)=some l:=by
 obtain ⟨m,c⟩ : ∃ m,n-j=m+1:=⟨n-j-1,om⟩;rw [c,nY] at h;cases e:wB root hd rows j with
 | none=>simp_all
 | some x =>
  grind
theorem aQs {root:Nat->Y} {hd:Hd} {rows:List RowT} {l a:List Ent} {n:Nat} (c:n<=k) (h:nY root hd rows (n-k) k a=some l):a=l:=by
 simp_all[nY]
theorem aUA {l:List Ent}:∀ u∈l.flatMap Ent.cells,u.oneCell'=true:=fun u a=>by
 grind[Ent.one]
theorem aQz {l:List Ent} (h:cR l=true∧(l.length:Int)=m.count∧(l=[]∨oG l=m.min∧jV l=m.max)) :
  (cR l&&((l.length:Int) == m.count)&&(((l.length:Int) == 0)||(((l.getD 0 Ent.zero).user.toList == m.min.toList)&&((l.getD (l.length-1) Ent.zero).user.toList == m.max.toList))))=true:=by
 obtain ⟨e,c,a⟩:=h;rw [e,c];rcases a with rfl | ⟨a,f⟩
 ·simp_all
 simp_all[oG,jV]
theorem aVE {t:Tab} (o:t.Ok):t.info.wf:=by
 have f:=o.bytes_le;have c:=o.light;have a:∀ i,(t.ents.getD i Ent.zero).user.size<=50000:=fun i=>by
  by_cases h:i<t.ents.length
  ·have:=zH h; have:=c.2; omega
  rw [xx,List.getElem?_eq_none om]; decide
 have k:=a 0;have g:=a (t.ents.length-1);have p:=t.h.level.isLt; have n:=t.h.gen.isLt; have m:=t.h.epoch.isLt; have l:=t.h.num.isLt;have b1:=c.1;refine ⟨⟨?_,?_⟩,⟨?_,?_⟩,⟨?_,?_⟩,?_,?_,⟨?_,?_⟩,⟨?_,?_⟩,⟨?_,?_⟩,fun j e=>?_⟩;all_goals first
  | (show (oG t.ents).size<=_; grind[oG])
  | (show (jV t.ents).size<=_; grind[jV])
  |skip
 all_goals simp only [Tab.info]
 all_goals first
  |omega
  | (have:=(fP t.leaves j).isLt; omega)
section
variable {root:Nat→Y} {h:Hd} {l:List Ent} {blk every bits er:Int} {L:List Y} {m:Meta}
theorem aOh (a:qR root h l blk every bits L m er) (f:lightE l) (j:er=0) :
  m.wf∧L.length<=1000000∧sK root m L=some l∧m.size=(L.length:Int)∧m.count=(l.length:Int):=by
 rcases a with a | ⟨c,rfl,rfl,_⟩
 ·omega
 ·have g:=aGE (root:=root) (bits:=bits) c f;have i:(dA root h l blk every bits).ents=l:=pS _ _;have e:=aQ2 g;rw [i] at e;exact ⟨aVE g.ok,g.ok.bytes_le,e,rfl,by grind[Tab.info]⟩
end
theorem aF0 {nm:ByteArray}:∀ {F:List Fi} {f:Fi},aM nm F=some f->aM nm (dQ nm F)=some { f with safe:=f.n }
 | [],_,h=>by cases h
 | g :: r,f,h=>by
  rw [aM] at h; rw [dQ];by_cases q:g.nm=nm
  ·simp_all[aM]
  ·rw [if_neg q] at h; rw [if_neg q,aM,if_neg q]; exact aF0 h
theorem aAJ {nm a:ByteArray} (c:a≠nm):∀ {F:List Fi},aM a (dQ nm F)=aM a F
 | []=>rfl
 | g :: r=>by
  rw [dQ];by_cases q:g.nm=nm
  ·rw [if_pos q,aM,aM,if_neg (show ¬ g.nm=a from fun e=>c (by simp_all)),if_neg (show ¬ g.nm=a from fun e=>c (by simp_all))]
  ·rw [if_neg q,aM,aM,aAJ c]
theorem aDd {nm:ByteArray} {f:Fi} (a:f.nm≠nm):∀ {F:List Fi},aM nm (F++[f])=aM nm F
 | []=>by simp_all[aM]
 | g :: r=>by
  rw [List.cons_append,aM,aM];by_cases q:g.nm=nm
  ·rw [if_pos q,if_pos q]
  ·rw [if_neg q,if_neg q]; exact aDd a
def fX (d:Db) (lv:Nat) (n:BitVec 64):Hd:=⟨2#8,qh 8 (lv:Int),qh 64 (d.s.gens lv),d.ep,n⟩
theorem tM {n:Nat} (a:k=1∨k=2∨k=3) (h:n<18446744073709551616):eN (nG k n):=by
 have c:=aFf h;rcases a with rfl|rfl|rfl
 ·rw [← nG1 rfl,eN,fS,qa,iI];rw [bZ]; show (fV n).length+4≠0∧(fV n).length+4<=100; omega
 ·rw [← nG2 rfl,eN,fS,qa,iI];rw [bZ]; show (fV n).length+4≠0∧(fV n).length+4<=100; omega
 ·rw [← nG3 rfl,eN,fS,qa,iI];rw [bZ]; show 9+(fV n).length≠0∧9+(fV n).length<=100; omega
structure TabsR (G:PM) (d:Db) (lv:Nat) (n:BitVec 64) (ls:List (List Ent)) (ms:List Meta) (F F':List Fi) (clk:Nat) (sz:Nat):Prop where
 len:ms.length=ls.length
 tab:∀ i l m,ls[i]? = some l→ms[i]? = some m→∃ L f,qR d.root (fX d lv (n+BitVec.ofNat 64 i)) l d.o.block d.o.every d.o.bits L m 0∧aM (nG 2 (n.toNat+i)) F'=some f∧f.n=L.length∧f.safe=f.n∧SlR G 1 aK f.h L
 old:∀ nm,(∀ i,i<ls.length→nm≠nG 2 (n.toNat+i))→aM nm F'=aM nm F
 dk:DkR F' (clk+ls.length)
 cnt:F'.length=F.length+ls.length
 size:aZ F'=aZ F+sz
 fil:∀ f∈F',(∃ g∈F,f.h=g.h∧f.n=g.n)∨∃ xs:List Y,SlR G 1 aK f.h xs∧f.n=xs.length
theorem aKs {nm:ByteArray}:∀ {F:List Fi} {f:Fi},f∈dQ nm F->∃ g∈F,f.h=g.h∧f.n=g.n
 | [],_,h=>by cases h
 | g :: r,f,h=>by
  rw [dQ] at h;split at h
  ·grind
  ·rcases List.mem_cons.1 h with rfl | h
   ·simp
   ·obtain ⟨g',h1,h2⟩:=aKs h; exact ⟨g',qo _ h1,h2⟩
theorem TabsR.nil {G:PM} {d:Db} {a:Nat} {n:BitVec 64} {F:List Fi} {clk:Nat} (e:DkR F clk):TabsR G d a n [] [] F F clk 0 :=
 ⟨rfl,fun i l m h=>by simp,fun _ _=>rfl,e,rfl,rfl,fun f c=>.inl ⟨f,c,rfl,rfl⟩⟩
theorem TabsR.mono {G j:PM} {d:Db} {g:Nat} {n:BitVec 64} {ls:List (List Ent)} {ms:List Meta} {F k:List Fi} {clk sz:Nat} (h:TabsR G d g n ls ms F k clk sz) (a:PM.le G j):TabsR j d g n ls ms F k clk sz :=
 ⟨h.len,fun i l m e c=>by obtain ⟨L,f,x,w,v,t,r⟩:=h.tab i l m e c; exact ⟨L,f,x,w,v,t,r.mono a⟩,h.old,h.dk,h.cnt,h.size,fun f q=>(h.fil f q).imp id fun ⟨p,e,c⟩=>⟨p,e.mono a,c⟩⟩
theorem TabsR.snoc {G:PM} {d:Db} {x:Nat} {n:BitVec 64} {ls:List (List Ent)} {ms:List Meta} {F q:List Fi} {clk sz:Nat} {l:List Ent} {L:List Y} {h:Sh} (p:TabsR G d x n ls ms F q clk sz) (J:k=ls.length) (Q:n.toNat+k<18446744073709551616) (O:qR d.root (fX d x (n+BitVec.ofNat 64 k)) l d.o.block d.o.every d.o.bits L m 0) (I:SlR G 1 aK h L) (v:aM (nG 2 (n.toNat+k)) q=none) (K:eN (nG 2 (n.toNat+k))) (H:aZ q+L.length<=1000000000) (N:q.length<100000) :
  TabsR G d x n (ls++[l]) (ms++[m]) F (dQ (nG 2 (n.toNat+k)) (q++[⟨nG 2 (n.toNat+k),h,L.length,0,clk+k⟩])) clk (sz+L.length):=by
 subst J;have A:aM (nG 2 (n.toNat+ls.length)) (q++[⟨nG 2 (n.toNat+ls.length),h,L.length,0,clk+ls.length⟩])=some ⟨nG 2 (n.toNat+ls.length),h,L.length,0,clk+ls.length⟩:=aBg v rfl;refine ⟨by rw [qa,qa,p.len]; rfl,fun i E D j w=>?_,fun nm r=>?_,?_,?_,?_,?_⟩
 ·by_cases C:i=ls.length
  ·subst C;rw [jr (qd _),jp] at j;rw [jr (by rw [p.len]; omega),p.len,jp] at w;cases j; cases w;exact ⟨L,_,O,aF0 A,rfl,rfl,I⟩
  have y:i<ls.length:=by
   grind
  rw [yh y] at j;rw [yh (by rw [p.len]; omega)] at w;obtain ⟨L1,X,a1,a2,a3,a4,Z⟩:=p.tab i E D j w;grind[yP,aAJ,aDd]
 ·have t:nm≠nG 2 (n.toNat+ls.length):=r _ (by simp);rw [aAJ t,aDd (fun e=>t e.symm)];exact p.old nm fun i C=>r i (by grind)
 ·rw [qa,xd,←yi];exact (p.dk.app rfl H v K.2 N).sy
 ·have j:=congrArg wm (aAM (nm:=nG 2 (n.toNat+ls.length)) (F:=q++[⟨nG 2 (n.toNat+ls.length),h,L.length,0,clk+ls.length⟩]));simp only [qm] at j;rw [j,qa,qa,p.cnt,xd,xd]; omega
 ·rw [yB.1,aAu,p.size]; grind[aZ]
 intro f M;obtain ⟨g,j,w,S⟩:=aKs M;rcases qv.1 j with j | j
 ·rcases p.fil g j with ⟨T,a,b,c⟩ | ⟨P,a,b⟩
  ·grind
  grind
 grind
theorem aAf {n:BitVec 64} (h:n.toNat+k<18446744073709551616):(n+BitVec.ofNat 64 k).toNat=n.toNat+k:=by
 simp_all
theorem aS9 (d:Db):d = { d with next:=d.next+BitVec.ofNat 64 0 }:=by
 simp
theorem aXt {n:BitVec 64}:n+BitVec.ofNat 64 k+1#64=n+BitVec.ofNat 64 (k+1):=by
 rw [BitVec.add_assoc,BitVec.ofNat_add]
theorem aKQ {root:Nat->Y} {h:Hd} {l:List Ent} {blk every bits a:Int} {L:List Y} (e:qR root h l blk every bits L m a) (c:¬ oC h l blk every):a=0:=by
 grind[qR]
theorem sF (d:Db) {o:Nat} (h:k<5) (a:o=51+k):d.cells[o]? = some (.int .u64 (d.s.gens k)):=by
 subst a;match k,h with
 | 0,_=>rfl
 | 1,_=>rfl
 | 2,_=>rfl
 | 3,_=>rfl
 | 4,_=>rfl
theorem aAx {l:List α} {x:α} (h:l[k]? = some x):l.take (k+1)=l.take k++[x]:=by simp_all[wg]
def kT (bnd:List Ent->Nat):List (List Ent)->Nat
 | []=>0
 | l :: r=>bnd l+kT bnd r
theorem aHk {bnd:List Ent->Nat} {a b:List (List Ent)}:kT bnd (a++b)=kT bnd a+kT bnd b:=by
 induction a<;>grind[kT]
theorem bBL {bnd:List Ent->Nat} {ls:List (List Ent)} {l:List Ent} (h:ls[k]? = some l):kT bnd (ls.take k)+bnd l<=kT bnd ls:=by
 have a:kT bnd (ls.take (k+1))+kT bnd (ls.drop (k+1))=kT bnd ls:=by grind[aHk,qx]
 rw [aAx h,aHk] at a;grind[kT]
theorem aGc {a:List Pe} {p:Pe} (h:a[k]? = some p):(aU a)[k]? = some p.2:=by simp_all
theorem aAW {a:List Pe} (h:k<=a.length):((aU a).take k).length=k:=by simp_all
theorem mG {d:Db} {a:Nat} {n:BitVec 64} (h:a<5) (c:u64 (d.s.gens a)):(fX d a n).cells=[.int .u8 2,.int .u8 (a:Int),.int .u64 (d.s.gens a),uv .u64 d.ep,uv .u64 n]:=by
 rw [uvI c];match a,h with
 | 0,_=>rfl
 | 1,_=>rfl
 | 2,_=>rfl
 | 3,_=>rfl
 | 4,_=>rfl
section
variable {mc:Md} {P:Program} {n:Fm} {l:List Oper} {K:aG→PM→aB→Prop} {m:Nat} {listed:Array Bool} {ρ:aG} {G:PM} {μ:aB}
theorem Wp.b4 (j e c a:Nat) (i:cT l listed=[j,e,c,a]) (h:Wo true mc P n l (fun ρ' G' μ'=>Wp mc P n l K m (listed.setIfInBounds j true) ρ' G' μ') [j] ρ G μ)
  (h2:Wo true mc P n l (fun ρ' G' μ'=>Wp mc P n l K m (listed.setIfInBounds e true) ρ' G' μ') [e] ρ G μ) (h3:Wo true mc P n l (fun ρ' G' μ'=>Wp mc P n l K m (listed.setIfInBounds c true) ρ' G' μ') [c] ρ G μ)
  (k:Wo true mc P n l (fun ρ' G' μ'=>Wp mc P n l K m (listed.setIfInBounds a true) ρ' G' μ') [a] ρ G μ):Wp mc P n l K (m+1) listed ρ G μ :=
 .inr (.inl ⟨by simp_all,fun g f=>by
  grind⟩)
end
def vV (l:List Ent):Nat:=2*cC l+150*l.length+170
theorem aHu {root:Nat->Y} {h:Hd} {l:List Ent} {blk every bits:Int} {L:List Y} (c:qR root h l blk every bits L m 0) (a:lightE l):0<L.length∧L.length<=vV l:=by
 rcases c with c | ⟨f,rfl,rfl,_⟩
 ·omega
 ·have g:=aGE (root:=root) (bits:=bits) f a;have e:(dA root h l blk every bits).cs.flatten=l:=pS blk l;generalize (dA root h l blk every bits)=t at g e ⊢;have k:=g.ok.out_le _ (qd _);have j:=g.ok.rows_le _ (qd _);rw [qy,e] at k j;have y:=g.ok.cs_le;have x:=aFS t.users;have w:t.users.length=l.length:=by simp_all[Tab.users,Tab.ents]
  have i:=aEN t.bits;have v:(jE t.users).length*fY t.bits<=l.length*64:=Nat.mul_le_mul om i.2;have r:t.filt.length<=8*l.length+25:=by grind[Tab.filt,aAq,aGf]
  have q:=iR (n:=t.cs.length) om;have p:=iR (n:=t.filt.length) (by have:=a.1; omega);grind[Tab.idx,jY,bY,Tab.bytes,Tab.sidx,vV,aAq,kI]
def iN:List Int->List Fi->List Fi
 | [],F=>F
 | x :: r,F=>iN r (eE (nG 2 x.toNat) F)
theorem aKU:∀ {xs:List Int} {x:Int} {F:List Fi},iN (xs++[x]) F=eE (nG 2 x.toNat) (iN xs F)
 | [],_,_=>rfl
 | y :: r,x,F=>by rw [List.cons_append,iN,iN]; exact aKU
theorem aKV {xs:List Int} {x:Int} {F:List Fi} (h:xs[k]? = some x):iN (xs.take (k+1)) F=eE (nG 2 x.toNat) (iN (xs.take k) F):=by rw [aAx h,aKU]
theorem aAI {nm a:ByteArray} (c:a≠nm):∀ {F:List Fi},aM a (eE nm F)=aM a F
 | []=>rfl
 | g :: r=>by
  rw [eE];by_cases q:g.nm=nm
  ·rw [if_pos q,aM,if_neg (show ¬ g.nm=a from fun e=>c (by simp_all))]
  ·rw [if_neg q,aM,aM,aAI c]
theorem aFz {nm:ByteArray}:∀ {xs:List Int} {F:List Fi},(∀ y∈xs,nm≠nG 2 y.toNat)->aM nm (iN xs F)=aM nm F
 | [],_,_=>rfl
 | x :: r,F,h=>by rw [iN,aFz fun y hy=>h y (List.mem_cons_of_mem _ hy),aAI (h x (List.mem_cons_self ..))]
theorem aFw {nm:ByteArray}:∀ {F:List Fi},aZ (eE nm F)<=aZ F
 | []=>Nat.le_refl _
 | g :: r=>by
  rw [eE];split
  ·simp only [aZ]; omega
  ·have:=aFw (nm:=nm) (F:=r); simp only [aZ]; omega
theorem aFx:∀ {xs:List Int} {F:List Fi},aZ (iN xs F)<=aZ F∧(iN xs F).length<=F.length
 | [],_=>⟨Nat.le_refl _,Nat.le_refl _⟩
 | x :: r,F=>by
  have h:=aFx (xs:=r) (F:=eE (nG 2 x.toNat) F);have c:=aFw (nm:=nG 2 x.toNat) (F:=F);have a:=(xZ (nm:=nG 2 x.toNat) (F:=F)).2;exact ⟨by rw [iN]; omega,by rw [iN]; omega⟩
def wO (m:Meta):Int:=m.number
def yE (g:Gone):Int:=g.number
theorem aDc {nm:ByteArray}:∀ {F:List Fi} {f:Fi},aM nm F=some f->f∈F
 | [],_,h=>by cases h
 | g :: r,f,h=>by
  rw [aM] at h;split at h
  ·cases h; exact List.mem_cons_self ..
  ·exact List.mem_cons_of_mem _ (aDc h)
theorem aKb {F:List Fi} {f:Fi} (h:f∈F):f.n<=aZ F:=by
 induction F with
 | nil=>cases h
 | cons g r ih =>
  simp only [aZ];grind
theorem FilesR.dels {G:PM}:∀ {xs:List Int} {F:List Fi},FilesR G F->FilesR G (iN xs F)
 | [],_,h=>h
 | _ :: r,_,h=>FilesR.dels (xs:=r) h.del
theorem aKq {nm:ByteArray} {h:Sh} {n safe:Nat}:∀ {F:List Fi} {f:Fi},f∈kJ nm h n safe F->(f.h=h∧f.n=n)∨f∈F
 | [],_,hf=>.inr hf
 | g :: r,f,hf=>by
  rw [kJ] at hf;split at hf
  ·grind
  ·rcases List.mem_cons.1 hf with rfl | hf
   ·simp
   ·rcases aKq hf with h1 | h1
    ·exact .inl h1
    ·exact .inr (List.mem_cons_of_mem _ h1)
theorem FilesR.app {G:PM} {nm:ByteArray} {h:Sh} {n safe clk:Nat} {F:List Fi} {xs:List Y} (hF:FilesR G F) (e:SlR G 1 aK h xs) (g:n=xs.length):FilesR G (jS nm h n safe clk F):=fun f c=>by
 unfold jS at c;split at c
 ·rcases aKq c with ⟨a,i⟩ | a
  ·grind
  ·exact hF f a
 ·rcases qv.1 c with a | a
  ·exact hF f a
  grind
theorem aDb {nm:ByteArray}:∀ {F:List Fi},aM nm F=none->eE nm F=F
 | [],_=>rfl
 | g :: r,h=>by
  rw [aM] at h;rw [eE];split at h
  ·cases h
  ·rename_i q; rw [if_neg q,aDb h]
theorem DkR.delY {F:List Fi} {clk:Nat} {nm:ByteArray} (h:DkR F clk):DkR (eE nm F) clk:=by
 cases e:aM nm F with
 | none=>simp_all[aDb]
 | some f=>exact h.del e
theorem DkR.dels {clk:Nat}:∀ {xs:List Int} {F:List Fi},DkR F clk->DkR (iN xs F) clk
 | [],_,h=>h
 | _ :: r,_,h=>DkR.dels (xs:=r) h.delY
theorem aGA {nm:ByteArray}:∀ {F:List Fi},(dQ nm F).length=F.length∧aZ (dQ nm F)=aZ F
 | []=>⟨rfl,rfl⟩
 | g :: r=>by
  have h:=aGA (nm:=nm) (F:=r);rw [dQ];split
  ·trivial
  simp_all[aZ]
theorem aUI {nm a:ByteArray} {F:List Fi}:(aM a (dQ nm F)).isSome=(aM a F).isSome:=by
 by_cases h:a=nm
 ·subst h;cases e:aM a F with
  | none =>
   have:∀ {F:List Fi},aM a F=none->aM a (dQ a F)=none:=by
    intro F;induction F with
    | nil=>intro h; exact h
    | cons g r ih =>
     intro h;rw [aM] at h;split at h
     ·cases h
     simp_all[dQ,aM]
   simp_all
  | some f=>simp[*,aF0]
 grind[aAJ]
theorem aKX {nm:ByteArray} {h:Sh} {n safe:Nat}:∀ {F:List Fi} {f:Fi},aM nm F=some f->∃ f',aM nm (kJ nm h n safe F)=some f'∧f'.h=h∧f'.n=n
 | [],_,e=>by cases e
 | g :: r,f,e=>by
  rw [aM] at e; rw [kJ];by_cases q:g.nm=nm
  ·simp_all[aM]
  ·rw [if_neg q] at e; rw [if_neg q,aM,if_neg q]; exact aKX e
theorem aKY {nm a:ByteArray} {h:Sh} {n safe:Nat} (c:a≠nm):∀ {F:List Fi},aM a (kJ nm h n safe F)=aM a F
 | []=>rfl
 | g :: r=>by
  rw [kJ];by_cases q:g.nm=nm
  ·rw [if_pos q,aM,aM,if_neg (show ¬ g.nm=a from fun e=>c (by simp_all)),if_neg (fun e=>c (Eq.symm e))]
  ·rw [if_neg q,aM,aM,aKY c]
theorem aBh {nm a:ByteArray} {h:Sh} {n safe clk:Nat} {F:List Fi} (c:a≠nm):aM a (jS nm h n safe clk F)=aM a F:=by
 grind[jS,aKY,aDd]
theorem aUG {nm:ByteArray} {h:Sh} {n safe clk:Nat} {F:List Fi}:∃ f',aM nm (jS nm h n safe clk F)=some f'∧f'.h=h∧f'.n=n:=by
 unfold jS;split
 ·rename_i q; obtain ⟨f,a⟩:=yr.1 q; exact aKX a
 simp_all[aBg]
theorem TabsR.files {G:PM} {d:Db} {c:Nat} {n:BitVec 64} {ls:List (List Ent)} {ms:List Meta} {F a:List Fi} {clk sz:Nat} (h:TabsR G d c n ls ms F a clk sz) (hF:FilesR G F):FilesR G a:=fun f e=>by
 rcases h.fil f e with ⟨g,i,k,j⟩ | i
 ·simp_all[FilesR]
 omega
def sH (nm:ByteArray):Prop:=∀ n,nm≠nG 2 n
structure Stp (F F':List Fi) (D:List Int) (ad nw:Nat):Prop where
 tab:∀ n,(∀ x∈D,n≠x.toNat)→aM (nG 2 n) F'=aM (nG 2 n) F
 gone:∀ n,aM (nG 2 n) F=none→aM (nG 2 n) F'=none
 oth:∀ nm,sH nm→(aM nm F).isSome=true→(aM nm F').isSome=true
 size:aZ F'≤aZ F+ad
 cnt:F'.length≤F.length+nw
theorem Stp.refl {F:List Fi}:Stp F F [] 0 0:=⟨fun _ _=>rfl,fun _ h=>h,fun _ _ h=>h,qd _,qd _⟩
theorem Stp.trans {F l i:List Fi} {D m:List Int} {a b:Nat} (h:Stp F l D a k) (e:Stp l i m b j):Stp F i (D++m) (a+b) (k+j) :=
 ⟨fun n c=>by rw [e.tab n fun x f=>c x (yf _ f),h.tab n fun x f=>c x (xa _ f)],fun n c=>e.gone n (h.gone n c),fun g c p=>e.oth g c (h.oth g c p),by have:=h.size; have:=e.size; omega,by have:=h.cnt; have:=e.cnt; omega⟩
theorem Stp.same {F c:List Fi} {D:List Int} {a:Nat} (h:Stp F c D a k) (e:c.length=F.length):Stp F c D a 0:=⟨h.tab,h.gone,h.oth,h.size,om⟩
theorem Stp.wk {F c:List Fi} {D:List Int} {a b:Nat} (h:Stp F c D a k) (f:a<=b) (e:k<=j):Stp F c D b j:=⟨h.tab,h.gone,h.oth,by have:=h.size; omega,by have:=h.cnt; omega⟩
theorem Stp.sy {F:List Fi} {nm:ByteArray} (c:sH nm):Stp F (dQ nm F) [] 0 0 :=
 ⟨fun n _=>aAJ fun e=>c n e.symm,fun n h=>by grind[aAJ,sH],fun a _ h=>by simp_all[aUI],by simp[aGA],by simp[aGA]⟩
theorem Stp.dels {xs:List Int} {F:List Fi}:Stp F (iN xs F) xs 0 0 :=
 ⟨fun n a=>aFz fun y c e=>a y c (yP e),fun n h=>by
  induction xs generalizing F<;>grind[iN,aDb,aAI],fun f a h=>by simp_all[aFz,sH],aFx.1,aFx.2⟩
theorem aTP (m:Nat):∀ {n:Nat} {a:List Y},n+(6-a.length)<=m->(∀ y∈a,y.toNat<=57)->∀ y∈lN n a,y.toNat<=57:=by
 induction m with
 | zero=>grind[xR]
 | succ m ih =>
  intro n a h e;by_cases c:0<n∨a.length<6
  ·have f:n / 10+(6-(qb 8 (48+n%10) :: a).length)<=m:=by
    grind
   rw [xS c];grind
  grind
theorem aJ1 {n:Nat}:∀ y∈fV n,y.toNat<=57:=aTP _ (qd _) (fun y h=>absurd h qj)
theorem aPW:yb ⟨#[46,108,111,103]⟩=[46#8,108#8,111#8,103#8]:=by kernel_rfl
theorem aPY:yb ⟨#[46,116,97,98]⟩=[46#8,116#8,97#8,98#8]:=by kernel_rfl
theorem aPX:yb ⟨#[109,97,110,105,102,101,115,116,45]⟩=[109#8,97#8,110#8,105#8,102#8,101#8,115#8,116#8,45#8]:=by kernel_rfl
theorem nC {a:Nat}:sH (nG 1 a):=fun b h=>by
 rw [← nG1 rfl,←nG2 rfl] at h;have c:=congrArg List.reverse (xP h);simp_all[aPW,aPY]
theorem qA {a:Nat}:sH (nG 3 a):=fun b h=>by
 rw [← nG3 rfl,←nG2 rfl] at h;have h1:=xP h;rw [iI,iI,aPX,aPY] at h1;cases hd:fV b with
 | nil=>simp_all
 | cons y r =>
  rw [hd] at h1;have h3:(109#8:Y)=y:=Option.some.inj (congrArg (fun l:List Y=>l.head?) h1);have f:=aJ1 (n:=b) y (by simp_all);grind
theorem aXL {a b:Nat}:nG 3 a≠nG 1 b:=fun h=>by
 rw [← nG3 rfl,←nG1 rfl] at h;have h1:=xP h;rw [iI,iI,aPX,aPW] at h1;cases hd:fV b with
 | nil=>simp_all
 | cons y r =>
  rw [hd] at h1;have h3:(109#8:Y)=y:=Option.some.inj (congrArg (fun l:List Y=>l.head?) h1);have f:=aJ1 (n:=b) y (by simp_all);grind
theorem aZK {e:Int} {o:Option Fi} (h:e=0∧o.isSome=true∨e=2∧o=none) (c:(e != 0)=true):e=2∧o=none:=by
 simp_all
theorem aZJ {e:Int} {o:Option Fi} (h:e=0∧o.isSome=true∨e=2∧o=none) (c:(e != 0)=false):∃ f,o=some f:=by
 simp_all[yr]
theorem aEd {nm:ByteArray} {F a:List Fi} {clk:Nat} {G:PM} (c:sH nm) (h:a=F∨a=dQ nm F) (e:DkR F clk) (hF:FilesR G F):DkR a clk∧FilesR G a∧Stp F a [] 0 0:=by
 rcases h with rfl|rfl
 ·simp_all[Stp.refl]
 ·exact ⟨e.sy,hF.sy,Stp.sy c⟩
instance qoG {g:Gone}:QOne g.cells:=⟨qC rfl rfl⟩
instance qlG {g:Gone}:QLen g.cells 2:=⟨rfl⟩
def Nub (l:List Meta):Prop:=l.Pairwise fun a b=>a.number≠b.number
theorem Nub.perm {l c:List Meta} (h:Nub l) (e:l.Perm c):Nub c:=e.pairwise h fun a=>Ne.symm a
theorem Nub.same {l:List Meta} (h:Nub l) {a b:Meta} (f:a∈l) (c:b∈l) (e:a.number=b.number):a=b:=by
 induction l<;>grind[yd,Nub]
theorem aNI {s:State} (f:RightP s) {i:Nat} (h:i<5):Nub (s.lv i):=by
 have e:Nub (dI s 5):=by
  refine yj.2 fun a b j g c=>?_;have:=f.apart b a g c;grind
 have sub:∀ n,i<n->(s.lv i).Sublist (dI s n):=by
  intro n;induction n<;>grind[dI]
 grind[Nub]
theorem bBo {l:List Meta} (a:k<l.length):l.Perm (l.getD k Meta.zero :: (l.take k++l.drop (k+1))):=by
 grind[yq,qx,xj]
theorem aU7 {p:Meta->Bool} {l:List Meta} (h:¬ eK p l<0):p (l.getD (eK p l).toNat Meta.zero)=true:=by
 grind[eK,xu]
theorem aTd {L a:cP} (h:gS g L=some a):g.level<5∧∃ m,m.number=g.number∧(L g.level.toNat).Perm (m :: a g.level.toNat)∧∀ i,i≠g.level.toNat->a i=L i:=by
 unfold gS at h;split at h
 ·rename_i f;split at h
  ·cases h
  rename_i c;simp only [Option.some.injEq] at h;subst h;refine ⟨f,(L g.level.toNat).getD (eK (iO g) (L g.level.toNat)).toNat Meta.zero,?_,?_,fun i e=>aEj e⟩
  ·exact beq_iff_eq.1 (aU7 c)
  grind[aHz,bBo,qZ]
 grind
theorem aFl:∀ {gs:List Gone} {L L':cP},dJ gS gs L=some L'->∃ ps:List (Gone×Meta),ps.map (·.1)=gs∧(∀ p∈ps,p.2.number=p.1.number∧p.1.level<5)∧∀ i,(L i).Perm ((ps.filter (fun p=>p.1.level.toNat == i)).map (·.2)++L' i)
 | [],L,L',h=>by
  simp_all[dJ]
 | g :: gs,L,L',h=>by
  simp only [dJ] at h;cases hf:gS g L with
  | none=>simp_all
  | some L1 =>
   rw [hf] at h;obtain ⟨ps,h1,h2,h3⟩:=aFl (L:=L1) h;obtain ⟨j,m,f,a,e⟩:=aTd hf;refine ⟨(g,m) :: ps,by grind,fun p a=>?_,fun i=>?_⟩
   ·grind
   by_cases c:i=g.level.toNat
   ·subst c;rw [List.filter_cons_of_pos (by simp),wr,ww];exact a.trans ((h3 _).cons _)
   grind
theorem aXj {s:State} (c:RightP s):Nub (dI s 5):=by
 rw [Nub,yj];intro i j f e a;have:=c.apart j i e a;grind
theorem aVy {s:State} (k:RightP s) {y:List Gone} {L:cP} (h:dJ gS y s.lv=some L) {i:Nat} (n:i<5) (hm:m∈L i):m∈s.lv i∧∀ g∈y,g.number≠m.number:=by
 obtain ⟨A,G,F,r⟩:=aFl h;have c:m∈s.lv i:=(r i).mem_iff.2 (yf _ hm);refine ⟨c,fun g x E=>?_⟩;rw [← G] at x;obtain ⟨p,t,rfl⟩:=qi.1 x;obtain ⟨a,b⟩:=F p t;have j:p.2∈(A.filter (fun q=>q.1.level.toNat == p.1.level.toNat)).map (·.2):=qi.2 ⟨p,yz.2 ⟨t,by simp⟩,rfl⟩;have w:p.1.level.toNat<5:=by omega
 have f:p.2∈s.lv p.1.level.toNat:=(r _).mem_iff.2 (xa _ j);have e:=(aXj k).same (aGk.2 ⟨_,w,f⟩) (aGk.2 ⟨_,n,c⟩) (a.trans E);have D:=((k.lv _ w).1 _ f).1;have C:=((k.lv _ n).1 _ c).1;rw [e,C] at D;have l:i=p.1.level.toNat:=by omega
 have v:=(aNI k n).perm (r i);rw [l] at v hm;have:=(ye.1 v).2.2 _ j _ hm;omega
theorem AppR.is {s X:State} {e:Edit} (h:AppR s e X 0):RightP s∧RightP X∧e.add.length<=1024∧e.drop.length<=1024∧X.next=e.next∧X.log=e.log∧X.seq=e.seq∧X.least=e.least∧X.gens=e.gens∧∃ f,dJ gS e.drop s.lv=some f∧∀ i,i<5->(X.lv i).Perm (f i++e.add.filter (aBM i)):=by
 rcases h with ⟨_,h,_⟩ | ⟨_,_,h,_⟩ | ⟨j,_,p,k,a⟩
 ·cases h
 ·cases h
 obtain ⟨c,g,f,q,n,m,rfl⟩:=aBL k;unfold tO at c;simp only [qq,Bool.not_eq_true',decide_eq_true_eq] at c;refine ⟨oN j,a.symm.right' (oN g),om,om,a.next,a.log,a.seq,a.least,a.gens,f,n,fun i l=>?_⟩;rw [a.lv i l,←aBJ m i]; exact aHe _
theorem AppR.tabs {s X:State} {e:Edit} (h:AppR s e X 0) {i:Nat} (c:i<5) (hm:m∈X.lv i):(m∈e.add)∨(m∈s.lv i∧∀ g∈e.drop,g.number≠m.number):=by
 obtain ⟨a,_,_,_,_,_,_,_,_,k,j,f⟩:=h.is;grind[aVy]
structure TabI (G:PM) (root:Nat→Y) (F:List Fi) (hist:List Ent) (m:Meta):Prop where
 ex:∃ l L f,lightE l∧cR l=true∧(∀ e∈l,e∈hist)∧sK root m L=some l∧aM (nG 2 m.number.toNat) F=some f∧f.n=L.length∧SlR G 1 aK f.h L∧L.length≤1000000
 wf:m.wf
theorem TabI.mono {G n:PM} {root:Nat->Y} {F:List Fi} {hist:List Ent} {m:Meta} (h:TabI G root F hist m) (i:PM.le G n):TabI n root F hist m:=by
 obtain ⟨l,L,f,a,b,c,d,e,g,k,j⟩:=h.ex;exact ⟨⟨l,L,f,a,b,c,d,e,g,k.mono i,j⟩,h.wf⟩
theorem TabI.more {G:PM} {root:Nat->Y} {F:List Fi} {hist new:List Ent} (h:TabI G root F hist m):TabI G root F (hist++new) m:=by
 obtain ⟨l,L,f,a,b,c,d⟩:=h.ex;exact ⟨⟨l,L,f,a,b,fun e g=>xa _ (c e g),d⟩,h.wf⟩
theorem TabI.stp {G:PM} {root:Nat->Y} {F i:List Fi} {D:List Int} {p nw:Nat} {hist:List Ent} (h:TabI G root F hist m) (n:Stp F i D p nw) (r:∀ x∈D,u64 x->x≠m.number) (k:∀ x∈D,u64 x):TabI G root i hist m:=by
 obtain ⟨l,L,f,a,b,c,d,e,g⟩:=h.ex;refine ⟨⟨l,L,f,a,b,c,d,?_,g⟩,h.wf⟩;rw [n.tab _ fun x j q=>?_]
 ·exact e
 have v:=(k x j).1;have t:=h.wf.number.1;grind
def TabsI (G:PM) (root:Nat->Y) (F:List Fi) (hist:List Ent) (s:State):Prop:=∀ i,i<5->∀ m∈s.lv i,TabI G root F hist m
theorem TabsI.mono {G c:PM} {root:Nat->Y} {F:List Fi} {hist:List Ent} {s:State} (h:TabsI G root F hist s) (a:PM.le G c):TabsI c root F hist s:=fun i f m e=>(h i f m e).mono a
theorem TabsI.more {G:PM} {root:Nat->Y} {F:List Fi} {hist new:List Ent} {s:State} (h:TabsI G root F hist s):TabsI G root F (hist++new) s:=fun i c m a=>(h i c m a).more
theorem aBS {a b:List Ent}:eJ (a++b)=eJ a+eJ b:=by grind[eJ,aOR]
theorem aSP {a:List Ent} (h:a≠[]):0<eJ a:=by
 grind[eJ,xi]
structure CutI (M:Nat) (A:List Ent) (Rs:List (List Ent)) (s:StS):Prop where
 flat:s.out.flatten=A
 nil:s.has=false→s.D=[]
 ne:∀ p∈s.out,p≠[]
 few:s.has=true→M*s.out.length+eJ s.C≤2*eJ A+M∧M≤s.room+eJ s.C
 wt:∀ p∈s.out,eJ p≤M∨p∈Rs
 last:s.has=true→eJ s.C+s.room≤M∨s.room=0
theorem CutI.step {M most:Nat} {A P:List Ent} {Rs:List (List Ent)} {s:StS} (h:CutI M A Rs s) (hM:M=max most 1) (k:P≠[]) (m:P∈Rs):CutI M (A++P) Rs (lH most s P):=by
 have a:=aSP k;unfold lH;rw [← hM];by_cases c:s.has=false∨s.room<eJ P
 ·rw [if_pos c];have e:(⟨s.out,true,P,M-min M (eJ P)⟩ : StS).out=s.out++[P]:=rfl;refine ⟨by rw [e,List.flatten_append,h.flat]; simp,(fun q=>by cases q),fun p a=>?_,fun _=>⟨?_,by grind⟩,fun p a=>?_,fun _=>?_⟩
  ·rw [e] at a;rcases qv.1 a with a | a
   ·exact h.ne p a
   simp_all
  ·rw [e,qa,xd,aBS,Nat.mul_add,Nat.mul_one];show M*s.out.length+M+eJ P<=_;by_cases f:s.has=true
   ·have i:=h.few f;grind
   have j:s.has=false:=by simp_all
   have:s.out=[]:=by unfold StS.out; rw [h.nil j,j]; rfl
   grind
  ·rw [e] at a;rcases qv.1 a with a | a
   ·exact h.wt p a
   simp_all
  grind
 rw [if_neg c];have f:s.has=true:=by simp_all
 have l:eJ P<=s.room:=Nat.le_of_not_lt fun q=>c (.inr q);have e:(⟨s.D,true,s.C++P,s.room-min s.room (eJ P)⟩ : StS).out=s.D++[s.C++P]:=rfl;have es:s.out=s.D++[s.C]:=by simp_all[StS.out]
 have i:=h.few f;rw [es] at i;rw [qa,xd] at i;refine ⟨by rw [e,←h.flat,es]; simp,(fun q=>by cases q),fun p a=>?_,fun _=>⟨?_,?_⟩,fun p a=>?_,fun _=>?_⟩
 ·rw [e] at a;rcases qv.1 a with a | a
  ·exact h.ne p (by simp_all)
  simp_all
 ·grind[aBS]
 ·grind[aBS]
 ·rw [e] at a;rcases qv.1 a with a | a
  ·exact h.wt p (by simp_all)
  rw [qf.1 a,aBS];rcases h.last f with g | g
  ·omega
  omega
 show eJ (s.C++P)+(s.room-min s.room (eJ P))<=M∨s.room-min s.room (eJ P)=0;rw [aBS];rcases h.last f with g | g<;>omega
theorem CutI.fold {M most:Nat} {Rs:List (List Ent)} (hM:M=max most 1):∀ {Ps:List (List Ent)} {A:List Ent} {s:StS},CutI M A Rs s->(∀ P∈Ps,P≠[]∧P∈Rs)->CutI M (A++Ps.flatten) Rs (Ps.foldl (lH most) s)
 | [],A,s,h,_=>by simpa using h
 | P :: Ps,A,s,h,hP=>by
  have h1:=h.step hM (hP P (ql ..)).1 (hP P (ql ..)).2;have c:=CutI.fold hM h1 fun Q a=>hP Q (qo _ a);rw [List.foldl_cons,jf,←qk]; exact c
theorem aNX:∀ {f:Nat} {l:List Ent},l.length<=f->(gK f l).flatten=l∧∀ P∈gK f l,P≠[]
 | 0,l,h=>by
  simp_all[gK]
 | f+1,l,h=>by
  by_cases c:l=[]
  ·simp_all[gK]
  have h1:=aAg (xi.2 c);have g:=aNX (f:=f) (l:=l.drop (fI l)) (by grind);rw [gK,if_neg c];refine ⟨by simp_all,fun P a=>?_⟩;rcases qg.1 a with rfl | a
  ·intro e;simp_all
  simp_all
theorem bAn (most:Nat) (l:List Ent):CutI (max most 1) l (gK l.length l) ((gK l.length l).foldl (lH most) ⟨[],false,[],0⟩):=by
 have g:CutI (max most 1) [] (gK l.length l) ⟨[],false,[],0⟩:=⟨rfl,fun _=>rfl,(fun p a=>absurd a qj),(fun q=>by cases q),(fun p a=>absurd a qj),(fun q=>by cases q)⟩;have e:=aNX (f:=l.length) (l:=l) (qd _);have:=g.fold rfl (Ps:=gK l.length l) fun P c=>⟨e.2 P c,c⟩;simp_all
theorem aN1 (most:Nat) (l:List Ent) (hm:0<most):(lG most l).flatten=l∧(∀ p∈lG most l,p≠[]∧(eJ p<=most∨p∈gK l.length l))∧most*(lG most l).length<=2*eJ l+most:=by
 have e:max most 1=most:=by omega
 have h:=bAn most l;rw [e] at h;refine ⟨h.flat,fun p c=>⟨h.ne p c,h.wt p c⟩,?_⟩;show most*((gK l.length l).foldl (lH most) ⟨[],false,[],0⟩).out.length<=_;cases a:((gK l.length l).foldl (lH most) ⟨[],false,[],0⟩).has with
 | true=>have:=(h.few a).1; omega
 | false=>unfold StS.out; rw [h.nil a,a]; simp
def OneU (l:List Ent):Prop:=l.Pairwise fun a b=>lt a.user b.user=true
theorem aGQ {f:Nat} {last:Bool} {l:List Ent} {x:Ent} (h:x∈kY f last l):x∈l:=aBx.subset h
theorem aLN:∀ {f:Nat} {last:Bool} {l:List Ent},SrE l->OneU (kY f last l)
 | 0,_,_,_=>List.Pairwise.nil
 | f+1,last,l,h=>by
  rw [kY];by_cases c:l=[]
  ·rw [if_pos c]; exact List.Pairwise.nil
  rw [if_neg c];have hl:=xi.2 c;have hd:SrE (l.drop (fI l)):=List.Pairwise.sublist (kn _ _) h;refine ye.2 ⟨?_,aLN hd,fun a A b p=>?_⟩
  ·grind[tB,List.Pairwise.nil]
  have j:a=bU l:=by simp_all[tB]
  subst j;have g:=aGQ p;have k:0<=cZ (gT (bU l)) l:=by
   grind[aGy]
  have v:=aGx k;obtain ⟨y,t,m⟩ : ∃ y,l[fI l]? = some y∧gT (bU l) y=true:=by
   grind[cZ,xu]
  have x:=aDl hl;have w:=aAg hl;have C:dH (bU l) y=true:=by
   grind[yj,SrE]
  have n:¬ (bU l).user=y.user:=fun e=>by simp_all[gT]
  have r:lt (bU l).user y.user=true:=by
   simp_all[zR]
  have i:l.drop (fI l)=y :: l.drop (fI l+1):=by
   grind[yq]
  rw [i] at g hd;rcases qg.1 g with rfl | g
  ·exact r
  rcases zR.1 ((yd.1 hd).1 _ g) with q | q
  ·grind[aAX]
  simp_all
theorem aLM {last:Bool} {l:List Ent} (h:cR l=true):OneU (mY last l):=aLN (SrE.of h)
theorem OneU.nodup {l:List Ent} (h:OneU l):l.Nodup:=h.imp fun {a b} h e=>by simp_all[yJ]
theorem OneU.run:∀ {f:Nat} {l:List Ent},OneU l->∀ P∈gK f l,P.length<=1
 | 0,_,_,P,hP=>absurd hP List.not_mem_nil
 | f+1,l,h,P,hP=>by
  rw [gK] at hP;by_cases c:l=[]
  ·simp_all
  ·rw [if_neg c] at hP;rcases List.mem_cons.1 hP with rfl | hP
   ·rw [List.length_take];have h1:fI l<=1:=by
     rcases ya 1 l.length with q | q
     ·have e:fI l=1:=aMX (k:=1) (aLS) (.inr ⟨l[1],wi q,by
       grind[yj,gT,bU,aC9,yJ,OneU]⟩)
      omega
     grind[aMW]
    omega
   ·exact OneU.run (List.Pairwise.sublist (kn _ _) h) P hP
theorem aOF {f:Ent->Nat}:∀ {l h:List Ent},l.Nodup->(∀ x∈l,x∈h)->(l.map f).sum<=(h.map f).sum
 | [],_,_,_=>by simp
 | x :: l,h,hn,hs=>by
  obtain ⟨s,t,rfl⟩:=List.append_of_mem (hs x (ql ..));rw [wy] at hn;have c:=aOF (f:=f) (h:=s++t) hn.2 fun y a=>by
   grind
  grind
theorem aPT:∀ {l:List Ent},cC l=(l.map fun e=>e.user.size+e.value.size).sum
 | []=>rfl
 | e :: r=>by rw [cC,aPT]; simp
theorem aOS:∀ {l:List Ent},lI l=cC l
 | []=>rfl
 | e :: r=>by rw [lI,cC,aOS]
theorem aLa:∀ {l:List Ent},l.length=(l.map fun _=>1).sum
 | []=>rfl
 | e :: r=>by rw [List.length_cons,aLa (l:=r)]; simp; omega
theorem aOD {l h:List Ent} (c:l.Nodup) (a:∀ x∈l,x∈h):l.length<=h.length∧cC l<=cC h:=by
 simp_all[aLa,aPT,aOF]
theorem aGV {root:Nat->Y} {h:Hd} {n:BitVec 64} {p L:List Y} (a:(L,(0:Int))=mZ root h n p):0<L.length∧L.length<=135*((p.length+143) / 128)∧p.length<=4194304:=by
 unfold mZ at a;split at a
 ·rename_i f;obtain ⟨e,_⟩:=Prod.mk.inj a;have c:(kR (fN root (bG h)) (fO root (bG h)) (jA n) (bG h) p).length=p.length+16:=by rw [uY]
  generalize kR (fN root (bG h)) (fO root (bG h)) (jA n) (bG h) p=S at e c;have g:aHI S=rM S ((S.length+127) / 128):=rfl;have:=aG6 S ((S.length+127) / 128);rw [e,g,c];rw [c] at this;refine ⟨?_,this,f⟩;obtain ⟨j,i⟩ : ∃ j,(p.length+16+127) / 128=j+1:=⟨(p.length+16+127) / 128-1,om⟩;grind[rM]
 cases a
theorem LayR.code {root:Nat->Y} {h:Hd} {n a:BitVec 64} {s:State} {e:Edit} {L:List Y} {X:State} {r:Int} (f:LayR root h n a s e L X r) (j:fE s=true):(r=0∧AppR s e X 0∧(L,(0:Int))=mZ root h n (aET a X e))∨r=180∨r=4:=by
 obtain ⟨q,i,l,c⟩:=f;rcases c with ⟨p,_,_,rfl⟩ | ⟨rfl,t,g,k,c⟩
 ·simp_all[AppR]
 ·rcases c with ⟨m,_,_,rfl⟩ | ⟨rfl,rfl,rfl,rfl⟩
  ·grind[mZ]
  simp_all
theorem aKr {nm:ByteArray} {h:Sh} {n safe:Nat}:∀ {F:List Fi} {f:Fi},aM nm F=some f->aZ (kJ nm h n safe F)+f.n=aZ F+n
 | [],_,e=>by cases e
 | g :: r,f,e=>by
  rw [aM] at e; rw [kJ];by_cases q:g.nm=nm
  ·rw [if_pos q] at e; cases e;rw [if_pos q]; grind[aZ]
  ·rw [if_neg q] at e; rw [if_neg q];have:=aKr (h:=h) (n:=n) (safe:=safe) e;simp only [aZ]; omega
theorem aKp {nm:ByteArray} {h:Sh} {n safe:Nat} {F:List Fi}:(kJ nm h n safe F).length=F.length:=aLo (aF8 (nm:=nm) (h:=h) (n:=n) (safe:=safe) (F:=F)).1
theorem aRH {nm:ByteArray} {h:Sh} {safe clk:Nat} {F:List Fi} {t:Fi} {G:PM} {a xs:List Y} (x:sH nm) (I:eN nm) (C:DkR F clk) (hF:FilesR G F) (m:(aM nm F).getD Fi.z=t) (y:t.n=a.length) (E:SlR G 1 aK h (a++xs)) (H:k=xs.length) (L:aZ F+k<=400000000) (K:F.length<100000) :
  DkR (jS nm h (a.length+xs.length) safe clk F) (sN nm clk F)∧clk<=sN nm clk F∧sN nm clk F<=clk+1∧FilesR G (jS nm h (a.length+xs.length) safe clk F)∧Stp F (jS nm h (a.length+xs.length) safe clk F) [] k 1∧(aM nm (jS nm h (a.length+xs.length) safe clk F)).isSome=true∧((aM nm F).isSome=true->sN nm clk F=clk∧(jS nm h (a.length+xs.length) safe clk F).length=F.length):=by
 subst H;have J:a.length<=aZ F:=by
  cases e:aM nm F with
  | none=>rw [e] at m; rw [← y,←m]; exact qr _
  | some f=>rw [e] at m; have:f=t:=m; subst this; rw [← y]; exact aKb (aDc e)
 have j:FilesR G (jS nm h (a.length+xs.length) safe clk F):=hF.app E (qa).symm;have M:=aUG (nm:=nm) (h:=h) (n:=a.length+xs.length) (safe:=safe) (clk:=clk) (F:=F);have r:(aM nm (jS nm h (a.length+xs.length) safe clk F)).isSome=true:=by grind
 have i:∀ g,(aM g F).isSome=true->(aM g (jS nm h (a.length+xs.length) safe clk F)).isSome=true:=fun g l=>by
  by_cases q:g=nm
  ·simp_all
  simp_all[aBh]
 by_cases c:(aM nm F).isSome=true
 ·have w:sN nm clk F=clk:=if_pos c;have v:jS nm h (a.length+xs.length) safe clk F=kJ nm h (a.length+xs.length) safe F:=if_pos c;obtain ⟨f,A⟩:=yr.1 c;have D:=aKr (h:=h) (n:=a.length+xs.length) (safe:=safe) A;have:f=t:=by simp_all
  subst this;refine ⟨?_,om,om,j,⟨fun n _=>aBh fun e=>x n e.symm,fun n l=>by grind[aBh],fun g _ l=>i g l,?_,?_⟩,r,fun _=>⟨w,by rw [v,aKp]⟩⟩
  ·rw [v,w]; exact C.put om
  ·grind
  simp_all[aKp]
 have w:sN nm clk F=clk+1:=if_neg c;have v:jS nm h (a.length+xs.length) safe clk F=F++[⟨nm,h,a.length+xs.length,0,clk⟩]:=if_neg c;have p:aM nm F=none:=by simp_all
 have N:a.length=0:=by rw [p] at m; rw [← y,←m]; rfl
 refine ⟨?_,om,om,j,⟨fun n _=>aBh fun e=>x n e.symm,fun n l=>by rw [aBh fun e=>x n e.symm]; exact l,fun g _ l=>i g l,?_,?_⟩,r,fun q=>absurd q c⟩
 ·rw [v,w]; exact C.app rfl (by grind) p I.2 K
 ·simp_all[aAu,aZ]
 simp_all
theorem aBb {e:Edit} (h:e.wf) {q:BitVec 64}:Edit.wf { e with least:=(q.toNat:Int) } :=
 ⟨h.log,h.next,h.seq,⟨Int.natCast_nonneg _,by have:=q.isLt; grind⟩,h.gens,h.add,h.drop⟩
theorem FilesR.get0 {G:PM} {F:List Fi} (h:FilesR G F) (nm:ByteArray):∃ L0:List Y,SlR G 1 aK ((aM nm F).getD Fi.z).h L0∧((aM nm F).getD Fi.z).n=L0.length∧L0.length<=aZ F:=by
 cases e:aM nm F with
 | none=>exact ⟨[],dG,rfl,qr _⟩
 | some f=>obtain ⟨c,g,a⟩:=h f (aDc e); exact ⟨c,g,a,by rw [← a]; exact aKb (aDc e)⟩
theorem StN.zero:StN State.zero:=by
 have z:u64 0:=⟨dc,dc⟩;exact ⟨z,z,z,z,fun _ _=>z⟩
theorem StL.zero:StL State.zero:=⟨dc,fun i _ m a=>absurd a qj⟩
theorem aQZ {s s':State} (h:EqS s s') (k:StN s'):StN s:=⟨h.log▸k.log,h.next▸k.next,h.seq▸k.seq,h.least▸k.least,fun i a=>by rw [h.gens]; exact k.gens i a⟩
theorem StL.right {s:State} (h:fE s=true):StL s:=by
 have e:=(oN h).few;exact ⟨om,fun i c m a=>by grind[aZV]⟩
theorem AppR.stN {s:State} {e:Edit} {X:State} {r:Int} (h:AppR s e X r) (a:e.wf):StN X:=by
 rcases h with ⟨_,_,rfl⟩ | ⟨_,_,_,rfl⟩ | ⟨_,_,Y,f,c⟩
 ·exact StN.zero
 ·exact StN.zero
 ·obtain ⟨_,_,i,g,_,_,rfl⟩:=aBL f;exact aQZ c ⟨a.log,a.next,a.seq,a.least,a.gens⟩
theorem AppR.stL {s:State} {e:Edit} {X:State} {r:Int} (h:AppR s e X r):StL X:=by
 rcases h with ⟨_,_,rfl⟩ | ⟨_,_,_,rfl⟩ | ⟨i,g,Y,f,c⟩
 ·exact StL.zero
 ·exact StL.zero
 ·obtain ⟨_,a,_⟩:=aBL f;exact StL.right (by rw [c.right]; exact a)
theorem AppR.few {s:State} {e:Edit} {X:State} (h:AppR s e X 0) (f:e.wf):e.add.length<=1000000∧e.drop.length<=1000000∧(e.add.flatMap gA).length<=900000000000:=by
 obtain ⟨_,Z,g,_⟩:=h.right;obtain ⟨c,k,j⟩:=aQr g;have i:=aLs (R:=1024) e.add fun m a=>⟨f.add m a,(c m a).2.2.1,(c m a).2.2.2⟩;omega
theorem aIF {sz:Nat} {P:Program} {G:PM} {f:FuncId} {args:Array Value} {xs:List α} (c:∀ x∈xs,(enc x).length=sz) (h:Ct P f args G [] (fun _ a u=>∃ v:Value,v.oneCell'=true∧a=[rS sz enc v E xs]∧u=v)) :
  Ct P f args G [] (fun g a u=>∃ s:Sh,SlR g sz enc s xs∧a=[]∧u=s.val xs.length):=by
 intro w j;refine (h w j).mono ?_;rintro e k ⟨v,g,a,rfl,i,l,_,rfl,rfl⟩;obtain ⟨r,s,q,p,n,m⟩:=i.frzS c;grind
structure HistI (hist:List Ent):Prop where
 ok:∀ e∈hist,cM e=true
 few:hist.length≤20000
 wt:cC hist≤20000
theorem aPR:∀ {l:List Ent} {e:Ent},e∈l->e.user.size+e.value.size<=cC l
 | x :: r,e,h=>by
  rw [cC];rcases List.mem_cons.1 h with rfl | h
  ·omega
  ·have:=aPR h; omega
theorem HistI.sm {hist:List Ent} (h:HistI hist) {l:List Ent} (a:∀ e∈l,e∈hist):smE l:=fun e c=>by
 have:=aPR (a e c);have:=h.wt;omega
structure WkI (G:PM) (d:Db) (F:List Fi) (clk:Nat) (hist:List Ent):Prop where
 dk:DkR F clk
 fil:FilesR G F
 st:StR G d.s d.hd
 right:fE d.s=true
 tabs:TabsI G d.root F hist d.s
 nx:d.s.next≤(d.next.toNat:Int)
 free:∀ n,d.next.toNat≤n→aM (nG 2 n) F=none
 gens:∀ i,i<5→d.s.gens i=0
 lk:d.lg.h.kind=1#8
 mk3:d.mn.h.kind=3#8
 lgp:0<d.lg.n.toNat→(aM (nG 1 d.lg.h.num.toNat) F).isSome=true
 mnp:(aM (nG 3 d.mn.h.num.toNat) F).isSome=true
 blk:d.o.block=50
 evy:d.o.every=4
 tbl:d.o.table=200
 nums:StN d.s
 lgl:d.lg.h.num.toNat<d.next.toNat
theorem WkI.mono {G c:PM} {d:Db} {F:List Fi} {clk:Nat} {hist:List Ent} (h:WkI G d F clk hist) (a:PM.le G c):WkI c d F clk hist :=
 ⟨h.dk,h.fil.mono a,h.st.mono a,h.right,h.tabs.mono a,h.nx,h.free,h.gens,h.lk,h.mk3,h.lgp,h.mnp,h.blk,h.evy,h.tbl,h.nums,h.lgl⟩
theorem bBc {root:Nat->Y} {h:Hd} {l:List Ent} {blk every bits:Int} {L:List Y} (a:qR root h l blk every bits L m 0) (c:m.wf):m.number=(h.num.toNat:Int):=by
 rcases a with a | ⟨e,_,rfl,_⟩
 ·omega
 rfl
theorem aGD {s:State} (h:good s m=true):m.number<s.next:=by
 simp_all[good]
theorem aTi {s:State} (l:RightP s) {j:List Gone} {L:cP} (h:dJ gS j s.lv=some L) (i:g∈j):g.number<s.next:=by
 obtain ⟨k,t,r,n⟩:=aFl h;rw [← t] at i;obtain ⟨p,f,rfl⟩:=qi.1 i;obtain ⟨a,b⟩:=r p f;have e:p.2∈(k.filter (fun q=>q.1.level.toNat == p.1.level.toNat)).map (·.2):=qi.2 ⟨p,yz.2 ⟨f,by simp⟩,rfl⟩;have m:p.1.level.toNat<5:=by omega
 have c:p.2∈s.lv p.1.level.toNat:=(n _).mem_iff.2 (xa _ e);rw [← a];exact aGD ((l.lv _ m).1 _ c).2
structure NewT (hist:List Ent) (ls:List (List Ent)):Prop where
 light:∀ l∈ls,lightE l
 rises:∀ l∈ls,cR l=true
 sub:∀ l∈ls,∀ e∈l,e∈hist
theorem TabsR.tabI {G:PM} {d:Db} {l:Nat} {n:BitVec 64} {ls:List (List Ent)} {ms:List Meta} {F t:List Fi} {clk sz:Nat} {hist:List Ent} (h:TabsR G d l n ls ms F t clk sz) (j:NewT hist ls) (y:n.toNat+ls.length<9223372036854775808) (hm:m∈ms) :
  TabI G d.root t hist m∧(n.toNat:Int)<=m.number∧m.number<(n.toNat+ls.length:Nat):=by
 obtain ⟨i,q,rfl⟩:=yo hm;have c:i<ls.length:=by rw [← h.len]; exact q
 obtain ⟨L,f,r,A,k,_,v⟩:=h.tab i ls[i] ms[i] (wi c) (wi q);have g:=ki c;obtain ⟨p,w,x,_,_⟩:=aOh r (j.light _ g) rfl;have a:=bBc r p;have e:(fX d l (n+qb 64 i)).num.toNat=n.toNat+i:=aAf om;rw [e] at a;refine ⟨⟨⟨ls[i],L,f,j.light _ g,j.rises _ g,j.sub _ g,x,?_,k,v,w⟩,p⟩,om,om⟩;grind
theorem aIq {G r:PM} {d:Db} {F C A:List Fi} {clk S lv ad nw sz:Nat} {hist:List Ent} {ls:List (List Ent)} {ms:List Meta} {e:Edit} {X:State} {t:Nat->Sh} {sf:Bool} {mn:BitVec 64} (h:WkI G d F clk hist) (I:PM.le G r) (hN:NewT hist ls) (Z:d.next.toNat+ls.length<9223372036854775808)
  (v:TabsR r d lv d.next ls ms F C clk sz) (ha:e.add=ms) (hg:e.gens=d.s.gens) (hx:e.next=((d.next+BitVec.ofNat 64 ls.length).toNat:Int)) (y:e.wf) (M:AppR d.s e X 0) (w:Stp C A (e.drop.map yE) ad nw) (hD:DkR A S) (hF:FilesR r A) (D:StR r X t) :
  WkI r { d with next:=d.next+BitVec.ofNat 64 ls.length,lg:={ d.lg with safe:=sf },mn:={ d.mn with n:=mn },s:=X,hd:=t } A S hist:=by
 have P:=oN h.right;obtain ⟨_,E,_,_,xn,_,_,_,T,L1,K,_⟩:=M.is;have N:(d.next+qb 64 ls.length).toNat=d.next.toNat+ls.length:=aAf om;have Q:∀ k,k<d.next.toNat->aM (nG 2 k) C=aM (nG 2 k) F:=fun k hk=>v.old _ fun i _ q=>by have:=yP q; omega
 have J:∀ g∈e.drop,0<=g.number∧g.number<(d.next.toNat:Int):=fun g a=>⟨(y.drop g a).number.1,by have:=aTi P K a; have:=h.nx; omega⟩;refine ⟨hD,hF,D,aAk E,fun i p m j=>?_,?_,fun k hk=>?_,fun i p=>by show X.gens i=0; rw [T,hg]; exact h.gens i p,h.lk,h.mk3,fun q=>w.oth _ nC ?_,w.oth _ qA ?_,h.blk,h.evy,h.tbl,M.stN y,by show d.lg.h.num.toNat<(d.next+qb 64 ls.length).toNat; rw [N]; exact yt h.lgl (wz _ _)⟩
 ·rcases M.tabs p j with j | ⟨j,H⟩
  ·rw [ha] at j;obtain ⟨t1,O,t3⟩:=v.tabI hN Z j;exact t1.stp w (fun x c _=>by obtain ⟨g,a,rfl⟩:=qi.1 c; have:=J g a; show g.number≠_; omega) (fun x c=>by obtain ⟨g,a,rfl⟩:=qi.1 c; exact (y.drop g a).number)
  have t1:=(h.tabs i p m j).mono I;have a0:=aGD ((P.lv i p).1 m j).2;have:=h.nx;have a7:=t1.wf.number.1;have O:TabI r d.root C hist m:=by
   obtain ⟨l,L,f,a1,a2,a3,a4,a5,a6⟩:=t1.ex;exact ⟨⟨l,L,f,a1,a2,a3,a4,by grind,a6⟩,t1.wf⟩
  exact O.stp w (fun x c _=>by obtain ⟨g,a,rfl⟩:=qi.1 c; exact H g a) (fun x c=>by obtain ⟨g,a,rfl⟩:=qi.1 c; exact (y.drop g a).number)
 ·grind
 ·have a8:d.next.toNat+ls.length<=k:=by grind
  refine w.gone k ?_;rw [v.old _ fun i p q=>by have:=yP q; omega];exact h.free k om
 ·rw [v.old _ fun i _ q=>nC _ q]; exact h.lgp q
 rw [v.old _ fun i _ q=>qA _ q]; exact h.mnp
theorem aIp {G g:PM} {d:Db} {F r p:List Fi} {clk C lv P nw sz:Nat} {hist:List Ent} {ls:List (List Ent)} {ms:List Meta} {sf:Bool} (h:WkI G d F clk hist) (c:PM.le G g) (N:NewT hist ls) (H:d.next.toNat+ls.length<9223372036854775808)
  (e:TabsR g d lv d.next ls ms F r clk sz) (n:Stp r p (ms.map wO) P nw) (O:DkR p C) (hF:FilesR g p) :
  WkI g { d with next:=d.next+BitVec.ofNat 64 ls.length,lg:={ d.lg with safe:=sf } } p C hist:=by
 have E:=oN h.right;have y:(d.next+qb 64 ls.length).toNat=d.next.toNat+ls.length:=aAf om;have A:∀ k,k<d.next.toNat->aM (nG 2 k) r=aM (nG 2 k) F:=fun k M=>e.old _ fun i _ q=>by have:=yP q; omega
 have v:∀ x∈ms.map wO,u64 x∧(d.next.toNat:Int)<=x:=fun x D=>by
  obtain ⟨m,j,rfl⟩:=qi.1 D;obtain ⟨t1,t,_⟩:=e.tabI N H j;exact ⟨t1.wf.number,t⟩
 refine ⟨O,hF,h.st.mono c,h.right,fun i w m j=>?_,?_,fun k M=>?_,h.gens,h.lk,h.mk3,fun q=>n.oth _ nC ?_,n.oth _ qA ?_,h.blk,h.evy,h.tbl,h.nums,by show d.lg.h.num.toNat<(d.next+qb 64 ls.length).toNat; rw [y]; exact yt h.lgl (wz _ _)⟩
 ·have t1:=(h.tabs i w m j).mono c;have I:=aGD ((E.lv i w).1 m j).2;have:=h.nx;have J:=t1.wf.number.1;have t:TabI g d.root r hist m:=by
   obtain ⟨l,L,f,Z,X,T,S,a5,Q⟩:=t1.ex;exact ⟨⟨l,L,f,Z,X,T,S,by grind,Q⟩,t1.wf⟩
  exact t.stp n (fun x a _=>by grind) (fun x a=>(v x a).1)
 ·have:=h.nx;grind
 ·have K:d.next.toNat+ls.length<=k:=by grind
  refine n.gone k ?_;rw [e.old _ fun i w q=>by have:=yP q; omega];exact h.free k om
 ·rw [e.old _ fun i _ q=>nC _ q]; exact h.lgp q
 rw [e.old _ fun i _ q=>qA _ q]; exact h.mnp
end Go.Tan
