/- Lemmas and contracts of functions, joined. -/
import Derived.Test.YtbdnclpopappeaaGreatDoorMb2
import Derived.Test.YtbdnclpopappeaaGreatDoorRows
import Derived.KernelRfl
set_option linter.unusedSimpArgs false
set_option linter.unusedVariables false
set_option linter.unusedSectionVars false
namespace Go.Tan
open Go.RowKit
theorem seq256 (x:BitVec 64):x*256#64=x <<< 8:=by
 apply BitVec.eq_of_toNat_eq
 rw [BitVec.toNat_mul,BitVec.toNat_shiftLeft,Nat.shiftLeft_eq]; rfl
theorem lay_val {e:Ent} {L:List Y} (h:L=fixL (e.seq*256#64+e.kind.setWidth 64) 8):bstr (yb e.user++yb (bstr L))=bstr (keyE e):=by
 rw [h,seq256,yb_bstr]; rfl
theorem r8_val {e:Ent}:((((decide ((e.user.size:Int)≤1024)&&decide ((e.seq.toNat:Int)≤72057594037927935))&&decide ((e.kind.toNat:Int)≤1))&&decide ((e.value.size:Int)≤65536))&&(((e.kind.toNat:Int) == 1)||(e.value.toList == (⟨#[]⟩ : ByteArray).toList)))=rightE e:=by
 have h0:(⟨#[]⟩ : ByteArray).toList=[]:=by rw [ByteArray.toList_eq]
 rw [h0]
 unfold rightE
 have hs:decide ((e.seq.toNat:Int)≤72057594037927935)=decide (e.seq.toNat≤72057594037927935):=decide_eq_decide.2 (by omega)
 rw [hs]
 by_cases k0:e.kind=0#8
 ·rw [if_pos k0,k0]
  cases decide ((e.user.size:Int)≤1024)<;>cases decide ((e.value.size:Int)≤65536)<;>cases decide (e.seq.toNat≤72057594037927935)<;>cases (e.value.toList == [])<;>rfl
 ·rw [if_neg k0]
  by_cases k1:e.kind=1#8
  ·rw [k1]
   cases decide ((e.user.size:Int)≤1024)<;>cases decide ((e.value.size:Int)≤65536)<;>cases decide (e.seq.toNat≤72057594037927935)<;>cases (e.value.toList == [])<;>rfl
  ·have h1:¬ e.kind.toNat=0:=fun q=>k0 (BitVec.eq_of_toNat_eq (by rw [q]; rfl))
   have h2:¬ e.kind.toNat=1:=fun q=>k1 (BitVec.eq_of_toNat_eq (by rw [q]; rfl))
   rw [decide_eq_false (p:=(e.kind.toNat:Int)≤1) (by omega),decide_eq_false k1]
   simp
theorem rri_step {l:List Ent} {k:Nat} {x y:Ent} (hk:1≤k) (h:∀ j,j+1<k→aheadE (l.getD j Ent.zero) (l.getD (j+1) Ent.zero)=true) (hx:l[k-1]? = some x) (hy:l[k]? = some y) (c:aheadE x y=true):∀ j,j+1<k+1→aheadE (l.getD j Ent.zero) (l.getD (j+1) Ent.zero)=true:=fun j hj=>by
 by_cases e:j+1=k
 ·have e2:j=k-1:=by omega
  subst e2
  rw [e,ri_at hx,ri_at hy]; exact c
 ·exact h j (by omega)
theorem rri_no {l:List Ent} {k:Nat} {x y:Ent} (hk:1≤k) (hx:l[k-1]? = some x) (hy:l[k]? = some y) (c:aheadE x y=false):risesE l=false:=by
 have hlt:k<l.length:=(List.getElem?_eq_some_iff.1 hy).1
 refine risesE_no (i:=k-1) (by omega) ?_
 rw [show k-1+1=k by omega,ri_at hx,ri_at hy]; exact c
section
variable {a b:ByteArray} {k:Nat}
theorem rsh_at (hk:k≤a.size∧k≤b.size) (hj:∀ j,j<k→(yb a).getD j 0=(yb b).getD j 0) (c:((decide ((k:Int)<(a.size:Int))&&decide ((k:Int)<(b.size:Int)))&&((((yb a).getD k 0).toNat:Int) == (((yb b).getD k 0).toNat:Int)))=false):comL (yb a) (yb b)=k:=by
 refine comL_at (by rw [yb_len]; omega) (by rw [yb_len]; omega) hj ?_
 rw [yb_len,yb_len]
 rw [Bool.and_eq_false_iff,Bool.and_eq_false_iff,decide_eq_false_iff_not,decide_eq_false_iff_not,beq_eq_false_iff_ne] at c
 rcases c with (c | c) | c
 ·exact .inl (by omega)
 ·exact .inr (.inl (by omega))
 exact .inr (.inr fun q=>c (by rw [q]))
theorem rsh_end (hk:k≤a.size∧k≤b.size) (hj:∀ j,j<k→(yb a).getD j 0=(yb b).getD j 0) (c:((decide ((k:Int)<(a.size:Int))&&decide ((k:Int)<(b.size:Int)))&&((((yb a).getD k 0).toNat:Int) == (((yb b).getD k 0).toNat:Int)))=false):tup [.int .i64 (k:Int)]=.int .i64 (comL (yb a) (yb b):Int):=by
 rw [rsh_at hk hj c]; rfl
theorem rbt_yes (hk:k≤a.size∧k≤b.size) (hj:∀ j,j<k→(yb a).getD j 0=(yb b).getD j 0) (c:((decide ((k:Int)<(a.size:Int))&&decide ((k:Int)<(b.size:Int)))&&((((yb a).getD k 0).toNat:Int) == (((yb b).getD k 0).toNat:Int)))=false)
  (h1:k<a.size∧k<b.size) (h2:((yb a).getD k 0).toNat+2≤((yb b).getD k 0).toNat):bstr (yb (bstr ((yb a).take k))++yb (bstr [(yb a).getD k 0+1#8]))=bstr (betwL (yb a) (yb b)):=by
 rw [yb_bstr,yb_bstr]
 unfold betwL
 rw [rsh_at hk hj c,if_pos]
 exact ⟨by rw [yb_len]; omega,by rw [yb_len]; omega,h2⟩
theorem rbt_no (hk:k≤a.size∧k≤b.size) (hj:∀ j,j<k→(yb a).getD j 0=(yb b).getD j 0) (c:((decide ((k:Int)<(a.size:Int))&&decide ((k:Int)<(b.size:Int)))&&((((yb a).getD k 0).toNat:Int) == (((yb b).getD k 0).toNat:Int)))=false)
  (h:¬ (k<a.size∧k<b.size∧((yb a).getD k 0).toNat+2≤((yb b).getD k 0).toNat)):a=bstr (betwL (yb a) (yb b)):=by
 unfold betwL
 rw [rsh_at hk hj c,if_neg,bstr_yb]
 rw [yb_len,yb_len]; exact h
end
theorem all_any (l:List Ent):l.any (fun e => !rightE e) = !(l.all rightE):=by
 induction l with
 | nil=>rfl
 | cons e l ih=>rw [List.any_cons,List.all_cons,ih,Bool.not_and]
theorem ru_eq {l:List Ent} {every:Int}:(decide (every<1)||decide (every > 1024) || !risesE l||l.any (fun e => !rightE e))=(decide (every<1)||decide (every > 1024) || !(l.all rightE&&risesE l)):=by
 rw [all_any]
 cases risesE l<;>cases l.all rightE<;>cases decide (every<1)<;>cases decide (every > 1024)<;>rfl
theorem all_snoc {l:List Ent} {k:Nat} {x:Ent} (h:∀ j y,j<k→l[j]? = some y→rightE y=true) (hx:l[k]? = some x) (c:rightE x=true):∀ j y,j<k+1→l[j]? = some y→rightE y=true:=fun j y hj hy=>by
 by_cases e:j=k
 ·subst e; rw [hx] at hy; cases hy; exact c
 ·exact h j y (by omega) hy
theorem all_yes {l:List Ent} {k:Nat} (h:∀ j y,j<k→l[j]? = some y→rightE y=true) (hk:l.length≤k):l.all rightE=true:=by
 rw [List.all_eq_true]
 intro e he
 obtain ⟨i,hi,rfl⟩:=List.getElem_of_mem he
 exact h i _ (by omega) (List.getElem?_eq_getElem hi)
theorem all_no {l:List Ent} {k:Nat} {x:Ent} (hx:l[k]? = some x) (c:rightE x=false):l.all rightE=false:=by
 rw [List.all_eq_false]
 exact ⟨x,List.mem_of_getElem? hx,by rw [c]; simp⟩
section
variable {last:List Y} {e:Ent} {O N1 L1 N2 L2 N3 L3 L4 L5:List Y}
theorem rd_fin {k:Nat} {anew:Bool} (hu:e.user.size≤10000000) (hv:e.value.size≤10000000) (hk:k=comB last (keyE e) anew) (n1:N1=numN (BitVec.ofInt 64 (k:Int)).toNat) (h1:L1=O++N1) (n2:N2=numN (BitVec.ofInt 64 (((bstr (keyE e)).size:Int)-(k:Int))).toNat) (h2:L2=L1++N2)
  (n3:N3=numN (BitVec.ofInt 64 (e.value.size:Int)).toNat) (h3:L3=L2++N3) (h4:L4=L3++yb (bstr ((yb (bstr (keyE e))).drop k))) (h5:L5=L4++yb e.value):L5=O++entB last anew e :=
 ad_fin hu hv hk (L1:=N1) (L2:=N1++N2) (L3:=N1++N2++N3) (by rw [List.nil_append]; exact n1) (by rw [← n2]) (by rw [← n3]) (L4:=O++(N1++N2++N3)) rfl (L5:=L4) (by rw [h4,h3,h2,h1]; simp only [List.append_assoc]) h5
end
theorem ro_zero {n l:Nat} {A B C:List Y} {x y:Int} (h1:x=n) (h2:y=l) (b1:n<18446744073709551616) (b2:l<18446744073709551616) (e1:A=numN (BitVec.ofInt 64 x).toNat) (e2:B=numN (BitVec.ofInt 64 y).toNat) (e3:C=A++B):C=numN n++numN l:=by
 subst h1; subst h2
 rw [e3,e1,e2,numI b1,numI b2]
theorem rst_w (n:Nat):BitVec.ofInt 64 (n:Int)+1#64=BitVec.ofInt 64 ((n+1:Nat):Int):=by
 apply BitVec.eq_of_toNat_eq
 rw [BitVec.toNat_add,BitVec.ofInt_natCast,BitVec.ofInt_natCast]
 simp only [BitVec.toNat_ofNat]
 omega
theorem bu_al {n:Nat} {l:List Ent} {O P L1 F L3:List Y} {rs:Nat} (eO:O=outB n l l.length) (eP:P=plcB n l l.length) (er:rs=rstB n l.length) (h1:L1=O++P) (h2:F=fixL (BitVec.ofInt 64 (rs:Int)) 4) (h3:L3=L1++F):L3=blkL n l:=by
 rw [h3,h2,h1,eO,eP,er]; rfl
theorem buildB_nil {every:Int} (h1:1≤every) (h2:every≤1024):buildB [] every=(blkL every.toNat [],0):=by
 refine buildB_ok (fun q=>?_) (fun q=>?_)
 ·rcases q with q | q | q | ⟨e,he,_⟩
  ·omega
  ·omega
  ·rw [risesE_yes (k:=0) (by simp) (fun i hi=>absurd hi (Nat.not_lt_zero _))] at q; cases q
  cases he
 rcases q with ⟨k,hk,_⟩ | q
 ·exact absurd hk (Nat.not_lt_zero _)
 have h3:=blkL_le (every:=every.toNat) (l:=[]) (by omega) (by simp) (by simp [wtE])
 simp only [wtE,List.length_nil] at h3; omega
theorem nil_er {every er:Int} {L:List Y} (h:(L,er)=buildB [] every):(er=0∧1≤every∧every≤1024)∨(er=1∧(every<1∨1024<every)):=by
 by_cases h1:1≤every
 ·by_cases h2:every≤1024
  ·rw [buildB_nil h1 h2] at h; cases h; exact .inl ⟨rfl,h1,h2⟩
  ·rw [buildB_arg (.inr (.inl (by omega)))] at h; cases h; exact .inr ⟨rfl,.inr (by omega)⟩
 ·rw [buildB_arg (.inl (by omega))] at h; cases h; exact .inr ⟨rfl,.inl (by omega)⟩
def encW (w:W):List Value:=[U w]
def plcs (s:ByteArray) (n k:Nat):List W:=(List.range k).map (plcW s n)
theorem plcs_snoc {s:ByteArray} {n k:Nat} {h:W} (e:h=hJ s k):plcs s n k++[h%BitVec.ofInt 32 ((8*n:Nat):Int)]=plcs s n (k+1):=by
 unfold plcs
 rw [List.range_succ,List.map_append,e]; rfl
theorem plcs_len (s:ByteArray) (n k:Nat):(plcs s n k).length=k:=by simp [plcs]
theorem plcs_get {s:ByteArray} {n k j:Nat} (hj:j<k):(plcs s n k)[j]? = some (plcW s n j):=by
 unfold plcs; rw [List.getElem?_map,List.getElem?_range hj]; rfl
theorem rot_step {s:ByteArray} {k:Nat} {h d x:W} (ex:x=hashB s) (ed:d=x / 131072#32+x%131072#32*32768#32) (eh:h=hJ s k):h+d=hJ s (k+1):=by
 rw [eh,ed,rotl15,ex]; rfl
theorem nmy {L:List Y} {n:BitVec 64} (e:L=numN n.toNat):L.length≤10:=by rw [e]; exact num_len10 n.isLt
theorem zb_eq {l:List ByteArray} {bits:Int} {n:Nat} (h:n=(max 64 (l.length*perB bits)+7) / 8):List.replicate n 0#8=keysB l bits 0:=by rw [keysB_zero,h]; rfl
theorem rst_put {s:ByteArray} {M M2 L':List Y} {j:Nat} (e2:M2=setL s M j) (e:L'=M2.set (plcW s M.length j / 8#32).toNat (M2.getD (plcW s M.length j / 8#32).toNat 0 ||| 1#8 <<< (plcW s M.length j%8#32).toNat)):L'=setL s M (j+1):=by
 rw [e,e2,div8,mod8]; rfl
theorem rst_idx {s:ByteArray} {n k:Nat} (h0:0<n) (hn:n<500000000):(plcW s n k / 8#32).toNat<n:=by rw [div8]; exact plc_lt s h0 hn k
theorem bits_val {bits x y:Int} (hx:x=(perB bits:Int)) (hy:y=(prbB bits:Int)):tup [.int .i64 x,.int .i64 y]=.tuple #[.int .i64 (perB bits:Int),.int .i64 (prbB bits:Int)]:=by subst hx; subst hy; rfl
theorem bits_ab (bits:Int):(perB bits:Int)=max 1 (min bits 64)∧(prbB bits:Int)=max 1 (min (((max 1 (min bits 64)).toNat*69 / 100:Nat):Int) 30):=by unfold prbB perB; omega
structure CutS (least:Int) (l:List Ent) (outs:List (List Ent)) (now:List Ent) (n:Int) (i:Nat):Prop where
 eq:cutsE least l=outs++cutsE least (now++l.drop i)
 n:n=sumA now now.length
 lt:∀ j,j<now.length→sumA now (j+1)<least
theorem sumA_app (a b:List Ent):∀ k,k≤a.length→sumA (a++b) k=sumA a k
 | 0,_=>rfl
 | k+1,h=>by
  rw [sumA,sumA,sumA_app a b k (by omega)]
  have:(a++b).getD k Ent.zero=a.getD k Ent.zero:=by rw [List.getD_eq_getElem?_getD,List.getElem?_append_left (by omega),←List.getD_eq_getElem?_getD]
  rw [this]
theorem sumA_snoc {a:List Ent} {e:Ent}:sumA (a++[e]) (a++[e]).length=sumA a a.length+((e.user.size:Int)+e.value.size+8):=by
 rw [List.length_append,List.length_singleton,sumA,sumA_app a [e] a.length (Nat.le_refl _)]
 have:(a++[e]).getD a.length Ent.zero=e:=by rw [List.getD_eq_getElem?_getD,List.getElem?_append_right (Nat.le_refl _),Nat.sub_self]; rfl
 rw [this]
namespace CutS
variable {least n n':Int} {l now:List Ent} {outs:List (List Ent)} {i:Nat} {e:Ent}
theorem start:CutS least l [] [] 0 0:=⟨rfl,rfl,fun j h=>absurd h (Nat.not_lt_zero _)⟩
theorem dropc (h:l[i]? = some e):l.drop i=e :: l.drop (i+1):=by
 obtain ⟨hi,he⟩:=List.getElem?_eq_some_iff.1 h
 rw [List.drop_eq_getElem_cons hi,he]
theorem app (h:l[i]? = some e):now++l.drop i=(now++[e])++l.drop (i+1):=by rw [dropc h,List.append_assoc]; rfl
theorem more (h:CutS least l outs now n i) (hx:l[i]? = some e) (hn:n'=n+(e.user.size:Int)+e.value.size+8) (c:n'<least):CutS least l outs (now++[e]) n' (i+1):=by
 have e1:n'=sumA (now++[e]) (now++[e]).length:=by rw [sumA_snoc,←h.n,hn]; omega
 refine ⟨by rw [← app hx]; exact h.eq,e1,fun j hj=>?_⟩
 rw [List.length_append,List.length_singleton] at hj
 by_cases q:j=now.length
 ·subst q
  rw [List.length_append,List.length_singleton] at e1
  rw [← e1]; exact c
 rw [sumA_app now [e] (j+1) (by omega)]; exact h.lt j (by omega)
theorem cut (h:CutS least l outs now n i) (hx:l[i]? = some e) (hn:n'=n+(e.user.size:Int)+e.value.size+8) (c:least≤n'):CutS least l (outs++[now++[e]]) [] 0 (i+1):=by
 have e1:n'=sumA (now++[e]) (now++[e]).length:=by rw [sumA_snoc,←h.n,hn]; omega
 have hc:cutA least 0 ((now++[e])++l.drop (i+1))=now.length+1:=by
  refine cutA_at least _ 0 now.length (by simp only [qlA]; omega) (fun j hj=>?_) ?_
  ·rw [sumA_app (now++[e]) _ (j+1) (by simp only [qlA]; omega),sumA_app now [e] (j+1) (by omega)]
   have:=h.lt j hj; omega
  rw [sumA_app (now++[e]) _ (now.length+1) (by simp only [qlA]; omega)]
  rw [List.length_append,List.length_singleton] at e1
  omega
 have hl:(now++[e]).length=now.length+1:=by rw [List.length_append]; rfl
 refine ⟨?_,rfl,fun j h=>absurd h (Nat.not_lt_zero _)⟩
 rw [h.eq,app hx,cuts_cons (by simp),hc,←hl,List.take_left,List.drop_left,List.append_assoc]; rfl
theorem flat (h:CutS least l outs now n i):l=outs.flatten++(now++l.drop i):=by
 have:=congrArg List.flatten h.eq
 rwa [cuts_flat,List.flatten_append,cuts_flat] at this
theorem bd (h:CutS least l outs now n i) (hw:wtE l≤100000000) (hl:l.length≤100000000):0≤n∧n≤900000000∧now.length≤l.length:=by
 have e:=h.flat
 have h1:=wtE_app outs.flatten (now++l.drop i)
 have h2:=wtE_app now (l.drop i)
 rw [← e] at h1
 have h3:=congrArg List.length e
 rw [List.length_append,List.length_append] at h3
 have h4:=sumA_eq now now.length (Nat.le_refl _)
 rw [List.take_length] at h4
 rw [h.n,h4]; omega
theorem end1 (h:CutS least l outs now n i) (hi:l.length≤i) (h0:0<(now.length:Int)):cutsE least l=outs++[now]:=by
 have hne:now≠[]:=fun q=>by rw [q] at h0; simp at h0
 have hc:cutA least 0 now=now.length:=cutA_all least now 0 fun j hj=>by have:=h.lt j hj; omega
 rw [h.eq,List.drop_of_length_le hi,List.append_nil,cuts_cons hne,hc,List.take_length,List.drop_length,cuts_nil]
theorem end0 (h:CutS least l outs now n i) (hi:l.length≤i) (h0:(now.length:Int)≤0):cutsE least l=outs:=by
 have:now=[]:=List.eq_nil_of_length_eq_zero (by omega)
 rw [h.eq,List.drop_of_length_le hi,this,List.append_nil,cuts_nil,List.append_nil]
end CutS
def encS (p:Sh×List Ent):List Value:=[p.1.val p.2.length]
structure AllE (G:PM) (ps:List (Sh×List Ent)):Prop where
 all:∀ p∈ps,SlR G 4 Ent.cells p.1 p.2
theorem AllE.mono {G G':PM} {ps:List (Sh×List Ent)} (h:AllE G ps) (hle:PM.le G G'):AllE G' ps:=⟨fun p hp=>(h.all p hp).mono hle⟩
theorem AllE.nil {G:PM}:AllE G []:=⟨fun p hp=>by cases hp⟩
theorem AllE.snoc {G:PM} {ps:List (Sh×List Ent)} {s:Sh} {L:List Ent} (h:AllE G ps) (hs:SlR G 4 Ent.cells s L):AllE G (ps++[(s,L)]):=⟨fun p hp=>by
 rcases List.mem_append.1 hp with hp | hp
 ·exact h.all p hp
 ·rw [List.mem_singleton.1 hp]; exact hs⟩
theorem AllE.get {G:PM} {ps:List (Sh×List Ent)} (h:AllE G ps) {k:Nat} {p:Sh×List Ent} (hp:ps[k]? = some p):SlR G 4 Ent.cells p.1 p.2:=h.all p (List.mem_of_getElem? hp)
theorem ps_at {ps:List (Sh×List Ent)} {cs:List (List Ent)} (e:ps.map (·.2)=cs) {k:Nat} {p:Sh×List Ent} (hp:ps[k]? = some p):cs.getD k []=p.2∧k<cs.length:=by
 have h:=congrArg (fun z=>z[k]?) e
 simp only [List.getElem?_map,hp,Option.map_some] at h
 exact ⟨by rw [List.getD_eq_getElem?_getD,←h]; rfl,(List.getElem?_eq_some_iff.1 h.symm).1⟩
theorem encS_at {G:PM} {h:Sh} {ps:List (Sh×List Ent)} (s:SlR G 1 encS h ps) {j:Int} (k:Nat) {p:Sh×List Ent} (hj:j.toNat=k) (hp:ps[k]? = some p):RdP G ⟨h.b,h.o+j.toNat*1,none⟩ (p.1.val p.2.length):=by
 have:=(s.nth k hj hp) 0 _ rfl
 simpa using this
theorem us_first {l:List ByteArray} (h:0<l.length):cmpU (l.take 1)=cmpU (l.take 0)++[l.getD 0 emT]:=by
 cases l with
 | nil=>simp at h
 | cons a l=>rfl
theorem us_new {l:List Ent} {k:Nat} {x y:Ent} {U0:List ByteArray} (e:U0=cmpU ((l.take k).map (·.user))) (hx:l[k]? = some x) (hy:1≤k→l[k-1]? = some y) (c:k=0∨¬ x.user=y.user):U0++[x.user]=cmpU ((l.take (k+1)).map (·.user)):=by
 have hk:k<(l.map (·.user)).length:=by rw [List.length_map]; exact (List.getElem?_eq_some_iff.1 hx).1
 have ex:(l.map (·.user)).getD k emT=x.user:=by rw [List.getD_eq_getElem?_getD,List.getElem?_map,hx]; rfl
 rw [e,List.map_take,List.map_take]
 by_cases h0:k=0
 ·subst h0; rw [us_first hk,ex]
 ·have ey:(l.map (·.user)).getD (k-1) emT=y.user:=by rw [List.getD_eq_getElem?_getD,List.getElem?_map,hy (by omega)]; rfl
  rw [cmp_snoc (by omega) hk,ex,ey,if_neg (c.resolve_left h0)]
theorem us_old {l:List Ent} {k:Nat} {x y:Ent} {U0:List ByteArray} (e:U0=cmpU ((l.take k).map (·.user))) (hx:l[k]? = some x) (h1:1≤k) (hy:l[k-1]? = some y) (c:x.user=y.user):U0=cmpU ((l.take (k+1)).map (·.user)):=by
 have hk:k<(l.map (·.user)).length:=by rw [List.length_map]; exact (List.getElem?_eq_some_iff.1 hx).1
 have ex:(l.map (·.user)).getD k emT=x.user:=by rw [List.getD_eq_getElem?_getD,List.getElem?_map,hx]; rfl
 have ey:(l.map (·.user)).getD (k-1) emT=y.user:=by rw [List.getD_eq_getElem?_getD,List.getElem?_map,hy]; rfl
 rw [e,List.map_take,List.map_take,cmp_snoc h1 hk,ex,ey,if_pos c,List.append_nil]
theorem us_c {k:Nat} {a b:ByteArray} (c:(((k:Int) == 0)||(a.toList != b.toList))=true):k=0∨¬ a=b:=by
 rw [Bool.or_eq_true,beq_iff_eq,bne_iff_ne] at c
 rcases c with c | c
 ·exact .inl (by omega)
 ·exact .inr fun q=>c (by rw [q])
theorem us_d {k:Nat} {a b:ByteArray} (c:(((k:Int) == 0)||(a.toList != b.toList))=false):1≤k∧a=b:=by
 rw [Bool.or_eq_false_iff,beq_eq_false_iff_ne,bne_eq_false_iff_eq] at c
 exact ⟨by omega,bytes_inj c.2⟩
theorem rrow {X N L:List Y} (h:X.length<18446744073709551616) (e1:N=numN (BitVec.ofInt 64 (X.length:Int)).toNat) (e2:L=N++yl 32 (leafD X)):L=rowL X:=by
 rw [e2,e1,numI h]; rfl
section
variable {root:Nat→Y} {h:Hd} {l:List Ent} {blk every bits e:Int} {k:Nat} {x:Ent}
def TryB (h:Hd) (l:List Ent) (blk every:Int) (k:Nat) (e:Int):Prop:=(e=0∧1≤every∧every≤1024∧∀ j y,j<k→l[j]? = some y→rightE y=true)∨(¬ e=0∧badT h l blk every)
theorem TryB.start {L:List Y} (hb:(L,e)=buildB [] every):TryB h l blk every 0 e:=by
 rcases nil_er hb with ⟨h1,h2,h3⟩ | ⟨h1,h2⟩
 ·exact .inl ⟨h1,h2,h3,fun j y hj=>absurd hj (Nat.not_lt_zero _)⟩
 refine .inr ⟨by omega,?_⟩
 unfold badT
 rcases h2 with h2 | h2
 ·exact .inr (.inr (.inr (.inr (.inr (.inl h2)))))
 exact .inr (.inr (.inr (.inr (.inr (.inr (.inl h2))))))
theorem try_c {z:Int} {b:Bool} (c:((z != 0) || !b)=true):¬ z=0∨b=false:=by
 rw [Bool.or_eq_true,bne_iff_ne,Bool.not_eq_true'] at c; exact c
theorem try_d {z:Int} {b:Bool} (c:((z != 0) || !b)=false):z=0∧b=true:=by
 rw [Bool.or_eq_false_iff,bne_eq_false_iff_eq,Bool.not_eq_false'] at c; exact c
theorem TryB.ev (h0:TryB h l blk every k e) (he:e=0):1≤every∧every≤1024:=by
 rcases h0 with ⟨_,h2,h3,_⟩ | ⟨h1,_⟩
 ·exact ⟨h2,h3⟩
 ·exact absurd he h1
theorem cut_light (hl:lightE l) (hk:k<(cutsE blk l).length):lightE ((cutsE blk l).getD k []):=by
 have h1:=wt_memE (getD_memE hk)
 rw [cuts_flat] at h1
 exact ⟨by have:=hl.1; omega,by have:=hl.2; omega⟩
theorem cut_pos (hk:k<(cutsE blk l).length):0<((cutsE blk l).getD k []).length:=List.length_pos_iff.2 (cuts_ne blk l _ (getD_memE hk))
theorem rb_idx0 {t:Tab} {L:List Y} {n:Nat} (hn:n=t.cs.length) (hl:n<18446744073709551616) (e:L=numN (BitVec.ofInt 64 (n:Int)).toNat):L=numN t.cs.length++t.rows 0:=by
 rw [e,numI hl,hn]; exact (List.append_nil _).symm
theorem str_b2 {L:List Y} {s:ByteArray} (e:L=strL (yb s)) (hs:s.size≤50000):L.length≤50010:=by
 have:=num_len10 (n:=(yb s).length) (by rw [yb_len]; omega)
 rw [e,strL,List.length_append,yb_len] at *; omega
theorem TryB.step (h0:TryB h l blk every k e) (he:e=0) (hx:l[k]? = some x) (c:rightE x=true):TryB h l blk every (k+1) e:=by
 rcases h0 with ⟨h1,h2,h3,h4⟩ | ⟨h1,_⟩
 ·exact .inl ⟨h1,h2,h3,all_snoc h4 hx c⟩
 ·exact absurd he h1
theorem TryB.bad (hx:l[k]? = some x) (c:rightE x=false):TryB h l blk every (k+1) 1 :=
 .inr ⟨by decide,.inr (.inr (.inr (.inr (.inr (.inr (.inr (.inl ⟨x,List.mem_of_getElem? hx,c⟩)))))))⟩
theorem TryB.no (h0:TryB h l blk every k e) (c:¬ e=0∨risesE l=false):badT h l blk every:=by
 rcases c with c | c
 ·rcases h0 with ⟨h1,_⟩ | ⟨_,h2⟩
  ·exact absurd h1 c
  ·exact h2
 ·exact .inr (.inr (.inr (.inr (.inr (.inr (.inr (.inr c)))))))
theorem TryB.yes (h0:TryB h l blk every k e) (he:e=0) (hk:l.length≤k) (c:risesE l=true) (g1:h.kind=2#8) (g2:h.right=true) (g3:¬ l=[]) (g4:1≤blk) (g5:blk≤1048576):¬ badT h l blk every:=by
 rcases h0 with ⟨_,h2,h3,h4⟩ | ⟨h1,_⟩
 ·rintro (q | q | q | q | q | q | q | ⟨z,hz,q⟩ | q)
  ·exact q g1
  ·rw [g2] at q; cases q
  ·exact g3 q
  ·omega
  ·omega
  ·omega
  ·omega
  ·have:=List.all_eq_true.1 (all_yes h4 hk) z hz
   rw [this] at q; cases q
  ·rw [c] at q; cases q
 ·exact absurd he h1
theorem bad1 (c:((!h.right||((h.kind.toNat:Int) != 2))||((l.length:Int) == 0)||decide (blk<1)||decide (blk > 1048576))=true):badT h l blk every:=by
 refine tb_c.1 ?_
 revert c
 cases h.right<;>cases ((h.kind.toNat:Int) != 2)<;>cases ((l.length:Int) == 0)<;>cases decide (blk<1)<;>cases decide (blk > 1048576)<;>simp
theorem good1 (c:((!h.right||((h.kind.toNat:Int) != 2))||((l.length:Int) == 0)||decide (blk<1)||decide (blk > 1048576))=false):h.kind=2#8∧h.right=true∧¬ l=[]∧1≤blk∧blk≤1048576:=by
 simp only [Bool.or_eq_false_iff,Bool.not_eq_false',bne_eq_false_iff_eq,beq_eq_false_iff_ne,decide_eq_false_iff_not,gt_iff_lt] at c
 obtain ⟨⟨⟨⟨h1,h2⟩,h3⟩,h4⟩,h5⟩:=c
 exact ⟨BitVec.eq_of_toNat_eq (by show _=2; omega),h1,fun q=>h3 (by rw [q]; rfl),by omega,by omega⟩
end
section
variable {root:Nat→Y} {h:Hd} {l:List Ent} {blk every bits:Int} {k:Nat}
theorem rb_blk (g:(tabOf root h l blk every bits).Good) (he:1≤every) (hk:k<(cutsE blk l).length) {L:List Ent} (hL:(cutsE blk l).getD k []=L) {X:List Y} {er:Int} (hb:(X,er)=buildB L every):X=blkL every.toNat L∧er=0:=by
 have:=blk_built g (i:=k) hk
 have e:(tabOf root h l blk every bits).cs.getD k []=L:=hL
 rw [e,show ((tabOf root h l blk every bits).every:Int)=every by show (every.toNat:Int)=every; omega] at this
 rw [this] at hb
 simp only [Prod.mk.injEq] at hb
 exact hb
theorem rb_bnd1 {L R:List Ent} {x y:Ent} (hk:k+1<(cutsE blk l).length) (hL:(cutsE blk l).getD k []=L) (hR:(cutsE blk l).getD (k+1) []=R) (hx:L[L.length-1]? = some x) (hy:R[0]? = some y):betwL (yb x.user) (yb y.user)=bndE (cutsE blk l) k:=by
 unfold bndE
 rw [if_pos hk,hL,hR]
 have e1:lastU L=x.user:=by unfold lastU; rw [ri_at hx]
 have e2:firstU R=y.user:=by unfold firstU; rw [ri_at hy]
 rw [e1,e2]
theorem rb_bnd0 {L:List Ent} {x:Ent} (hk:¬ k+1<(cutsE blk l).length) (hL:(cutsE blk l).getD k []=L) (hx:L[L.length-1]? = some x):yb x.user=bndE (cutsE blk l) k:=by
 unfold bndE
 rw [if_neg hk,hL]
 have e1:lastU L=x.user:=by unfold lastU; rw [ri_at hx]
 rw [e1]
end
section
variable {t:Tab} {k:Nat} {I S X W L1 L2 O:List Y}
theorem rb_row (eI:I=numN t.cs.length++t.rows k) (eX:X=t.prt k) (eW:W=rowL X) {s:List Y} (es:s=bndE t.cs k) (eS:S=strL s) (e1:L1=I++S) (e2:L2=L1++W):L2=numN t.cs.length++t.rows (k+1):=by
 rw [e2,e1,eI,eW,eX,eS,es,t.rows_succ]; simp only [List.append_assoc]
theorem rb_prt {A:List Y} {L:List Ent} (hL:t.cs.getD k []=L) (e:X=sealL (keyEnc t.root (headL t.h)) (keyMac t.root (headL t.h)) (nonceF (BitVec.ofInt 64 ((2+k:Nat):Int))) (headL t.h) A) (eA:A=blkL t.every L):X=t.prt k:=tb_prt hL (by rw [e,eA])
end
section
variable {root:Nat→Y} {h:Hd} {l:List Ent} {blk every bits:Int}
theorem rb_filt {M X:List Y} (eM:M=makeB (cmpU (l.map (·.user))) bits) (eX:X=sealL (keyEnc root (headL h)) (keyMac root (headL h)) (nonceF (BitVec.ofInt 64 ((1:Nat):Int))) (headL h) M):X=(tabOf root h l blk every bits).filt:=tb_filt (US:=l.map (·.user)) rfl eM eX
theorem rb_idx {I W I2:List Y} {F:List Y} (eI:I=numN (cutsE blk l).length++(tabOf root h l blk every bits).rows (cutsE blk l).length) (eF:F=(tabOf root h l blk every bits).filt) (eW:W=rowL F) (e:I2=I++W):I2=(tabOf root h l blk every bits).idx:=by
 rw [e,eI,eW,eF,List.append_assoc]; rfl
theorem rb_bytes {O F S O1 O2 X L:List Y} {z:Int} (eO:O=(tabOf root h l blk every bits).out (cutsE blk l).length) (eF:F=(tabOf root h l blk every bits).filt) (eS:S=(tabOf root h l blk every bits).sidx) (e1:O1=O++F) (e2:O2=O1++S) (hz:z=(S.length:Int)) (eX:X=fixL (BitVec.ofInt 64 z) 8) (eL:L=O2++X):L=(tabOf root h l blk every bits).bytes :=
 tb_bytes eO eF eS e1 e2 hz (by rw [eL,eX])
end
theorem build_eq {root:Nat→Y} {h:Hd} {l:List Ent} {blk every bits er er':Int} {L L':List Y} {m m':Meta} (h1:BuildR root h l blk every bits L m er) (h2:BuildR root h l blk every bits L' m' er'):L=L'∧m=m'∧er=er':=by
 rcases h1 with ⟨a1,a2,a3,a4⟩ | ⟨a1,a2,a3,a4⟩<;>rcases h2 with ⟨b1,b2,b3,b4⟩ | ⟨b1,b2,b3,b4⟩
 ·exact ⟨a2.trans b2.symm,a3.trans b3.symm,a4.trans b4.symm⟩
 ·exact absurd a1 b1
 ·exact absurd b1 a1
 ·exact ⟨a2.trans b2.symm,a3.trans b3.symm,a4.trans b4.symm⟩
theorem build_wf {root:Nat→Y} {h:Hd} {l:List Ent} {blk every bits er:Int} {L:List Y} {m:Meta} (h1:BuildR root h l blk every bits L m er) (hl:lightE l):m.wf:=by
 by_cases h0:er=0
 ·exact (tb_get h1 hl h0).1
 ·rw [(tb_err h1 h0).2]; exact meta0_wf
section
variable {mc:Md} {P:Program} {n:Fm} {l:List Oper} {K:Env→PM→Mem→Prop} {i:Nat} {σ:List Nat} {ρ:Env} {G:PM} {μ:Mem}
variable {d t:Nat} {p:String} {af:Array Edge}
end
theorem upon_mono {P:Program} {o:Oper} {a:Act} {next next':Act→World→Prop} {Q Q':Exit→Act→World→Prop} (h1:∀ a w,next a w→next' a w) (h2:∀ ch a w,Q (.panic ch) a w→Q' (.panic ch) a w) (h3:LetsOut Q→LetsOut Q') :
  ∀ r,o.upon P a next Q r→o.upon P a next' Q' r:=by
 intro r h
 unfold Oper.upon at h ⊢
 split at h
 ·exact h1 _ _ h
 ·exact h1 _ _ h
 ·exact h1 _ _ h
 ·refine h.mono fun e w' he=>?_
  cases e with
  | returned v=>exact h1 _ _ he
  | panicked ch=>exact h2 _ _ _ he
  | outgrown=>exact h3 he
 ·exact h.mono fun v w' he=>h1 _ _ he
 ·exact h2 _ _ _ h
 exact h.elim
theorem wpOps_append {P:Program} {ops:Array Oper} {Q:Exit→Act→World→Prop} {σ2:List Nat}:∀ {σ1:List Nat} {a:Act} {w:World},wpOps P ops (Exit.then (wpOps P ops Q σ2) Q) σ1 a w→wpOps P ops Q (σ1++σ2) a w
 | [],a,w,h=>h
 | i :: σ1,a,w,h=>by
  simp only [wpOps,List.cons_append] at h ⊢
  cases ho:ops[i]? with
  | none=>simp only [ho] at h; exact wpOps_append h
  | some o =>
   simp only [ho] at h
   dsimp only
   split at h
   ·rename_i hw
    rw [if_pos hw]
    rcases h with h | ⟨h,hl⟩
    ·exact .inl (upon_mono (fun a w h=>wpOps_append h) (fun ch a w h=>h) (fun h=>h) _ h)
    ·exact .inr ⟨h,hl⟩
   ·rename_i hw
    rw [if_neg hw]; exact wpOps_append h
def Cx.dfr (X:Cx) (d:Deferred) (die1:List PanicEntry→Env→PM→Mem→Prop)
  (ok1:∀ ch ρ G μ a w,die1 ch ρ G μ→Ag ⟨X.n.n,[d],die1⟩ ρ a→Tr X.G0 X.K0 X.w0 G μ w→Leaves X.P X.fn a.tmps (RR X.post X.die X.G0 X.K0 X.w0) a.defers (.panicking ch) w):Cx :=
 ⟨X.P,X.fn,⟨X.n.n,[d],die1⟩,X.G0,X.K0,X.w0,X.post,X.die,ok1⟩
theorem Qof_same {X Y:Cx} (h1:X.P=Y.P) (h2:X.fn=Y.fn) (h3:X.R=Y.R):∀ k,Qof X k=Qof Y k
 | []=>by simp only [Qof,h1,h2,h3]
 | .code c :: k=>by simp only [Qof,Qof_same h1 h2 h3 k,h1]
 | .blk id :: k=>by simp only [Qof,Qof_same h1 h2 h3 k]
 | .lp I :: k=>by simp only [Qof,Qof_same h1 h2 h3 k]
structure DefOp (P:Program) (n:Fm) (l:List Oper) (j:Nat) (d:Deferred) (ρ:Env):Prop where
 of:∃ o,nth l j=some o∧o.guard=none∧o.dst=none∧∀ a w,Ag n ρ a→(execOp a.eval o).run P w=.ok (.defer d) w
theorem Wk.defer {X:Cx} {k:List KI} {ρ:Env} {G:PM} {μ:Mem} {id:Nat} {l:List Oper} (σ1:List Nat) (j:Nat) (d:Deferred) (die1:List PanicEntry→Env→PM→Mem→Prop)
  (ok1:∀ ch ρ G μ a w,die1 ch ρ G μ→Ag ⟨X.n.n,[d],die1⟩ ρ a→Tr X.G0 X.K0 X.w0 G μ w→Leaves X.P X.fn a.tmps (RR X.post X.die X.G0 X.K0 X.w0) a.defers (.panicking ch) w)
  (hσ:List.range l.length=σ1++[j]) (hds:dstAll X.n l=true) (h0:X.n.ds=[])
  (h:Wo false ⟨false,false⟩ X.P X.n l (fun ρ G μ=>DefOp X.P X.n l j d ρ∧We (X.dfr d die1 ok1) .normal k ρ G μ) σ1 ρ G μ):Wk X (.region id l.toArray false) k ρ G μ:=by
 refine ⟨fun a w ha ht=>wp_region ?_⟩
 have hr:List.range l.toArray.size=σ1++[j]:=by simpa using hσ
 rw [hr]
 refine wpOps_append ?_
 refine Wo.run (Q:=Exit.then (wpOps X.P l.toArray (Qof X k) [j]) (Qof X k)) (dstAll_ok hds) (fun _=>Qof_panic X k) (fun ρ G μ hK a w ha ht=>?_) _ _ _ _ a w h ha ht
 obtain ⟨⟨o,ho,hg,hdst,hrun⟩,hwe⟩:=hK
 show wpOps X.P l.toArray (Qof X k) [j] a w
 simp only [wpOps,nth_eq,ho]
 rw [if_pos (by simp [Region.wanted,hg])]
 refine .inl ?_
 unfold Oper.wp
 rw [hrun a w ha]
 simp only [Oper.upon,wpOps,hdst,Act.put]
 have:=hwe.out { a with defers:=d :: a.defers } w ⟨ha.size,by show d :: a.defers=[d]; rw [ha.defers,h0],ha.get⟩ ht
 rwa [Qof_same (X:=X.dfr d die1 ok1) (Y:=X) rfl rfl rfl k] at this
theorem We.finD {X:Cx} {ρ:Env} {G:PM} {μ:Mem} (h:∀ a w,Ag X.n ρ a→Tr X.G0 X.K0 X.w0 G μ w→Leaves X.P X.fn a.tmps X.R X.n.ds .returning w):We X .ret [] ρ G μ :=
 ⟨fun a w ha ht=>by
  show Leaves X.P X.fn a.tmps X.R a.defers .returning w
  rw [ha.defers]; exact h a w ha ht⟩
def ifT (P:Program) (T:TypeId):Bool:=match P.underlying T with | some (.interface _)=>true | _=>false
theorem ifT_some {P:Program} {T:TypeId} (h:ifT P T=true):∃ q,P.underlying T=some (.interface q):=by
 unfold ifT at h
 split at h
 ·rename_i q hq; exact ⟨q,hq⟩
 ·cases h
def dfc (f:FuncId) (args:List Value):Deferred:={ target:=.fn (.func f) #[],args:=args.toArray }
theorem We.finR {X:Cx} {ρ:Env} {G:PM} {μ μ':Mem} {vs:List Value} {rs:List ResultVar} {f:FuncId} {args:List Value} (hf:goFn X.P f=true) (hds:X.n.ds=[dfc f args])
  (hq:∀ w,CallsD X.P f args.toArray .returning w (fun e u' w'=>(∃ v,e=.returned v)∧u'=.returning∧w'=w)) (hr:X.fn.results=rs.toArray) (h:Rs X.P ρ G μ rs vs) (hM:MSub μ' μ) (hp:X.post G μ' (tup vs)):We X .ret [] ρ G μ :=
 We.finD fun a w ha ht=>by
  rw [hds]
  refine leaves_cons (by simp) (f:=f) (args:=args.toArray) (by simp [invoke,run_callFunc hf]) ((hq w).mono ?_)
  rintro e u' w' ⟨⟨v,rfl⟩,rfl,rfl⟩
  exact ⟨_,results_run (by rw [hr]; exact h) ha ht.sat,.inl ⟨_,G,μ',rfl,hM.tr ht,hp⟩⟩
theorem wk_dfr {X:Cx} {k:List KI} {ρ:Env} {G:PM} {μ:Mem} {id:Nat} {l:List Oper} {f:FuncId} {x:Operand} {tys:Array TypeId} {v:Value} {t:Nat} {p:String} {af:Array Edge}
  (hl:l=[⟨none,.defer { callee:=.value (.func f),args:=#[x],argTypes:=tys },t,p,af,none⟩]) (h0:X.n.ds=[]) (hx:ev ρ x=some (true,v))
  (h:We (X.dfr (dfc f [v]) (fun _ _ _ _=>False) (fun _ _ _ _ _ _ hq=>hq.elim)) .normal k ρ G μ):Wk X (.region id l.toArray false) k ρ G μ:=by
 subst hl
 refine Wk.defer [] 0 (dfc f [v]) (fun _ _ _ _=>False) (fun _ _ _ _ _ _ hq=>hq.elim) rfl rfl h0 (.nil ⟨⟨_,rfl,rfl,rfl,fun a w ha=>?_⟩,h⟩)
 have hv:a.eval x=v:=ha.eval hx rfl
 have hfn:a.eval (.func f)=.func (.func f) #[] #[]:=rfl
 simp [execOp,resolve,Deferred.ofValue,hv,hfn,dfc]
end Go.Tan
namespace Go.Proofs.YtbdnclpopappeaaGreatDoor
open Go.Tan Go.RowKit
namespace FxTbA
theorem st9:strT Tryz.prog 9=true:=by kernel_rfl
theorem ag24:aggN Tryz.prog 24=some none:=by kernel_rfl
theorem ag5:aggN Tryz.prog 5=some none:=by kernel_rfl
theorem mix:Tryz.prog.follows .mixedOrders=true:=by kernel_rfl
theorem se34:slE Tryz.prog 34=some (5,1,1):=by kernel_rfl
theorem zv5:(Tryz.prog.info? 5).bind (·.zero)=some (.int .u8 0):=by kernel_rfl
theorem bs34_9:bsT Tryz.prog 34 9=true:=by kernel_rfl
theorem zq26:zrL Tryz.prog 26=some ([V 0#8,V 0#8,uv .u64 0#64,uv .u64 0#64,uv .u64 0#64]):=by kernel_rfl
theorem sz26:szT Tryz.prog 26=some 5:=by kernel_rfl
theorem ag26:aggN Tryz.prog 26=some (some 5):=by kernel_rfl
end FxTbA
namespace Fx
theorem fo47_0:fOff Tryz.prog 47 0=some 0:=by kernel_rfl
theorem ag9:aggN Tryz.prog 9=some none:=by kernel_rfl
theorem fo47_3:fOff Tryz.prog 47 3=some 3:=by kernel_rfl
theorem fo47_1:fOff Tryz.prog 47 1=some 1:=by kernel_rfl
theorem fo47_2:fOff Tryz.prog 47 2=some 2:=by kernel_rfl
theorem se31:slE Tryz.prog 31=some (47,4,48):=by kernel_rfl
theorem sn31:(slE Tryz.prog 31).isSome=true:=by kernel_rfl
theorem ag47:aggN Tryz.prog 47=some (some 4):=by kernel_rfl
theorem go60:goFn Tryz.prog 60=true:=by kernel_rfl
theorem go21:goFn Tryz.prog 21=true:=by kernel_rfl
theorem zr47:zrL Tryz.prog 47=some ([.string ByteArray.empty,.int .u64 0,.int .u8 0,.string ByteArray.empty]):=by kernel_rfl
theorem sz47:szT Tryz.prog 47=some 4:=by kernel_rfl
theorem fo36_0:fOff Tryz.prog 36 0=some 0:=by kernel_rfl
theorem fo36_1:fOff Tryz.prog 36 1=some 1:=by kernel_rfl
theorem fo36_2:fOff Tryz.prog 36 2=some 2:=by kernel_rfl
theorem fo36_3:fOff Tryz.prog 36 3=some 3:=by kernel_rfl
theorem bp26_0_1_2_3_4:bPl Tryz.prog 26 [0,1,2,3,4]=some ([V 0#8,V 0#8,uv .u64 0#64,uv .u64 0#64,uv .u64 0#64],[(0,1),(1,1),(2,1),(3,1),(4,1)]):=by kernel_rfl
end Fx
theorem eRight_ok (e:Ent) (G:PM):Ct Tryz.prog 21 ([e.val]:List Value).toArray G [] (fun _ μ' u=>μ'=[]∧u=.bool (rightE e)):=by
 refine Ct.of Tryz.func21 rfl Tryz.ntmps21 rfl fun w0 hs0=>?_
 refine .seq (rq2 rfl rfl ?_)
 refine bx rfl (.u rfl) rfl ?_; intro b1
 refine aS rfl rfl (.nil (.code (.seq (.block (.seq (.seq (rq5 rfl rfl (fz rfl .no Fx.fo47_0 (.u rfl) (ld rfl .no Fx.ag9 (.u rfl) (fun _=>Rd.own .here (by first|exact wap_f rfl|rfl)) ?_)))))))))
 refine ls rfl .no FxTbA.st9 (.u rfl) (cp rfl .no (.u rfl) (.u rfl) rfl (aS rfl rfl (.nil (.code (.cond rfl (fun c1=>?_) (fun c1=>?_))))))
 ·have c1k:=c1
  try simp only [qcA,qcC,qcB] at c1
  refine .skip (.code (Wk.condT rfl c1k ?_))
  refine .seq (rq1 rfl rfl (aS rfl rfl (.nil (.code (.ret (We.fin0 Tryz.results21 (.tmp rfl .nil) ?_))))))
  exact ⟨rfl,congrArg Value.bool (eR1 c1).symm⟩
 have c1k:=c1
 try simp only [qcA,qcC,qcB] at c1
 refine .seq (rq5 rfl rfl (fz rfl .no Fx.fo47_3 (.u rfl) (ld rfl .no Fx.ag9 (.u rfl) (fun _=>Rd.own .here (by first|exact wap_f rfl|rfl)) ?_)))
 refine ls rfl .no FxTbA.st9 (.u rfl) (cp rfl .no (.u rfl) (.u rfl) rfl (aS rfl rfl (.nil (.code (.cond rfl (fun c2=>?_) (fun c2=>?_))))))
 ·have c2k:=c2
  try simp only [qcA,qcC,qcB] at c2
  refine .skip (.code (Wk.condT rfl c2k ?_))
  refine .seq (rq1 rfl rfl (aS rfl rfl (.nil (.code (.ret (We.fin0 Tryz.results21 (.tmp rfl .nil) ?_))))))
  exact ⟨rfl,congrArg Value.bool (eR2 c2).symm⟩
 have c2k:=c2
 try simp only [qcA,qcC,qcB] at c2
 refine rq4 rfl rfl (fz rfl .no Fx.fo47_1 (.u rfl) (ld rfl .no FxTbA.ag24 (.u rfl) (fun _=>Rd.own .here (by first|exact wap_f rfl|rfl)) ?_))
 refine cp rfl .no (.u rfl) (.u rfl) rfl (aS rfl rfl (.nil (.code (.cond rfl (fun c3=>?_) (fun c3=>?_)))))
 ·have c3k:=c3
  try simp only [qcA,qcC,qcB] at c3
  refine .seq (rq1 rfl rfl (aS rfl rfl (.nil (.code (.ret (We.fin0 Tryz.results21 (.tmp rfl .nil) ?_))))))
  exact ⟨rfl,congrArg Value.bool (eR3 c3).symm⟩
 have c3k:=c3
 try simp only [qcA,qcC,qcB] at c3
 refine .seq (rq4 rfl rfl (fz rfl .no Fx.fo47_2 (.u rfl) (ld rfl .no FxTbA.ag5 (.u rfl) (fun _=>Rd.own .here (by first|exact wap_f rfl|rfl)) ?_)))
 refine cp rfl .no (.u rfl) (.u rfl) rfl (aS rfl rfl (.nil (.code (.cond rfl (fun c4=>?_) (fun c4=>?_)))))
 ·have c4k:=c4
  try simp only [qcA,qcC,qcB] at c4
  refine .seq (rq4 rfl rfl (fz rfl .no Fx.fo47_3 (.u rfl) (ld rfl .no Fx.ag9 (.u rfl) (fun _=>Rd.own .here (by first|exact wap_f rfl|rfl)) ?_)))
  refine cs rfl .no (.u rfl) (.u rfl) rfl (aS rfl rfl (.nil (.code (.ret (We.fin0 Tryz.results21 (.tmp rfl .nil) ?_)))))
  exact ⟨rfl,congrArg Value.bool (eR4 c1 c2 c3 c4).symm⟩
 have c4k:=c4
 try simp only [qcA,qcC,qcB] at c4
 refine .skip (.blk (.code (.seq (rq4 rfl rfl (fz rfl .no Fx.fo47_2 (.u rfl) (ld rfl .no FxTbA.ag5 (.u rfl) (fun _=>Rd.own .here (by first|exact wap_f rfl|rfl)) ?_))))))
 refine cp rfl .no (.u rfl) (.u rfl) rfl (aS rfl rfl (.nil (.code (.ret (We.fin0 Tryz.results21 (.tmp rfl .nil) ?_)))))
 exact ⟨rfl,congrArg Value.bool (eR5 c1 c2 c3 c4).symm⟩
theorem betw_ok (a b:ByteArray) (G:PM) (ha:a.size≤1000000):Ct Tryz.prog 29 ([.string a,.string b]:List Value).toArray G [] (fun _ μ' u=>μ'=[]∧u=.string (bstr (betwL (yb a) (yb b)))):=by
 refine Ct.of Tryz.func29 rfl Tryz.ntmps29 rfl fun w0 hs0=>?_
 refine .seq (rq1 rfl rfl (aS rfl rfl (.nil (.code (.seq (.seq (rq6 rfl rfl (mV rfl rfl (ls rfl .no FxTbA.st9 (.u rfl) (mV rfl rfl (ls rfl .no FxTbA.st9 (.u rfl) (mIn (a.size) (b.size) rfl .no (.u rfl) (.u rfl) (fun _=>by omega) (fun _=>by omega) ?_))))))))))))
 refine mV rfl rfl (.nil (.code (.block ?_)))
 refine Wk.lop (α:=Nat) (fun k=>[(11,true,.int .i64 (k:Int))]) (fun _=>[])
  (fun k Gl=>(k≤a.size∧k≤b.size)∧(∀ j,j<k→(yb a).getD j 0=(yb b).getD j 0)) (fun k=>a.size-k) 0 [(0,true,_),(1,true,_),(10,true,_)] []
  (esC rfl (by first|rfl|exact evi (by omega)) (esD rfl (esD rfl (esD rfl eZ))))
  mN ?_ ?_
 ·refine ⟨?_,?_⟩
  ·(try dsimp only)<;>(first|omega|rfl|assumption|(simp; done))
  (try dsimp only)<;>(exact fun j h=>absurd h (Nat.not_lt_zero _))
 intro k N0 Gl0 hN0 hGl0 hF0
 try dsimp only at hF0 hN0 ⊢
 obtain ⟨hk,hj⟩:=hF0
 refine .seq (rq1 rfl rfl (cp rfl .no (.u rfl) (.u rfl) rfl (.nil (.code (.seq (.cond rfl (fun c1=>?_) (fun c1=>?_)))))))
 ·have c1k:=c1
  try simp only [qcA,qcB] at c1
  refine .skip (.code (.seq (.block (.seq (rq2 rfl rfl (mV rfl rfl (aS rfl rfl (.nil (.code (.seq (.seq (Wk.draw (mc:=⟨false,false⟩) [0,1,2,3,4,5,6] FxTbA.mix (by kernel_rfl) ?_))))))))))))
  refine mV rfl rfl (mV rfl rfl (sI (k) rfl .no FxTbA.st9 (.u rfl) (.u rfl) (fun _=>by omega) (fun _=>by first|omega|(simp only [Bool.and_eq_true,decide_eq_true_eq] at hc; omega)) ?_))
  refine mV rfl rfl (mV rfl rfl (sI (k) rfl .no FxTbA.st9 (.u rfl) (.u rfl) (fun _=>by omega) (fun _=>by first|omega|(simp only [Bool.and_eq_true,decide_eq_true_eq] at hc; omega)) ?_))
  refine cp rfl .no (.u rfl) (.u rfl) rfl (.nil (.code (.cond rfl (fun c2=>?_) (fun c2=>?_))))
  ·have c2k:=c2
   try simp only [qcA,qcB] at c2
   refine .exit (.xcode (.xblk (.code (rq2 rfl rfl (arn (((k+1):Nat):Int) rfl .no (.u rfl) (.u rfl) rfl (fun _=>by omega) (fun _=>wrap_i64 (by omega) (by omega)) ?_)))))
   refine mV rfl rfl (.nil (We.lpo (k+1) ?_ ?_ ?_ ?_ ?_))
   ·exact (esC rfl (by first|rfl|exact evi (by omega)) (esD rfl (esD rfl (esD rfl eZ))))
   ·exact mN
   ·first|omega|(dsimp only; omega)
   ·exact hGl0
   refine ⟨?_,?_⟩
   ·(try dsimp only)<;>(first|omega|rfl|assumption|(simp; done))
   (try dsimp only)<;>(exact bt_snoc hj c2)
  have c2k:=c2
  try simp only [qcA,qcB] at c2
  refine .skip (.code (.seq (.seq (Wk.draw (mc:=⟨false,false⟩) [0,1,2,3,4,5,6,7,8,9,10,11,12,13,14,15,16] FxTbA.mix (by kernel_rfl) ?_))))
  refine mV rfl rfl (mV rfl rfl (sI (k) rfl .no FxTbA.st9 (.u rfl) (.u rfl) (fun _=>by omega) (fun _=>by first|omega|(simp only [Bool.and_eq_true,decide_eq_true_eq] at hc; omega)) ?_))
  refine mV rfl rfl (mV rfl rfl (sI (k) rfl .no FxTbA.st9 (.u rfl) (.u rfl) (fun _=>by omega) (fun _=>by first|omega|(simp only [Bool.and_eq_true,decide_eq_true_eq] at hc; omega)) ?_))
  refine cp rfl .no (.u rfl) (.u rfl) rfl (mV rfl rfl (mv rfl (.t rfl rfl) (.u rfl) (mv rfl (.t rfl rfl) (.u rfl) (sI (k) rfl (.t rfl rfl) FxTbA.st9 (.s rfl) (.s rfl) (fun hc=>by omega) (fun hc=>by first|omega|(simp only [Bool.and_eq_true,decide_eq_true_eq] at hc; omega)) ?_))))
  refine mv rfl (.t rfl rfl) (.u rfl) (mv rfl (.t rfl rfl) (.u rfl) (sI (k) rfl (.t rfl rfl) FxTbA.st9 (.s rfl) (.s rfl) (fun hc=>by omega) (fun hc=>by first|omega|(simp only [Bool.and_eq_true,decide_eq_true_eq] at hc; omega)) ?_))
  refine bw (k:=.u8) rfl (.t rfl rfl) rfl (.s rfl) (.s rfl) rfl (cp rfl (.t rfl rfl) (.s rfl) (.u rfl) rfl (pkA rfl .no (.u rfl) (.s rfl) (.nil (.code (.cond rfl (fun c3=>?_) (fun c3=>?_))))))
  ·have c3k:=c3
   try simp only [qcA,qcB] at c3
   refine .seq (Wk.draw (mc:=⟨false,false⟩) [0,1,2,3,4,5,6,7,8,9,10] FxTbA.mix (by kernel_rfl) ?_)
   refine mV rfl rfl (mV rfl rfl (sE (k) rfl .no FxTbA.st9 (.u rfl) (.u rfl) (fun _=>by omega) (fun _=>by omega) ?_))
   refine mV rfl rfl (mV rfl rfl (sI (k) rfl .no FxTbA.st9 (.u rfl) (.u rfl) (fun _=>by omega) (fun _=>by first|omega|(simp only [Bool.and_eq_true,decide_eq_true_eq] at hc; omega)) ?_))
   refine bw (k:=.u8) (b:=1#8) rfl .no rfl (.u rfl) (.u rfl) rfl ?_
   refine Go.Tan.b1 rfl FxTbA.se34 FxTbA.zv5 (.u rfl) rfl rfl (by decide) ?_; intro b45
   refine sB rfl .no FxTbA.bs34_9 (.u rfl) (fun _=>(Sc.one .here)) ?_
   refine sP rfl .no (.u rfl) (.u rfl) (fun _=>bt_room ha) ?_
   refine aS rfl rfl (.nil (.code (.ret (We.fin0 Tryz.results29 (.tmp rfl .nil) ?_))))
   exact ⟨rfl,congrArg Value.string (bt_yes (by omega) hj c3)⟩
  have c3k:=c3
  try simp only [qcA,qcB] at c3
  refine .skip (.code (.exit (.xnot rfl (.xcode (.xlp (.xblk (.code (.seq (rq2 rfl rfl (mV rfl rfl (aS rfl rfl (.nil (.code (.ret (We.fin0 Tryz.results29 (.tmp rfl .nil) ?_)))))))))))))))
  exact ⟨rfl,congrArg Value.string (bt_no (by omega) hj c2 c3k)⟩
 have c1k:=c1
 try simp only [qcA,qcB] at c1
 refine .exit (.xcode (.xlp (.xblk (.code (.seq (rq2 rfl rfl (mV rfl rfl (aS rfl rfl (.nil (.code (.ret (We.fin0 Tryz.results29 (.tmp rfl .nil) ?_))))))))))))
 exact ⟨rfl,congrArg Value.string (bt_end hk (by omega) hj)⟩
theorem idxE_ok (h:Sh) (l:List Ent) (G:PM) (hs:SlR G 4 Ent.cells h l) (hl:l.length≤100000000) (f:Nat) (hf:goFn Tryz.prog f=true) (vc:List Value) (p:Ent→Bool) (hc:∀ G',PM.le G G'→∀ m∈l,Ct Tryz.prog f ([m.val]++vc).toArray G' [] fun _ μ' u=>μ'=[]∧u=.bool (p m)):Ct Tryz.prog 60 ([h.val l.length,.func (.func f) #[] vc.toArray]:List Value).toArray G [] (fun _ μ' u=>μ'=[]∧u=.int .i64 (idxZ p l)):=by
 refine Ct.of Tryz.func60 rfl Tryz.ntmps60 rfl fun w0 hs0=>?_
 refine .seq (rq1 rfl rfl (aS rfl rfl (.nil (.code (.seq (.seq (rq3 rfl rfl (mV rfl rfl (ln rfl .no Fx.sn31 (.u rfl) (mV rfl rfl (.nil (.code (.block ?_)))))))))))))
 refine Wk.lop (α:=Nat) (fun k=>[(8,true,.int .i64 (k:Int))]) (fun _=>[])
  (fun k Gl=>(k≤l.length)∧(∀ j y,j<k→l[j]? = some y→p y=false)) (fun k=>l.length-k) 0 [(0,true,_),(1,true,_),(7,true,_)] []
  (esC rfl (by first|rfl|exact evi (by omega)) (esD rfl (esD rfl (esD rfl eZ))))
  mN ?_ ?_
 ·refine ⟨?_,?_⟩
  ·(try dsimp only)<;>(first|omega|rfl|assumption|(simp; done))
  (try dsimp only)<;>(exact fun j y h=>absurd h (Nat.not_lt_zero _))
 intro k N0 Gl0 hN0 hGl0 hF0
 try dsimp only at hF0 hN0 ⊢
 obtain ⟨hk,hno⟩:=hF0
 have hs:=hs.mono hGl0
 refine .seq (rq1 rfl rfl (cp rfl .no (.u rfl) (.u rfl) rfl (.nil (.code (.seq (.cond rfl (fun c1=>?_) (fun c1=>?_)))))))
 ·have c1k:=c1
  try simp only [qcA,qcB] at c1
  refine .skip (.code (.seq (.block (.seq (rq2 rfl rfl (mV rfl rfl (aS rfl rfl (.nil (.code (.seq (rq6 rfl rfl (mV rfl rfl (mV rfl rfl (mV rfl rfl (ih rfl .no Fx.se31 (.u rfl) (.u rfl) (fun _=>by omega) (fun _=>by omega) (fun _=>hs.nn (k:=k) (by first|omega|(simp only [Bool.and_eq_true,decide_eq_true_eq] at hc; omega)|(simp only [List.length_cons,List.length_nil]; omega))) ?_)))))))))))))))
  obtain ⟨x,ex⟩:=getx (k:=k) (xs:=l) (by omega)
  refine lA rfl .no Fx.ag47 (.u rfl) (fun _=>(hs.at (by omega) ex).rd) (fun _=>Ent.len _) ?_
  refine kf rfl .no (.u rfl) hf (Evc rfl Evn) (fun _=>hc _ hGl0 x (List.mem_of_getElem? ex)) ?_
  refine .nil (.code (.cond rfl (fun c2=>?_) (fun c2=>?_)))
  ·have c2k:=c2
   try simp only [qcA,qcB] at c2
   refine .seq (rq2 rfl rfl (mV rfl rfl (aS rfl rfl (.nil (.code (.ret (We.fin0 Tryz.results60 (.tmp rfl .nil) ?_)))))))
   exact ⟨rfl,idz_hit hno ex (by simpa using c2k)⟩
  have c2k:=c2
  try simp only [qcA,qcB] at c2
  refine .skip (.blk (.code (rq2 rfl rfl (arn (((k+1):Nat):Int) rfl .no (.u rfl) (.u rfl) rfl (fun _=>by omega) (fun _=>wrap_i64 (by omega) (by omega)) ?_))))
  refine mV rfl rfl (.nil (We.lpo (k+1) ?_ ?_ ?_ ?_ ?_))
  ·exact (esC rfl (by first|rfl|exact evi (by omega)) (esD rfl (esD rfl (esD rfl eZ))))
  ·exact mN
  ·first|omega|(dsimp only; omega)
  ·exact hGl0
  refine ⟨?_,?_⟩
  ·(try dsimp only)<;>(first|omega|rfl|assumption|(simp; done))
  (try dsimp only)<;>(exact idz_step hno ex (by simpa using c2k))
 have c1k:=c1
 try simp only [qcA,qcB] at c1
 refine .exit (.xcode (.xlp (.xblk (.code (.seq (rq1 rfl rfl (aS rfl rfl (.nil (.code (.ret (We.fin0 Tryz.results60 (.tmp rfl .nil) ?_)))))))))))
 exact ⟨rfl,idz_none hno (by omega)⟩
theorem contE_ok (h:Sh) (l:List Ent) (G:PM) (hs:SlR G 4 Ent.cells h l) (hl:l.length≤100000000) (f:Nat) (hf:goFn Tryz.prog f=true) (vc:List Value) (p:Ent→Bool) (hc:∀ G',PM.le G G'→∀ m∈l,Ct Tryz.prog f ([m.val]++vc).toArray G' [] fun _ μ' u=>μ'=[]∧u=.bool (p m)):Ct Tryz.prog 23 ([h.val l.length,.func (.func f) #[] vc.toArray]:List Value).toArray G [] (fun _ μ' u=>μ'=[]∧u=.bool (l.any p)):=by
 refine Ct.of Tryz.func23 rfl Tryz.ntmps23 rfl fun w0 hs0=>?_
 refine .seq (rq1 rfl rfl (aS rfl rfl (.nil (.code (.seq (rq5 rfl rfl (mV rfl rfl (mV rfl rfl (kv rfl .no Fx.go60 (Evc rfl (Evc rfl Evn)) (fun _=>idxE_ok h l _ hs hl f hf vc p hc) ?_)))))))))
 refine cp rfl .no (.u rfl) (.u rfl) rfl (aS rfl rfl (.nil (.code (.ret (We.fin0 Tryz.results23 (.tmp rfl .nil) ?_)))))
 exact ⟨rfl,congrArg Value.bool idz_ge⟩
theorem tBad_ok (e:Ent) (G:PM):Ct Tryz.prog 20 ([e.val]:List Value).toArray G [] (fun _ μ' u=>μ'=[]∧u=.bool (!rightE e)):=by
 refine Ct.of Tryz.func20 rfl Tryz.ntmps20 rfl fun w0 hs0=>?_
 refine .seq (rq2 rfl rfl ?_)
 refine bx rfl (.u rfl) rfl ?_; intro b1
 refine aS rfl rfl (.nil (.code (.seq (rq4 rfl rfl (lA rfl .no Fx.ag47 (.u rfl) (fun _=>RdN.own .here) (fun _=>(by first|rfl|exact Ent.len _)) ?_)))))
 refine kv rfl .no Fx.go21 (Evc rfl Evn) (fun _=>eRight_ok _ _) ?_
 refine nt rfl .no (.u rfl) (aS rfl rfl (.nil (.code (.ret (We.fin0 Tryz.results20 (.tmp rfl .nil) ?_)))))
 exact ⟨rfl,rfl⟩
theorem bBad_ok (e:Ent) (G:PM):Ct Tryz.prog 70 ([e.val]:List Value).toArray G [] (fun _ μ' u=>μ'=[]∧u=.bool (!rightE e)):=by
 refine Ct.of Tryz.func70 rfl Tryz.ntmps70 rfl fun w0 hs0=>?_
 refine .seq (rq2 rfl rfl ?_)
 refine bx rfl (.u rfl) rfl ?_; intro b1
 refine aS rfl rfl (.nil (.code (.seq (rq4 rfl rfl (lA rfl .no Fx.ag47 (.u rfl) (fun _=>RdN.own .here) (fun _=>(by first|rfl|exact Ent.len _)) ?_)))))
 refine kv rfl .no Fx.go21 (Evc rfl Evn) (fun _=>eRight_ok _ _) ?_
 refine nt rfl .no (.u rfl) (aS rfl rfl (.nil (.code (.ret (We.fin0 Tryz.results70 (.tmp rfl .nil) ?_)))))
 exact ⟨rfl,rfl⟩
theorem rises_ok (h:Sh) (l:List Ent) (G:PM) (hs:SlR G 4 Ent.cells h l) (hl:l.length≤10000000000000):Ct Tryz.prog 24 ([h.val l.length]:List Value).toArray G [] (fun _ μ' u=>μ'=[]∧u=.bool (risesE l)):=by
 refine Ct.of Tryz.func24 rfl Tryz.ntmps24 rfl fun w0 hs0=>?_
 refine .seq (rq1 rfl rfl (aS rfl rfl (.nil (.code (.seq (.seq (rq1 rfl rfl (aS rfl rfl (.nil (.code (.block ?_)))))))))))
 refine Wk.lop (α:=Nat) (fun k=>[(3,true,.int .i64 (k:Int))]) (fun _=>[])
  (fun k Gl=>(1≤k∧(k≤l.length∨l.length=0))∧(∀ j,j+1<k→aheadE (l.getD j Ent.zero) (l.getD (j+1) Ent.zero)=true)) (fun k=>l.length-k) 1 [(0,true,_)] []
  (esC rfl (by first|rfl|exact evi (by omega)) (esD rfl eZ))
  mN ?_ ?_
 ·refine ⟨?_,?_⟩
  ·(try dsimp only)<;>(first|omega|rfl|assumption|(simp; done))
  (try dsimp only)<;>(exact fun j h=>absurd h (by omega))
 intro k N0 Gl0 hN0 hGl0 hF0
 try dsimp only at hF0 hN0 ⊢
 obtain ⟨hk,hj⟩:=hF0
 have hs:=hs.mono hGl0
 refine .seq (.seq (rq4 rfl rfl (mV rfl rfl (mV rfl rfl (ln rfl .no Fx.sn31 (.u rfl) (cp rfl .no (.u rfl) (.u rfl) rfl (.nil (.code (.cond rfl (fun c1=>?_) (fun c1=>?_))))))))))
 ·have c1k:=c1
  try simp only [qcA,qcB] at c1
  refine .skip (.code (.seq (.block (.seq (Wk.mixp ⟨false,false⟩ FxTbA.mix (by kernel_rfl) ?_)))))
  refine Wp.one 0 (by kernel_rfl) ?_
  refine mV rfl rfl (.nil (Wp.one 1 (by kernel_rfl) ?_))
  refine mV rfl rfl (.nil (Wp.one 2 (by kernel_rfl) ?_))
  refine ar rfl .no (.u rfl) (.u rfl) rfl (fun _=>wrap_i64 (by omega) (by omega)) ?_
  refine .nil (Wp.one 3 (by kernel_rfl) ?_)
  refine ih rfl .no Fx.se31 (.u rfl) (.u rfl) (fun _=>by omega) (fun _=>by omega) (fun _=>hs.nn (k:=((((k:Nat):Int)-(1:Int))).toNat) (by first|omega|(simp only [Bool.and_eq_true,decide_eq_true_eq] at hc; omega)|(simp only [List.length_cons,List.length_nil]; omega))) ?_
  refine .nil (Wp.one 4 (by kernel_rfl) ?_)
  obtain ⟨x,ex⟩:=getx (k:=k-1) (xs:=l) (by omega)
  refine lA rfl .no Fx.ag47 (.u rfl) (fun _=>(hs.at (by omega) ex).rd) (fun _=>Ent.len _) ?_
  refine .nil (Wp.one 5 (by kernel_rfl) ?_)
  refine mV rfl rfl (.nil (Wp.one 6 (by kernel_rfl) ?_))
  refine mV rfl rfl (.nil (Wp.one 7 (by kernel_rfl) ?_))
  refine ih rfl .no Fx.se31 (.u rfl) (.u rfl) (fun _=>by omega) (fun _=>by omega) (fun _=>hs.nn (k:=k) (by first|omega|(simp only [Bool.and_eq_true,decide_eq_true_eq] at hc; omega)|(simp only [List.length_cons,List.length_nil]; omega))) ?_
  refine .nil (Wp.pr 8 (by kernel_rfl) ?_)
  obtain ⟨y,ey⟩:=getx (k:=k) (xs:=l) (by omega)
  refine lA rfl .no Fx.ag47 (.u rfl) (fun _=>(hs.at (by omega) ey).rd) (fun _=>Ent.len _) ?_
  refine .nil ⟨⟨rfl,rfl⟩,?_⟩
  refine Wp.b2 9 10 (by kernel_rfl) ?_ ?_
  ·refine al rfl Fx.zr47 ?_; intro b4
   refine .nil (Wp.b1 10 (by kernel_rfl) ?_)
   refine al rfl Fx.zr47 ?_; intro b5
   refine .nil (Wp.b1 11 (by kernel_rfl) ?_)
   refine sw rfl (.u rfl) (.u rfl) rfl Fx.sz47 tk1 (by first|rfl|exact Ent.len _) (Ent.one _) ?_
   refine .nil (Wp.b1 12 (by kernel_rfl) ?_)
   refine sw rfl (.u rfl) (.u rfl) rfl Fx.sz47 tk1 (by first|rfl|exact Ent.len _) (Ent.one _) ?_
   refine .nil (Wp.last (by kernel_rfl) ?_)
   refine .code (.seq (Wk.rg [0,1,2,3,4,5,6,7,8,9,10,11,12,13,14,15,16,17,18] rfl rfl (fz rfl .no Fx.fo47_0 (.u rfl) (ld rfl .no Fx.ag9 (.u rfl) (fun _=>Rd.own tk1 (by first|exact wap_f rfl|rfl)) ?_))))
   refine fz rfl .no Fx.fo47_0 (.u rfl) (ld rfl .no Fx.ag9 (.u rfl) (fun _=>Rd.own .here (by first|exact wap_f rfl|rfl)) ?_)
   refine cs rfl .no (.u rfl) (.u rfl) rfl (mV rfl rfl (fz rfl (.f rfl rfl) Fx.fo47_0 (.u rfl) (ld rfl (.f rfl rfl) Fx.ag9 (.s rfl) (fun hc=>Rd.own tk1 (by first|exact wap_f rfl|rfl)) ?_)))
   refine fz rfl (.f rfl rfl) Fx.fo47_0 (.u rfl) (ld rfl (.f rfl rfl) Fx.ag9 (.s rfl) (fun hc=>Rd.own .here (by first|exact wap_f rfl|rfl)) ?_)
   refine cs rfl (.f rfl rfl) (.s rfl) (.s rfl) rfl (mv rfl (.f rfl rfl) (.s rfl) (fz rfl (.tc rfl rfl) Fx.fo47_1 (.u rfl) (ld rfl (.tc rfl rfl) FxTbA.ag24 (.s rfl) (fun hc=>Rd.own tk1 (by first|exact wap_f rfl|rfl)) ?_)))
   refine fz rfl (.tc rfl rfl) Fx.fo47_1 (.u rfl) (ld rfl (.tc rfl rfl) FxTbA.ag24 (.s rfl) (fun hc=>Rd.own .here (by first|exact wap_f rfl|rfl)) ?_)
   refine cp rfl (.tc rfl rfl) (.s rfl) (.s rfl) rfl (pkA rfl (.f rfl rfl) (.s rfl) (.s rfl) (pkO rfl .no (.u rfl) (.s rfl) (.nil (.code (.cond rfl (fun c2=>?_) (fun c2=>?_))))))
   ·have c2k:=c2
    try simp only [qcA,qcB] at c2
    refine .seq (rq1 rfl rfl (aS rfl rfl (.nil (.code (.ret (We.fin0 Tryz.results24 (.tmp rfl .nil) ?_))))))
    exact ⟨rfl,congrArg Value.bool (ri_no hk.1 ex ey c2k).symm⟩
   have c2k:=c2
   try simp only [qcA,qcB] at c2
   refine .skip (.blk (.code (rq3 rfl rfl (mV rfl rfl (arn (((k+1):Nat):Int) rfl .no (.u rfl) (.u rfl) rfl (fun _=>by omega) (fun _=>wrap_i64 (by omega) (by omega)) ?_)))))
   refine aS rfl rfl (.nil (We.lpo (k+1) ?_ ?_ ?_ ?_ ?_))
   ·exact (esC rfl (by first|rfl|exact evi (by omega)) (esD rfl eZ))
   ·exact mN
   ·first|omega|(dsimp only; omega)
   ·exact hGl0
   refine ⟨?_,?_⟩
   ·(try dsimp only)<;>(first|omega|rfl|assumption|(simp; done))
   (try dsimp only)<;>(exact ri_step hk.1 hj ex ey c2k)
  refine al rfl Fx.zr47 ?_; intro b5
  refine .nil (Wp.b1 9 (by kernel_rfl) ?_)
  refine al rfl Fx.zr47 ?_; intro b4
  refine .nil (Wp.b1 11 (by kernel_rfl) ?_)
  refine sw rfl (.u rfl) (.u rfl) rfl Fx.sz47 .here (by first|rfl|exact Ent.len _) (Ent.one _) ?_
  refine .nil (Wp.b1 12 (by kernel_rfl) ?_)
  refine sw rfl (.u rfl) (.u rfl) rfl Fx.sz47 tk1 (by first|rfl|exact Ent.len _) (Ent.one _) ?_
  refine .nil (Wp.last (by kernel_rfl) ?_)
  refine .code (.seq (Wk.rg [0,1,2,3,4,5,6,7,8,9,10,11,12,13,14,15,16,17,18] rfl rfl (fz rfl .no Fx.fo47_0 (.u rfl) (ld rfl .no Fx.ag9 (.u rfl) (fun _=>Rd.own tk1 (by first|exact wap_f rfl|rfl)) ?_))))
  refine fz rfl .no Fx.fo47_0 (.u rfl) (ld rfl .no Fx.ag9 (.u rfl) (fun _=>Rd.own .here (by first|exact wap_f rfl|rfl)) ?_)
  refine cs rfl .no (.u rfl) (.u rfl) rfl (mV rfl rfl (fz rfl (.f rfl rfl) Fx.fo47_0 (.u rfl) (ld rfl (.f rfl rfl) Fx.ag9 (.s rfl) (fun hc=>Rd.own tk1 (by first|exact wap_f rfl|rfl)) ?_)))
  refine fz rfl (.f rfl rfl) Fx.fo47_0 (.u rfl) (ld rfl (.f rfl rfl) Fx.ag9 (.s rfl) (fun hc=>Rd.own .here (by first|exact wap_f rfl|rfl)) ?_)
  refine cs rfl (.f rfl rfl) (.s rfl) (.s rfl) rfl (mv rfl (.f rfl rfl) (.s rfl) (fz rfl (.tc rfl rfl) Fx.fo47_1 (.u rfl) (ld rfl (.tc rfl rfl) FxTbA.ag24 (.s rfl) (fun hc=>Rd.own tk1 (by first|exact wap_f rfl|rfl)) ?_)))
  refine fz rfl (.tc rfl rfl) Fx.fo47_1 (.u rfl) (ld rfl (.tc rfl rfl) FxTbA.ag24 (.s rfl) (fun hc=>Rd.own .here (by first|exact wap_f rfl|rfl)) ?_)
  refine cp rfl (.tc rfl rfl) (.s rfl) (.s rfl) rfl (pkA rfl (.f rfl rfl) (.s rfl) (.s rfl) (pkO rfl .no (.u rfl) (.s rfl) (.nil (.code (.cond rfl (fun c2=>?_) (fun c2=>?_))))))
  ·have c2k:=c2
   try simp only [qcA,qcB] at c2
   refine .seq (rq1 rfl rfl (aS rfl rfl (.nil (.code (.ret (We.fin0 Tryz.results24 (.tmp rfl .nil) ?_))))))
   exact ⟨rfl,congrArg Value.bool (ri_no hk.1 ex ey c2k).symm⟩
  have c2k:=c2
  try simp only [qcA,qcB] at c2
  refine .skip (.blk (.code (rq3 rfl rfl (mV rfl rfl (arn (((k+1):Nat):Int) rfl .no (.u rfl) (.u rfl) rfl (fun _=>by omega) (fun _=>wrap_i64 (by omega) (by omega)) ?_)))))
  refine aS rfl rfl (.nil (We.lpo (k+1) ?_ ?_ ?_ ?_ ?_))
  ·exact (esC rfl (by first|rfl|exact evi (by omega)) (esD rfl eZ))
  ·exact mN
  ·first|omega|(dsimp only; omega)
  ·exact hGl0
  refine ⟨?_,?_⟩
  ·(try dsimp only)<;>(first|omega|rfl|assumption|(simp; done))
  (try dsimp only)<;>(exact ri_step hk.1 hj ex ey c2k)
 have c1k:=c1
 try simp only [qcA,qcB] at c1
 refine .exit (.xcode (.xlp (.xblk (.code (.seq (rq1 rfl rfl (aS rfl rfl (.nil (.code (.ret (We.fin0 Tryz.results24 (.tmp rfl .nil) ?_)))))))))))
 exact ⟨rfl,congrArg Value.bool (ri_yes (by omega) hj).symm⟩
theorem cut_ok (h:Sh) (l:List Ent) (least:Int) (G:PM) (hs:SlR G 4 Ent.cells h l) (hw:wtE l≤100000000) (hl:l.length≤100000000):Ct Tryz.prog 27 ([h.val l.length,.int .i64 least]:List Value).toArray G [] (fun _ μ' u=>μ'=[]∧u=.int .i64 (cutA least 0 l:Int)):=by
 refine Ct.of Tryz.func27 rfl Tryz.ntmps27 rfl fun w0 hs0=>?_
 refine .seq (rq1 rfl rfl (aS rfl rfl (.nil (.code (.seq (rq1 rfl rfl (aS rfl rfl (.nil (.code (.seq (.seq (rq3 rfl rfl (mV rfl rfl (ln rfl .no Fx.sn31 (.u rfl) (mV rfl rfl (.nil (.code (.block ?_))))))))))))))))))
 refine Wk.lop (α:=Nat) (fun k=>[(5,true,.int .i64 (sumA l k)),(10,true,.int .i64 (k:Int))]) (fun _=>[])
  (fun k Gl=>(k≤l.length)∧(∀ j,j<k→sumA l (j+1)<least)) (fun k=>l.length-k) 0 [(0,true,_),(1,true,_),(8,true,_),(9,true,_)] []
  (esC rfl (by first|rfl|exact evi (by omega)) (esC rfl (by first|rfl|exact evi (by omega)) (esD rfl (esD rfl (esD rfl (esD rfl eZ))))))
  mN ?_ ?_
 ·refine ⟨?_,?_⟩
  ·(try dsimp only)<;>(first|omega|rfl|assumption|(simp; done))
  (try dsimp only)<;>(exact fun j h=>absurd h (Nat.not_lt_zero _))
 intro k N0 Gl0 hN0 hGl0 hF0
 try dsimp only at hF0 hN0 ⊢
 obtain ⟨hk,hj⟩:=hF0
 have hs:=hs.mono hGl0
 have h1:=sumA_le hw hl (k:=k) (by omega)
 refine .seq (rq1 rfl rfl (cp rfl .no (.u rfl) (.u rfl) rfl (.nil (.code (.seq (.cond rfl (fun c1=>?_) (fun c1=>?_)))))))
 ·have c1k:=c1
  try simp only [qcA,qcB] at c1
  refine .skip (.code (.seq (.block (.seq (rq6 rfl rfl (mV rfl rfl (ih rfl .no Fx.se31 (.u rfl) (.u rfl) (fun _=>by omega) (fun _=>by omega) (fun _=>hs.nn (k:=k) (by first|omega|(simp only [Bool.and_eq_true,decide_eq_true_eq] at hc; omega)|(simp only [List.length_cons,List.length_nil]; omega))) ?_)))))))
  obtain ⟨x,ex⟩:=getx (k:=k) (xs:=l) (by omega)
  refine lA rfl .no Fx.ag47 (.u rfl) (fun _=>(hs.at (by omega) ex).rd) (fun _=>Ent.len _) ?_
  refine al rfl Fx.zr47 ?_; intro b7
  refine aS rfl rfl (sw rfl (.u rfl) (.u rfl) rfl Fx.sz47 .here (by first|rfl|exact Ent.len _) (Ent.one _) ?_)
  refine .nil (.code (.seq (Wk.rg [0,1,2,3,4,5,6,7,8,9,10] rfl rfl (mV rfl rfl (fz rfl .no Fx.fo47_0 (.u rfl) (ld rfl .no Fx.ag9 (.u rfl) (fun _=>Rd.own .here (by first|exact wap_f rfl|rfl)) ?_))))))
  refine ls rfl .no FxTbA.st9 (.u rfl) (fz rfl .no Fx.fo47_3 (.u rfl) (ld rfl .no Fx.ag9 (.u rfl) (fun _=>Rd.own .here (by first|exact wap_f rfl|rfl)) ?_))
  refine ls rfl .no FxTbA.st9 (.u rfl) ?_
  have hn:=sumA_next ex
  have h2:=sumA_le hw hl (k:=k+1) (by omega)
  refine arn (((x.user.size+x.value.size):Nat):Int) rfl .no (.u rfl) (.u rfl) rfl (fun _=>by omega) (fun _=>wrap_i64 (by omega) (by omega)) ?_
  refine arn ((((x.user.size+x.value.size)+8):Nat):Int) rfl .no (.u rfl) (.u rfl) rfl (fun _=>by omega) (fun _=>wrap_i64 (by omega) (by omega)) ?_
  refine ar rfl .no (.u rfl) (.u rfl) rfl (fun _=>wrap_i64 (by omega) (by omega)) ?_
  refine aS rfl rfl (.nil (.code (.seq (rq3 rfl rfl (mV rfl rfl (mV rfl rfl (cp rfl .no (.u rfl) (.u rfl) rfl (.nil (.code (.cond rfl (fun c2=>?_) (fun c2=>?_)))))))))))
  ·have c2k:=c2
   try simp only [qcA,qcB] at c2
   refine .seq (rq3 rfl rfl (mV rfl rfl (arn (((k+1):Nat):Int) rfl .no (.u rfl) (.u rfl) rfl (fun _=>by omega) (fun _=>wrap_i64 (by omega) (by omega)) ?_)))
   refine aS rfl rfl (.nil (.code (.ret (We.fin0 Tryz.results27 (.tmp rfl .nil) ?_))))
   exact ⟨rfl,by rw [cutA_at least l 0 k (by omega) (fun j h=>by have:=hj j h; omega) (by omega)]; rfl⟩
  have c2k:=c2
  try simp only [qcA,qcB] at c2
  refine .skip (.blk (.code (rq2 rfl rfl (arn (((k+1):Nat):Int) rfl .no (.u rfl) (.u rfl) rfl (fun _=>by omega) (fun _=>wrap_i64 (by omega) (by omega)) ?_))))
  refine mV rfl rfl (.nil (We.lpo (k+1) ?_ ?_ ?_ ?_ ?_))
  ·exact (esC rfl (evi (by omega)) (esC rfl (by first|rfl|exact evi (by omega)) (esD rfl (esD rfl (esD rfl (esD rfl eZ))))))
  ·exact mN
  ·first|omega|(dsimp only; omega)
  ·exact hGl0
  refine ⟨?_,?_⟩
  ·(try dsimp only)<;>(first|omega|rfl|assumption|(simp; done))
  (try dsimp only)<;>(exact cut_snoc hj (by omega))
 have c1k:=c1
 try simp only [qcA,qcB] at c1
 refine .exit (.xcode (.xlp (.xblk (.code (.seq (rq3 rfl rfl (mV rfl rfl (ln rfl .no Fx.sn31 (.u rfl) (aS rfl rfl (.nil (.code (.ret (We.fin0 Tryz.results27 (.tmp rfl .nil) ?_)))))))))))))
 exact ⟨rfl,by rw [cutA_all least l 0 (fun j h=>by have:=hj j (by omega); omega)]; rfl⟩
theorem tHead_ok (m:Meta) (G:PM) (hw:m.wf):Ct Tryz.prog 10 ([m.val]:List Value).toArray G [] (fun _ μ' u=>μ'=[]∧u=.agg ((hdM m).cells).toArray):=by
 refine Ct.of Tryz.func10 rfl Tryz.ntmps10 rfl fun w0 hs0=>?_
 refine .seq (rq2 rfl rfl ?_)
 refine bx rfl (.u rfl) rfl ?_; intro b1
 refine al rfl FxTbA.zq26 ?_; intro b2
 refine .nil (.code (.seq (rq10 rfl rfl (fz rfl .no Fx.fo36_0 (.u rfl) (ld rfl .no FxTbA.ag5 (.u rfl) (fun _=>Rd.own tk1 (by first|exact wap_f rfl|rfl)) ?_)))))
 refine fz rfl .no Fx.fo36_1 (.u rfl) (ld rfl .no FxTbA.ag24 (.u rfl) (fun _=>Rd.own tk1 (by first|exact wap_f rfl|rfl)) ?_)
 refine fz rfl .no Fx.fo36_2 (.u rfl) (ld rfl .no FxTbA.ag24 (.u rfl) (fun _=>Rd.own tk1 (by first|exact wap_f rfl|rfl)) ?_)
 refine fz rfl .no Fx.fo36_3 (.u rfl) (ld rfl .no FxTbA.ag24 (.u rfl) (fun _=>Rd.own tk1 (by first|exact wap_f rfl|rfl)) ?_)
 refine bC rfl .no Fx.bp26_0_1_2_3_4 (.cons (.u rfl) rfl (.cons (.u rfl) rfl (.cons (.u rfl) rfl (.cons (.u rfl) rfl (.cons (.u rfl) rfl .nil))))) rfl ?_
 refine sw rfl (.u rfl) (.u rfl) rfl FxTbA.sz26 .here (by first|rfl|exact Meta.len _) (one5 rfl rfl rfl rfl rfl) ?_
 refine .nil (.code (.ret (We.fin0 Tryz.results10 (.cell rfl (fun w hw=>run_loadVarN FxTbA.ag26 (RdN.own .here) ((by first|rfl|exact Meta.len _)) hw) .nil) ?_)))
 exact ⟨rfl,by rw [← hd_cells hw]; rfl⟩
namespace Fx
theorem cv3_128:cvK Tryz.prog 3 128=some .u64:=by kernel_rfl
theorem go100:goFn Tryz.prog 100=true:=by kernel_rfl
theorem mix:Tryz.prog.follows .mixedOrders=true:=by kernel_rfl
theorem zr198:zrL Tryz.prog 198=some ([.int .u32 0,.int .u32 0,.int .u32 0,.int .u32 0,.int .u32 0,.int .u32 0,.int .u32 0,.int .u32 0,.int .u32 0,.int .u32 0,.int .u32 0,.int .u32 0,.int .u32 0,.int .u32 0,.int .u32 0,.int .u32 0]):=by kernel_rfl
theorem ar198:arE Tryz.prog 198=some (16,139,1):=by kernel_rfl
theorem ag139:aggN Tryz.prog 139=some none:=by kernel_rfl
theorem sz139:szT Tryz.prog 139=some 1:=by kernel_rfl
theorem go156:goFn Tryz.prog 156=true:=by kernel_rfl
theorem ag198:aggN Tryz.prog 198=some (some 16):=by kernel_rfl
theorem sz198:szT Tryz.prog 198=some 16:=by kernel_rfl
theorem se34:slE Tryz.prog 34=some (5,1,1):=by kernel_rfl
theorem ag5:aggN Tryz.prog 5=some none:=by kernel_rfl
theorem cv5_139:cvK Tryz.prog 5 139=some .u32:=by kernel_rfl
end Fx
theorem rot_ok (x:W) (k:Int) (G:PM):Ct Tryz.prog 100 ([U x,.int .i64 k]:List Value).toArray G [] (fun _ μ' u=>μ'=[]∧u=U (rotI x k)):=by
 refine Ct.of Tryz.func100 rfl Tryz.ntmps100 rfl fun w0 hs0=>?_
 refine .seq (rq1 rfl rfl (aS rfl rfl (.nil (.code (.seq (rq4 rfl rfl (mV rfl rfl (ci rfl .no rfl Fx.cv3_128 (.u rfl) ?_))))))))
 refine bw (k:=.u64) (b:=31#64) rfl .no rfl (.u rfl) (.u rfl) rfl (aS rfl rfl (.nil (.code (.seq (rq9 rfl rfl (mV rfl rfl (mV rfl rfl (lw (k:=.u32) rfl .no rfl (.u rfl) (.u rfl) (fun _=>Int.natCast_nonneg _) ?_))))))))
 refine mV rfl rfl (mV rfl rfl (bw (k:=.u64) (a:=32#64) rfl .no rfl (.u rfl) (.u rfl) rfl (rw' (k:=.u32) rfl .no (.u rfl) (.u rfl) (fun _=>Int.natCast_nonneg _) ?_)))
 refine bw (k:=.u32) rfl .no rfl (.u rfl) (.u rfl) rfl (aS rfl rfl (.nil (.code (.ret (We.fin0 Tryz.results100 (.tmp rfl .nil) ?_)))))
 exact ⟨rfl,rfl⟩
theorem mix_ok (a b c d:W) (G:PM):Ct Tryz.prog 151 ([U a,U b,U c,U d]:List Value).toArray G [] (fun _ μ' u=>μ'=[]∧u=mixV (mixW a b c d)):=by
 refine Ct.of Tryz.func151 rfl Tryz.ntmps151 rfl fun w0 hs0=>?_
 refine .seq (rq4 rfl rfl (aS rfl rfl (aS rfl rfl (aS rfl rfl (aS rfl rfl (.nil (.code (.seq (rq4 rfl rfl (mV rfl rfl (mV rfl rfl (bw (k:=.u32) rfl .no rfl (.u rfl) (.u rfl) rfl (aS rfl rfl (.nil (.code (.seq (rq5 rfl rfl (mV rfl rfl (mV rfl rfl (bw (k:=.u32) rfl .no rfl (.u rfl) (.u rfl) rfl (kv rfl .no Fx.go100 (Evc rfl (Evc rfl Evn)) (fun _=>rot_ok _ _ _) ?_)))))))))))))))))))))
 refine aS rfl rfl (.nil (.code (.seq (rq4 rfl rfl (mV rfl rfl (mV rfl rfl (bw (k:=.u32) rfl .no rfl (.u rfl) (.u rfl) rfl (aS rfl rfl (.nil (.code (.seq (rq5 rfl rfl (mV rfl rfl (mV rfl rfl (bw (k:=.u32) rfl .no rfl (.u rfl) (.u rfl) rfl (kv rfl .no Fx.go100 (Evc rfl (Evc rfl Evn)) (fun _=>rot_ok _ _ _) ?_))))))))))))))))
 refine aS rfl rfl (.nil (.code (.seq (rq4 rfl rfl (mV rfl rfl (mV rfl rfl (bw (k:=.u32) rfl .no rfl (.u rfl) (.u rfl) rfl (aS rfl rfl (.nil (.code (.seq (rq5 rfl rfl (mV rfl rfl (mV rfl rfl (bw (k:=.u32) rfl .no rfl (.u rfl) (.u rfl) rfl (kv rfl .no Fx.go100 (Evc rfl (Evc rfl Evn)) (fun _=>rot_ok _ _ _) ?_))))))))))))))))
 refine aS rfl rfl (.nil (.code (.seq (rq4 rfl rfl (mV rfl rfl (mV rfl rfl (bw (k:=.u32) rfl .no rfl (.u rfl) (.u rfl) rfl (aS rfl rfl (.nil (.code (.seq (rq5 rfl rfl (mV rfl rfl (mV rfl rfl (bw (k:=.u32) rfl .no rfl (.u rfl) (.u rfl) rfl (kv rfl .no Fx.go100 (Evc rfl (Evc rfl Evn)) (fun _=>rot_ok _ _ _) ?_))))))))))))))))
 refine aS rfl rfl (.nil (.code (.seq (rq8 rfl rfl (mV rfl rfl (mV rfl rfl (mV rfl rfl (mV rfl rfl (aS rfl rfl (aS rfl rfl (aS rfl rfl (aS rfl rfl (.nil (.code (.ret (We.fin0 Tryz.results151 (.tmp rfl (.tmp rfl (.tmp rfl (.tmp rfl .nil)))) ?_))))))))))))))))
 exact ⟨rfl,rfl⟩
theorem turn_ok (x:W) (k:Nat) (G:PM) (hk:k≤32):Ct Tryz.prog 156 ([U x,.int .i64 (k:Int)]:List Value).toArray G [] (fun _ μ' u=>μ'=[]∧u=U (rotl x k)):=by
 refine Ct.of Tryz.func156 rfl Tryz.ntmps156 rfl fun w0 hs0=>?_
 refine .seq (rq1 rfl rfl (aS rfl rfl (.nil (.code (.seq (Wk.draw (mc:=⟨false,false⟩) [0,1,2,3,4,5,6,7,8] Fx.mix (by kernel_rfl) ?_))))))
 refine mV rfl rfl (mV rfl rfl (lw (k:=.u32) rfl .no rfl (.u rfl) (.u rfl) (fun _=>by omega) ?_))
 refine mV rfl rfl (mV rfl rfl (ar rfl .no (.u rfl) (.u rfl) rfl (fun _=>wrap_i64 (by omega) (by omega)) ?_))
 refine rw' (k:=.u32) rfl .no (.u rfl) (.u rfl) (fun _=>by omega) ?_
 refine bw (k:=.u32) rfl .no rfl (.u rfl) (.u rfl) rfl (aS rfl rfl (.nil (.code (.ret (We.fin0 Tryz.results156 (.tmp rfl .nil) ?_)))))
 exact ⟨rfl,turn_fin x hk⟩
theorem quarter_ok (y:Nat→W) (a b c d:Nat) (ia ib ic id:Int) (G:PM) (ea:ia=(a:Int)) (eb0:ib=(b:Int)) (ec:ic=(c:Int)) (ed:id=(d:Int)) (ha:a<16) (hb:b<16) (hc0:c<16) (hd:d<16):Ct Tryz.prog 154 ([.agg (wa 16 y).toArray,.int .i64 ia,.int .i64 ib,.int .i64 ic,.int .i64 id]:List Value).toArray G [] (fun _ μ' u=>μ'=[]∧u=.agg (wa 16 (quarterW y a b c d)).toArray):=by
 refine Ct.of Tryz.func154 rfl Tryz.ntmps154 rfl fun w0 hs0=>?_
 refine .seq (rq2 rfl rfl ?_)
 refine bx rfl (.u rfl) rfl ?_; intro b5
 refine al rfl Fx.zr198 ?_; intro b10
 refine .nil (.code (.seq (Wk.draw (mc:=⟨false,false⟩) [0,1,2,3,4,5,6,7,8,9] Fx.mix (by kernel_rfl) ?_)))
 refine mV rfl rfl (mV rfl rfl (iA rfl .no Fx.ar198 (.u rfl) (.u rfl) (fun _=>by omega) (fun _=>by omega) ?_))
 refine ld rfl .no Fx.ag139 (.u rfl) (fun _=>Rd.own tk1 (wa_at1 a (by omega) (by omega))) ?_
 refine mV rfl rfl (iA rfl .no Fx.ar198 (.u rfl) (.u rfl) (fun _=>by omega) (fun _=>by omega) ?_)
 refine ld rfl .no Fx.ag139 (.u rfl) (fun _=>Rd.own tk1 (wa_at1 b (by omega) (by omega))) ?_
 refine bw (k:=.u32) rfl .no rfl (.u rfl) (.u rfl) rfl (iA rfl .no Fx.ar198 (.u rfl) (.u rfl) (fun _=>by omega) (fun _=>by omega) ?_)
 refine s1 rfl (.u rfl) (.u rfl) rfl Fx.sz139 tk1 (by rw [wa_len]; omega) (wa_set1 a (by omega)) ?_
 refine .nil (.code (.seq (Wk.draw (mc:=⟨false,false⟩) [0,1,2,3,4,5,6,7,8,9,10] Fx.mix (by kernel_rfl) ?_)))
 refine mV rfl rfl (mV rfl rfl (iA rfl .no Fx.ar198 (.u rfl) (.u rfl) (fun _=>by omega) (fun _=>by omega) ?_))
 refine ld rfl .no Fx.ag139 (.u rfl) (fun _=>Rd.own .here (wa_at1 d (by omega) (by omega))) ?_
 refine mV rfl rfl (iA rfl .no Fx.ar198 (.u rfl) (.u rfl) (fun _=>by omega) (fun _=>by omega) ?_)
 refine ld rfl .no Fx.ag139 (.u rfl) (fun _=>Rd.own .here (wa_at1 a (by omega) (by omega))) ?_
 refine bw (k:=.u32) rfl .no rfl (.u rfl) (.u rfl) rfl (kv rfl .no Fx.go156 (Evc rfl (Evc rfl Evn)) (fun _=>turn_ok _ 16 _ (by decide)) ?_)
 refine iA rfl .no Fx.ar198 (.u rfl) (.u rfl) (fun _=>by omega) (fun _=>by omega) ?_
 refine s1 rfl (.u rfl) (.u rfl) rfl Fx.sz139 .here (by rw [wa_len]; omega) (wa_set1 d (by omega)) ?_
 refine .nil (.code (.seq (Wk.draw (mc:=⟨false,false⟩) [0,1,2,3,4,5,6,7,8,9] Fx.mix (by kernel_rfl) ?_)))
 refine mV rfl rfl (mV rfl rfl (iA rfl .no Fx.ar198 (.u rfl) (.u rfl) (fun _=>by omega) (fun _=>by omega) ?_))
 refine ld rfl .no Fx.ag139 (.u rfl) (fun _=>Rd.own .here (wa_at1 c (by omega) (by omega))) ?_
 refine mV rfl rfl (iA rfl .no Fx.ar198 (.u rfl) (.u rfl) (fun _=>by omega) (fun _=>by omega) ?_)
 refine ld rfl .no Fx.ag139 (.u rfl) (fun _=>Rd.own .here (wa_at1 d (by omega) (by omega))) ?_
 refine bw (k:=.u32) rfl .no rfl (.u rfl) (.u rfl) rfl (iA rfl .no Fx.ar198 (.u rfl) (.u rfl) (fun _=>by omega) (fun _=>by omega) ?_)
 refine s1 rfl (.u rfl) (.u rfl) rfl Fx.sz139 .here (by rw [wa_len]; omega) (wa_set1 c (by omega)) ?_
 refine .nil (.code (.seq (Wk.draw (mc:=⟨false,false⟩) [0,1,2,3,4,5,6,7,8,9,10] Fx.mix (by kernel_rfl) ?_)))
 refine mV rfl rfl (mV rfl rfl (iA rfl .no Fx.ar198 (.u rfl) (.u rfl) (fun _=>by omega) (fun _=>by omega) ?_))
 refine ld rfl .no Fx.ag139 (.u rfl) (fun _=>Rd.own .here (wa_at1 b (by omega) (by omega))) ?_
 refine mV rfl rfl (iA rfl .no Fx.ar198 (.u rfl) (.u rfl) (fun _=>by omega) (fun _=>by omega) ?_)
 refine ld rfl .no Fx.ag139 (.u rfl) (fun _=>Rd.own .here (wa_at1 c (by omega) (by omega))) ?_
 refine bw (k:=.u32) rfl .no rfl (.u rfl) (.u rfl) rfl (kv rfl .no Fx.go156 (Evc rfl (Evc rfl Evn)) (fun _=>turn_ok _ 12 _ (by decide)) ?_)
 refine iA rfl .no Fx.ar198 (.u rfl) (.u rfl) (fun _=>by omega) (fun _=>by omega) ?_
 refine s1 rfl (.u rfl) (.u rfl) rfl Fx.sz139 .here (by rw [wa_len]; omega) (wa_set1 b (by omega)) ?_
 refine .nil (.code (.seq (Wk.draw (mc:=⟨false,false⟩) [0,1,2,3,4,5,6,7,8,9] Fx.mix (by kernel_rfl) ?_)))
 refine mV rfl rfl (mV rfl rfl (iA rfl .no Fx.ar198 (.u rfl) (.u rfl) (fun _=>by omega) (fun _=>by omega) ?_))
 refine ld rfl .no Fx.ag139 (.u rfl) (fun _=>Rd.own .here (wa_at1 a (by omega) (by omega))) ?_
 refine mV rfl rfl (iA rfl .no Fx.ar198 (.u rfl) (.u rfl) (fun _=>by omega) (fun _=>by omega) ?_)
 refine ld rfl .no Fx.ag139 (.u rfl) (fun _=>Rd.own .here (wa_at1 b (by omega) (by omega))) ?_
 refine bw (k:=.u32) rfl .no rfl (.u rfl) (.u rfl) rfl (iA rfl .no Fx.ar198 (.u rfl) (.u rfl) (fun _=>by omega) (fun _=>by omega) ?_)
 refine s1 rfl (.u rfl) (.u rfl) rfl Fx.sz139 .here (by rw [wa_len]; omega) (wa_set1 a (by omega)) ?_
 refine .nil (.code (.seq (Wk.draw (mc:=⟨false,false⟩) [0,1,2,3,4,5,6,7,8,9,10] Fx.mix (by kernel_rfl) ?_)))
 refine mV rfl rfl (mV rfl rfl (iA rfl .no Fx.ar198 (.u rfl) (.u rfl) (fun _=>by omega) (fun _=>by omega) ?_))
 refine ld rfl .no Fx.ag139 (.u rfl) (fun _=>Rd.own .here (wa_at1 d (by omega) (by omega))) ?_
 refine mV rfl rfl (iA rfl .no Fx.ar198 (.u rfl) (.u rfl) (fun _=>by omega) (fun _=>by omega) ?_)
 refine ld rfl .no Fx.ag139 (.u rfl) (fun _=>Rd.own .here (wa_at1 a (by omega) (by omega))) ?_
 refine bw (k:=.u32) rfl .no rfl (.u rfl) (.u rfl) rfl (kv rfl .no Fx.go156 (Evc rfl (Evc rfl Evn)) (fun _=>turn_ok _ 8 _ (by decide)) ?_)
 refine iA rfl .no Fx.ar198 (.u rfl) (.u rfl) (fun _=>by omega) (fun _=>by omega) ?_
 refine s1 rfl (.u rfl) (.u rfl) rfl Fx.sz139 .here (by rw [wa_len]; omega) (wa_set1 d (by omega)) ?_
 refine .nil (.code (.seq (Wk.draw (mc:=⟨false,false⟩) [0,1,2,3,4,5,6,7,8,9] Fx.mix (by kernel_rfl) ?_)))
 refine mV rfl rfl (mV rfl rfl (iA rfl .no Fx.ar198 (.u rfl) (.u rfl) (fun _=>by omega) (fun _=>by omega) ?_))
 refine ld rfl .no Fx.ag139 (.u rfl) (fun _=>Rd.own .here (wa_at1 c (by omega) (by omega))) ?_
 refine mV rfl rfl (iA rfl .no Fx.ar198 (.u rfl) (.u rfl) (fun _=>by omega) (fun _=>by omega) ?_)
 refine ld rfl .no Fx.ag139 (.u rfl) (fun _=>Rd.own .here (wa_at1 d (by omega) (by omega))) ?_
 refine bw (k:=.u32) rfl .no rfl (.u rfl) (.u rfl) rfl (iA rfl .no Fx.ar198 (.u rfl) (.u rfl) (fun _=>by omega) (fun _=>by omega) ?_)
 refine s1 rfl (.u rfl) (.u rfl) rfl Fx.sz139 .here (by rw [wa_len]; omega) (wa_set1 c (by omega)) ?_
 refine .nil (.code (.seq (Wk.draw (mc:=⟨false,false⟩) [0,1,2,3,4,5,6,7,8,9,10] Fx.mix (by kernel_rfl) ?_)))
 refine mV rfl rfl (mV rfl rfl (iA rfl .no Fx.ar198 (.u rfl) (.u rfl) (fun _=>by omega) (fun _=>by omega) ?_))
 refine ld rfl .no Fx.ag139 (.u rfl) (fun _=>Rd.own .here (wa_at1 b (by omega) (by omega))) ?_
 refine mV rfl rfl (iA rfl .no Fx.ar198 (.u rfl) (.u rfl) (fun _=>by omega) (fun _=>by omega) ?_)
 refine ld rfl .no Fx.ag139 (.u rfl) (fun _=>Rd.own .here (wa_at1 c (by omega) (by omega))) ?_
 refine bw (k:=.u32) rfl .no rfl (.u rfl) (.u rfl) rfl (kv rfl .no Fx.go156 (Evc rfl (Evc rfl Evn)) (fun _=>turn_ok _ 7 _ (by decide)) ?_)
 refine iA rfl .no Fx.ar198 (.u rfl) (.u rfl) (fun _=>by omega) (fun _=>by omega) ?_
 refine s1 rfl (.u rfl) (.u rfl) rfl Fx.sz139 .here (by rw [wa_len]; omega) (wa_set1 b (by omega)) ?_
 refine .nil (.code (.seq (rq2 rfl rfl (lA rfl .no Fx.ag198 (.u rfl) (fun _=>RdN.own .here) (fun _=>rfl) ?_))))
 refine sw rfl (.u rfl) (.u rfl) rfl Fx.sz198 tk1 rfl (wa_one _ _) ?_
 refine .nil (.code (.ret (We.fin0 Tryz.results154 (.cell rfl (fun w hw=>run_loadVarN Fx.ag198 (RdN.own .here) rfl hw) .nil) ?_)))
 exact ⟨rfl,rfl⟩
theorem word_ok (h:Sh) (xs:List Y) (j:Int) (k:Nat) (G:PM) (hs:SlR G 1 encY h xs) (hj:j=(k:Int)) (hk:k+3<xs.length) (hl:xs.length≤140737488351232):Ct Tryz.prog 153 ([h.val xs.length,.int .i64 j]:List Value).toArray G [] (fun _ μ' u=>μ'=[]∧u=U (wordW (fun i=>xs.getD i 0) k)):=by
 refine Ct.of Tryz.func153 rfl Tryz.ntmps153 rfl fun w0 hs0=>?_
 refine .seq (rq1 rfl rfl (aS rfl rfl (.nil (.code (.seq (Wk.draw (mc:=⟨false,false⟩) [0,1,2,3,4,5,6,7,8,9,10,11,12,13,14,15,16,17,18,19,20,21,22,23,24,25,26,27,28,29] Fx.mix (by kernel_rfl) ?_))))))
 refine mV rfl rfl (mV rfl rfl (ih rfl .no Fx.se34 (.u rfl) (.u rfl) (fun _=>by omega) (fun _=>by omega) (fun _=>hs.nn (k:=k) (by omega)) ?_))
 refine ld rfl .no Fx.ag5 (.u rfl) (fun _=>(hs.yat (k) (by omega) (by omega)).rd) ?_
 refine cu (k:=.u8) rfl .no rfl Fx.cv5_139 (.u rfl) ?_
 refine mV rfl rfl (mV rfl rfl (ar rfl .no (.u rfl) (.u rfl) rfl (fun _=>wrap_i64 (by omega) (by omega)) ?_))
 refine ih rfl .no Fx.se34 (.u rfl) (.u rfl) (fun _=>by omega) (fun _=>by omega) (fun _=>hs.nn (k:=k+1) (by omega)) ?_
 refine ld rfl .no Fx.ag5 (.u rfl) (fun _=>(hs.yat (k+1) (by omega) (by omega)).rd) ?_
 refine cu (k:=.u8) rfl .no rfl Fx.cv5_139 (.u rfl) ?_
 refine bw (k:=.u32) (b:=256#32) rfl .no rfl (.u rfl) (.u rfl) rfl (bw (k:=.u32) rfl .no rfl (.u rfl) (.u rfl) rfl (mV rfl rfl (mV rfl rfl (ar rfl .no (.u rfl) (.u rfl) rfl (fun _=>wrap_i64 (by omega) (by omega)) ?_))))
 refine ih rfl .no Fx.se34 (.u rfl) (.u rfl) (fun _=>by omega) (fun _=>by omega) (fun _=>hs.nn (k:=k+2) (by omega)) ?_
 refine ld rfl .no Fx.ag5 (.u rfl) (fun _=>(hs.yat (k+2) (by omega) (by omega)).rd) ?_
 refine cu (k:=.u8) rfl .no rfl Fx.cv5_139 (.u rfl) ?_
 refine bw (k:=.u32) (b:=65536#32) rfl .no rfl (.u rfl) (.u rfl) rfl (bw (k:=.u32) rfl .no rfl (.u rfl) (.u rfl) rfl (mV rfl rfl (mV rfl rfl (ar rfl .no (.u rfl) (.u rfl) rfl (fun _=>wrap_i64 (by omega) (by omega)) ?_))))
 refine ih rfl .no Fx.se34 (.u rfl) (.u rfl) (fun _=>by omega) (fun _=>by omega) (fun _=>hs.nn (k:=k+3) (by omega)) ?_
 refine ld rfl .no Fx.ag5 (.u rfl) (fun _=>(hs.yat (k+3) (by omega) (by omega)).rd) ?_
 refine cu (k:=.u8) rfl .no rfl Fx.cv5_139 (.u rfl) ?_
 refine bw (k:=.u32) (b:=16777216#32) rfl .no rfl (.u rfl) (.u rfl) rfl (bw (k:=.u32) rfl .no rfl (.u rfl) (.u rfl) rfl (aS rfl rfl (.nil (.code (.ret (We.fin0 Tryz.results153 (.tmp rfl .nil) ?_))))))
 exact ⟨rfl,rfl⟩
namespace Fx
theorem zq188:zrL Tryz.prog 188=some (ba 64 (fun _=>0#8)):=by kernel_rfl
theorem bp198_0_1_2_3:bPl Tryz.prog 198 [0,1,2,3]=some ([.int .u32 0,.int .u32 0,.int .u32 0,.int .u32 0,.int .u32 0,.int .u32 0,.int .u32 0,.int .u32 0,.int .u32 0,.int .u32 0,.int .u32 0,.int .u32 0,.int .u32 0,.int .u32 0,.int .u32 0,.int .u32 0],[(0,1),(1,1),(2,1),(3,1)]):=by kernel_rfl
theorem ar22:arE Tryz.prog 22=some (32,5,1):=by kernel_rfl
theorem go153:goFn Tryz.prog 153=true:=by kernel_rfl
theorem ar124:arE Tryz.prog 124=some (12,5,1):=by kernel_rfl
theorem go154:goFn Tryz.prog 154=true:=by kernel_rfl
theorem cv139_5:cvK Tryz.prog 139 5=some .u8:=by kernel_rfl
theorem ar188:arE Tryz.prog 188=some (64,5,1):=by kernel_rfl
theorem sz5:szT Tryz.prog 5=some 1:=by kernel_rfl
theorem ag188:aggN Tryz.prog 188=some (some 64):=by kernel_rfl
theorem sz188:szT Tryz.prog 188=some 64:=by kernel_rfl
theorem sn34:(slE Tryz.prog 34).isSome=true:=by kernel_rfl
theorem ag22:aggN Tryz.prog 22=some (some 32):=by kernel_rfl
theorem ag124:aggN Tryz.prog 124=some (some 12):=by kernel_rfl
theorem cv3_139:cvK Tryz.prog 3 139=some .u32:=by kernel_rfl
theorem go138:goFn Tryz.prog 138=true:=by kernel_rfl
theorem zv5:(Tryz.prog.info? 5).bind (·.zero)=some (.int .u8 0):=by kernel_rfl
end Fx
theorem word_arr (b n:Nat) (T:TypeId) (f:Nat→Y) (j:Int) (k:Nat) (G:PM) (hj:j=((4*k:Nat):Int)) (hk:4*k+3<n) (hn:n≤1000):Ct Tryz.prog 153 ([.slice (some ⟨b,0,none⟩) n n,.int .i64 j]:List Value).toArray (G.add b (cl (ba n f) T)) [] (fun _ μ' u=>μ'=[]∧u=U (wordW f (4*k))):=by
 have hw:=word_ok ⟨some ⟨b,0,none⟩,n⟩ (yl n f) j (4*k) (G.add b (cl (ba n f) T)) ba_sl hj (by rw [yl_len]; exact hk) (by rw [yl_len]; omega)
 rw [wordW_congr (f':=f) (fun j hj=>yl_at (by omega)),yl_len] at hw
 exact hw
theorem rBlock_ok (key nonce:Nat→Y) (count:W) (G:PM):Ct Tryz.prog 138 ([.agg (ba 32 key).toArray,.agg (ba 12 nonce).toArray,U count]:List Value).toArray G [] (fun _ μ' u=>μ'=[]∧u=.agg (ba 64 (chaB key nonce count)).toArray):=by
 refine Ct.of Tryz.func138 rfl Tryz.ntmps138 rfl fun w0 hs0=>?_
 refine .seq (rq3 rfl rfl ?_)
 refine bx rfl (.u rfl) rfl ?_; intro b3
 refine bx rfl (.u rfl) rfl ?_; intro b4
 refine al rfl Fx.zq188 ?_; intro b6
 refine .nil (.code (.seq (rq3 rfl rfl (bC rfl .no Fx.bp198_0_1_2_3 (.cons (.u rfl) rfl (.cons (.u rfl) rfl (.cons (.u rfl) rfl (.cons (.u rfl) rfl .nil)))) rfl ?_))))
 refine al rfl Fx.zr198 ?_; intro b7
 refine sw rfl (.u rfl) (.u rfl) rfl Fx.sz198 .here rfl (by decide) ?_
 refine .nil (.code (.seq (.seq (rq1 rfl rfl (aS rfl rfl (.nil (.code (.block ?_))))))))
 refine Wk.lop (α:=Nat) (fun k=>[(8,true,.int .i64 (k:Int))]) (fun k=>[.blk b7 (cl (wa 16 (x1 key k)) 198)])
  (fun k Gl=>k≤8) (fun k=>8-k) 0 [(2,true,_),(3,true,_),(4,true,_),(6,true,_),(7,true,_)] [.blk b6 _,.blk b4 _,.blk b3 _]
  (esD rfl (esD rfl (esD rfl (esD rfl (esD rfl (esD rfl eZ))))))
  (mS .here rfl (mS .here rfl (mS .here rfl (mS .here rfl mN)))) ?_ ?_
 ·show 0≤8; omega
 intro k N0 Gl0 hN0 hGl0 hF0
 try dsimp only at hF0 hN0 ⊢
 have hk:k≤8:=hF0
 refine .seq (.seq (rq2 rfl rfl (mV rfl rfl (cp rfl .no (.u rfl) (.u rfl) rfl (.nil (.code (.cond rfl (fun c1=>?_) (fun c1=>?_))))))))
 ·have c1k:=c1
  try simp only [qcA] at c1
  refine .skip (.code (.seq (.block (rq8 rfl rfl (mV rfl rfl (ar rfl .no (.u rfl) (.u rfl) rfl (fun _=>wrap_i64 (by omega) (by omega)) ?_))))))
  refine sa0 rfl .no Fx.ar22 (.u rfl) (mV rfl rfl (ar rfl .no (.u rfl) (.u rfl) rfl (fun _=>wrap_i64 (by omega) (by omega)) ?_))
  refine kp rfl .no Fx.go153 (Evc rfl (Evc rfl Evn)) (Gp.add tk3 Gp.nil) (fun _ hle hq=>word_arr _ _ _ key _ k _ (by omega) (by omega) (by decide)) ?_
  refine iA rfl .no Fx.ar198 (.u rfl) (.u rfl) (fun _=>by omega) (fun _=>by omega) ?_
  refine s1 rfl (.u rfl) (.u rfl) rfl Fx.sz139 .here (by rw [wa_len]; omega) (wa_set1 (4+k) (by omega)) ?_
  refine .nil (.blk (.code (rq3 rfl rfl (mV rfl rfl (ar rfl .no (.u rfl) (.u rfl) rfl (fun _=>wrap_i64 (by omega) (by omega)) ?_)))))
  refine aS rfl rfl (.nil (We.lpo (k+1) ?_ ?_ ?_ ?_ ?_))
  ·exact (esD rfl (esD rfl (esD rfl (esD rfl (esD rfl (esD rfl eZ))))))
  ·exact (mS .here rfl (mS .here rfl (mS .here rfl (mS .here rfl mN))))
  ·first|omega|(dsimp only; omega)
  ·exact hGl0
  show k+1≤8; omega
 have c1k:=c1
 try simp only [qcA] at c1
 refine .exit (.xcode (.xlp (.xblk (.code (.seq (rq3 rfl rfl ?_))))))
 obtain rfl:k=8:=by omega
 refine mV rfl rfl (iA rfl .no Fx.ar198 (.u rfl) (.u rfl) (fun _=>by decide) (fun _=>by decide) ?_)
 refine s1 rfl (.u rfl) (.u rfl) rfl Fx.sz139 .here (by rw [wa_len]; decide) (wa_set1 12 rfl) ?_
 refine .nil (.code (.seq (.seq (rq1 rfl rfl (aS rfl rfl (.nil (.code (.block ?_))))))))
 refine Wk.lop (α:=Nat) (fun j=>[(9,true,.int .i64 (j:Int))]) (fun j=>[.blk b7 (cl (wa 16 (x2 key nonce count j)) 198)])
  (fun j Gl=>j≤3) (fun j=>3-j) 0 [(4,true,_),(6,true,_),(7,true,_)] [.blk b6 _,.blk b4 _,.blk b3 _]
  (esD rfl (esD rfl (esD rfl (esD rfl eZ))))
  (mS .here rfl (mS .here rfl (mS .here rfl (mS .here rfl mN)))) ?_ ?_
 ·show 0≤3; omega
 intro j N1 Gl1 hN1 hGl1 hF1
 try dsimp only at hF1 hN1 ⊢
 have hj:j≤3:=hF1
 refine .seq (.seq (rq2 rfl rfl (mV rfl rfl (cp rfl .no (.u rfl) (.u rfl) rfl (.nil (.code (.cond rfl (fun c2=>?_) (fun c2=>?_))))))))
 ·have c2k:=c2
  try simp only [qcA] at c2
  refine .skip (.code (.seq (.block (rq8 rfl rfl (mV rfl rfl (ar rfl .no (.u rfl) (.u rfl) rfl (fun _=>wrap_i64 (by omega) (by omega)) ?_))))))
  refine sa0 rfl .no Fx.ar124 (.u rfl) (mV rfl rfl (ar rfl .no (.u rfl) (.u rfl) rfl (fun _=>wrap_i64 (by omega) (by omega)) ?_))
  refine kp rfl .no Fx.go153 (Evc rfl (Evc rfl Evn)) (Gp.add tk2 Gp.nil) (fun _ hle hq=>word_arr _ _ _ nonce _ j _ (by omega) (by omega) (by decide)) ?_
  refine iA rfl .no Fx.ar198 (.u rfl) (.u rfl) (fun _=>by omega) (fun _=>by omega) ?_
  refine s1 rfl (.u rfl) (.u rfl) rfl Fx.sz139 .here (by rw [wa_len]; omega) (wa_set1 (13+j) (by omega)) ?_
  refine .nil (.blk (.code (rq3 rfl rfl (mV rfl rfl (ar rfl .no (.u rfl) (.u rfl) rfl (fun _=>wrap_i64 (by omega) (by omega)) ?_)))))
  refine aS rfl rfl (.nil (We.lpo (j+1) ?_ ?_ ?_ ?_ ?_))
  ·exact (esD rfl (esD rfl (esD rfl (esD rfl eZ))))
  ·exact (mS .here rfl (mS .here rfl (mS .here rfl (mS .here rfl mN))))
  ·first|omega|(dsimp only; omega)
  ·exact hGl1
  show j+1≤3; omega
 have c2k:=c2
 try simp only [qcA] at c2
 refine .exit (.xcode (.xlp (.xblk (.code (.seq (rq3 rfl rfl ?_))))))
 obtain rfl:j=3:=by omega
 refine lA rfl .no Fx.ag198 (.u rfl) (fun _=>RdN.own .here) (fun _=>rfl) ?_
 refine al rfl Fx.zr198 ?_; intro b10
 refine sw rfl (.u rfl) (.u rfl) rfl Fx.sz198 .here rfl (wa_one _ _) ?_
 refine .nil (.code (.seq (.seq (rq1 rfl rfl (aS rfl rfl (.nil (.code (.block ?_))))))))
 refine Wk.lop (α:=Nat) (fun r=>[(11,true,.int .i64 (r:Int))]) (fun r=>[.blk b10 (cl (wa 16 (rounds (x2 key nonce count 3) r)) 198)])
  (fun r Gl=>r≤10) (fun r=>10-r) 0 [(6,true,_),(7,true,_),(10,true,_)] [.blk b7 _,.blk b6 _,.blk b4 _,.blk b3 _]
  (esD rfl (esD rfl (esD rfl (esD rfl eZ))))
  (mS .here rfl (mS .here rfl (mS .here rfl (mS .here rfl (mS .here rfl mN))))) ?_ ?_
 ·show 0≤10; omega
 intro r N2 Gl2 hN2 hGl2 hF2
 try dsimp only at hF2 hN2 ⊢
 have hr:r≤10:=hF2
 refine .seq (.seq (rq2 rfl rfl (mV rfl rfl (cp rfl .no (.u rfl) (.u rfl) rfl (.nil (.code (.cond rfl (fun c3=>?_) (fun c3=>?_))))))))
 ·have c3k:=c3
  try simp only [qcA] at c3
  refine .skip (.code (.seq (.block (.seq (.seq (rq1 rfl rfl (aS rfl rfl (.nil (.code (.block ?_))))))))))
  refine Wk.lop (α:=Nat) (fun q=>[(12,true,.int .i64 (q:Int))]) (fun q=>[.blk b10 (cl (wa 16 (cols (rounds (x2 key nonce count 3) r) q)) 198)])
   (fun q Gl=>q≤4) (fun q=>4-q) 0 [(6,true,_),(7,true,_),(10,true,_),(11,true,_)] [.blk b7 _,.blk b6 _,.blk b4 _,.blk b3 _]
   (esD rfl (esD rfl (esD rfl (esD rfl (esD rfl eZ)))))
   (mS .here rfl (mS .here rfl (mS .here rfl (mS .here rfl (mS .here rfl mN))))) ?_ ?_
  ·show 0≤4; omega
  intro q N3 Gl3 hN3 hGl3 hF3
  try dsimp only at hF3 hN3 ⊢
  have hq:q≤4:=hF3
  refine .seq (.seq (rq2 rfl rfl (mV rfl rfl (cp rfl .no (.u rfl) (.u rfl) rfl (.nil (.code (.cond rfl (fun c4=>?_) (fun c4=>?_))))))))
  ·have c4k:=c4
   try simp only [qcA] at c4
   refine .skip (.code (.seq (.block (rq10 rfl rfl (lA rfl .no Fx.ag198 (.u rfl) (fun _=>RdN.own .here) (fun _=>rfl) ?_)))))
   refine mV rfl rfl (mV rfl rfl (ar rfl .no (.u rfl) (.u rfl) rfl (fun _=>wrap_i64 (by omega) (by omega)) ?_))
   refine mV rfl rfl (ar rfl .no (.u rfl) (.u rfl) rfl (fun _=>wrap_i64 (by omega) (by omega)) ?_)
   refine mV rfl rfl (ar rfl .no (.u rfl) (.u rfl) rfl (fun _=>wrap_i64 (by omega) (by omega)) ?_)
   refine kv rfl .no Fx.go154 (Evc rfl (Evc rfl (Evc rfl (Evc rfl (Evc rfl Evn))))) (fun _=>quarter_ok (cols (rounds (x2 key nonce count 3) r) q) q (4+q) (8+q) (12+q) _ _ _ _ _ (by first|rfl|omega) (by omega) (by omega) (by omega) (by omega) (by omega) (by omega) (by omega)) ?_
   refine sw rfl (.u rfl) (.u rfl) rfl Fx.sz198 .here rfl (wa_one _ _) ?_
   refine .nil (.blk (.code (rq3 rfl rfl (mV rfl rfl (ar rfl .no (.u rfl) (.u rfl) rfl (fun _=>wrap_i64 (by omega) (by omega)) ?_)))))
   refine aS rfl rfl (.nil (We.lpo (q+1) ?_ ?_ ?_ ?_ ?_))
   ·exact (esD rfl (esD rfl (esD rfl (esD rfl (esD rfl eZ)))))
   ·exact (mS .here rfl (mS .here rfl (mS .here rfl (mS .here rfl (mS .here rfl mN)))))
   ·first|omega|(dsimp only; omega)
   ·exact hGl3
   show q+1≤4; omega
  have c4k:=c4
  try simp only [qcA] at c4
  refine .exit (.xcode (.xlp (.xblk (.code (.seq (rq1 rfl rfl ?_))))))
  obtain rfl:q=4:=by omega
  refine aS rfl rfl (.nil (.code (.block ?_)))
  refine Wk.lop (α:=Nat) (fun p=>[(13,true,.int .i64 (p:Int))]) (fun p=>[.blk b10 (cl (wa 16 (diags (cols (rounds (x2 key nonce count 3) r) 4) p)) 198)])
   (fun p Gl=>p≤4) (fun p=>4-p) 0 [(6,true,_),(7,true,_),(10,true,_),(11,true,_)] [.blk b7 _,.blk b6 _,.blk b4 _,.blk b3 _]
   (esD rfl (esD rfl (esD rfl (esD rfl (esD rfl eZ)))))
   (mS .here rfl (mS .here rfl (mS .here rfl (mS .here rfl (mS .here rfl mN))))) ?_ ?_
  ·show 0≤4; omega
  intro p N4 Gl4 hN4 hGl4 hF4
  try dsimp only at hF4 hN4 ⊢
  have hp:p≤4:=hF4
  refine .seq (.seq (rq2 rfl rfl (mV rfl rfl (cp rfl .no (.u rfl) (.u rfl) rfl (.nil (.code (.cond rfl (fun c5=>?_) (fun c5=>?_))))))))
  ·have c5k:=c5
   try simp only [qcA] at c5
   refine .skip (.code (.seq (.block (Wk.rg [0,1,2,3,4,5,6,7,8,9,10,11,12,13,14,15] rfl rfl (lA rfl .no Fx.ag198 (.u rfl) (fun _=>RdN.own .here) (fun _=>rfl) ?_)))))
   refine mV rfl rfl (mV rfl rfl (ar rfl .no (.u rfl) (.u rfl) rfl (fun _=>wrap_i64 (by omega) (by omega)) ?_))
   refine rm rfl .no (.u rfl) (.u rfl) (fun _=>by decide) ?_
   refine ar rfl .no (.u rfl) (.u rfl) rfl (fun _=>wrap_i64 (by rw [tm4 (p+1) (by omega)]; omega) (by rw [tm4 (p+1) (by omega)]; omega)) ?_
   refine mV rfl rfl (ar rfl .no (.u rfl) (.u rfl) rfl (fun _=>wrap_i64 (by omega) (by omega)) ?_)
   refine rm rfl .no (.u rfl) (.u rfl) (fun _=>by decide) ?_
   refine ar rfl .no (.u rfl) (.u rfl) rfl (fun _=>wrap_i64 (by rw [tm4 (p+2) (by omega)]; omega) (by rw [tm4 (p+2) (by omega)]; omega)) ?_
   refine mV rfl rfl (ar rfl .no (.u rfl) (.u rfl) rfl (fun _=>wrap_i64 (by omega) (by omega)) ?_)
   refine rm rfl .no (.u rfl) (.u rfl) (fun _=>by decide) ?_
   refine ar rfl .no (.u rfl) (.u rfl) rfl (fun _=>wrap_i64 (by rw [tm4 (p+3) (by omega)]; omega) (by rw [tm4 (p+3) (by omega)]; omega)) ?_
   refine kv rfl .no Fx.go154 (Evc rfl (Evc rfl (Evc rfl (Evc rfl (Evc rfl Evn))))) (fun _=>quarter_ok (diags (cols (rounds (x2 key nonce count 3) r) 4) p) p (4+(p+1)%4) (8+(p+2)%4) (12+(p+3)%4) _ _ _ _ _ (by first|rfl|omega) (by rw [tm4 (p+1) (by omega)]; omega) (by rw [tm4 (p+2) (by omega)]; omega) (by rw [tm4 (p+3) (by omega)]; omega) (by omega) (by omega) (by omega) (by omega)) ?_
   refine sw rfl (.u rfl) (.u rfl) rfl Fx.sz198 .here rfl (wa_one _ _) ?_
   refine .nil (.blk (.code (rq3 rfl rfl (mV rfl rfl (ar rfl .no (.u rfl) (.u rfl) rfl (fun _=>wrap_i64 (by omega) (by omega)) ?_)))))
   refine aS rfl rfl (.nil (We.lpo (p+1) ?_ ?_ ?_ ?_ ?_))
   ·exact (esD rfl (esD rfl (esD rfl (esD rfl (esD rfl eZ)))))
   ·exact (mS .here rfl (mS .here rfl (mS .here rfl (mS .here rfl (mS .here rfl mN)))))
   ·first|omega|(dsimp only; omega)
   ·exact hGl4
   show p+1≤4; omega
  have c5k:=c5
  try simp only [qcA] at c5
  refine .exit (.xcode (.xlp (.xblk (.blk (.code (rq3 rfl rfl (mV rfl rfl (ar rfl .no (.u rfl) (.u rfl) rfl (fun _=>wrap_i64 (by omega) (by omega)) ?_))))))))
  refine aS rfl rfl (.nil ?_)
  obtain rfl:p=4:=by omega
  refine We.lpo (r+1) ?_ ?_ ?_ ?_ ?_
  ·exact (esD rfl (esD rfl (esD rfl (esD rfl eZ))))
  ·exact (mS .here rfl (mS .here rfl (mS .here rfl (mS .here rfl (mS .here rfl mN)))))
  ·first|omega|(dsimp only; omega)
  ·exact hGl2.trans (hGl3.trans hGl4)
  show r+1≤10; omega
 have c3k:=c3
 try simp only [qcA] at c3
 refine .exit (.xcode (.xlp (.xblk (.code (.seq (rq1 rfl rfl ?_))))))
 obtain rfl:r=10:=by omega
 refine al rfl Fx.zq188 ?_; intro b14
 refine .nil (.code (.seq (.seq (rq1 rfl rfl (aS rfl rfl (.nil (.code (.block ?_))))))))
 refine Wk.lop (α:=Nat) (fun i=>[(15,true,.int .i64 (i:Int))]) (fun i=>[.blk b14 (cl (ba 64 (outs (chaB key nonce count) i)) 188)])
  (fun i Gl=>i≤64) (fun i=>64-i) 0 [(6,true,_),(7,true,_),(10,true,_),(14,true,_)] [.blk b10 _,.blk b7 _,.blk b6 _,.blk b4 _,.blk b3 _]
  (esD rfl (esD rfl (esD rfl (esD rfl (esD rfl eZ)))))
  (mS .here rfl (mS .here rfl (mS .here rfl (mS .here rfl (mS .here rfl (mS .here rfl mN)))))) ?_ ?_
 ·show 0≤64; omega
 intro i N5 Gl5 hN5 hGl5 hF5
 try dsimp only at hF5 hN5 ⊢
 have hi:i≤64:=hF5
 refine .seq (.seq (rq2 rfl rfl (mV rfl rfl (cp rfl .no (.u rfl) (.u rfl) rfl (.nil (.code (.cond rfl (fun c6=>?_) (fun c6=>?_))))))))
 ·have c6k:=c6
  try simp only [qcA] at c6
  refine .skip (.code (.seq (.block (.seq (Wk.draw (mc:=⟨false,false⟩) [0,1,2,3,4,5,6,7,8,9] Fx.mix (by kernel_rfl) ?_)))))
  refine mV rfl rfl (qu rfl .no (.u rfl) (.u rfl) (fun _=>by decide) ?_)
  refine iA rfl .no Fx.ar198 (.u rfl) (.u rfl) (fun _=>by rw [qd4 i rfl (by omega)]; omega) (fun _=>by rw [qd4 i rfl (by omega)]; omega) ?_
  refine ld rfl .no Fx.ag139 (.u rfl) (fun _=>Rd.own tk1 (wa_at1 (i / 4) (by rw [qd4 i rfl (by omega)]; omega) (by omega))) ?_
  refine mV rfl rfl (qu rfl .no (.u rfl) (.u rfl) (fun _=>by decide) ?_)
  refine iA rfl .no Fx.ar198 (.u rfl) (.u rfl) (fun _=>by rw [qd4 i rfl (by omega)]; omega) (fun _=>by rw [qd4 i rfl (by omega)]; omega) ?_
  refine ld rfl .no Fx.ag139 (.u rfl) (fun _=>Rd.own tk2 (wa_at1 (i / 4) (by rw [qd4 i rfl (by omega)]; omega) (by omega))) ?_
  refine bw (k:=.u32) rfl .no rfl (.u rfl) (.u rfl) rfl (aS rfl rfl (.nil (.code (rq9 rfl rfl (mV rfl rfl (mV rfl rfl (mV rfl rfl (rm rfl .no (.u rfl) (.u rfl) (fun _=>by decide) ?_))))))))
  refine ar rfl .no (.u rfl) (.u rfl) rfl (fun _=>wrap_i64 (by rw [tm4 i rfl]; omega) (by rw [tm4 i rfl]; omega)) ?_
  refine rw' (k:=.u32) rfl .no (.u rfl) (.u rfl) (fun _=>by rw [tm4 i rfl]; omega) ?_
  refine cu (k:=.u32) rfl .no rfl Fx.cv139_5 (.u rfl) ?_
  refine iA rfl .no Fx.ar188 (.u rfl) (.u rfl) (fun _=>by omega) (fun _=>by omega) ?_
  refine s1 rfl (.u rfl) (.u rfl) rfl Fx.sz5 .here (by rw [ba_len]; omega) (ba_set1 i (by omega)) ?_
  refine .nil (.blk (.code (rq3 rfl rfl (mV rfl rfl (ar rfl .no (.u rfl) (.u rfl) rfl (fun _=>wrap_i64 (by omega) (by omega)) ?_)))))
  refine aS rfl rfl (.nil (We.lpo (i+1) ?_ ?_ ?_ ?_ ?_))
  ·exact (esD rfl (esD rfl (esD rfl (esD rfl (esD rfl eZ)))))
  ·exact (mS .here (out_step (tm4 i rfl)) (mS .here rfl (mS .here rfl (mS .here rfl (mS .here rfl (mS .here rfl mN))))))
  ·first|omega|(dsimp only; omega)
  ·exact hGl5
  show i+1≤64; omega
 have c6k:=c6
 try simp only [qcA] at c6
 refine .exit (.xcode (.xlp (.xblk (.code (.seq (rq2 rfl rfl (lA rfl .no Fx.ag188 (.u rfl) (fun _=>RdN.own .here) (fun _=>rfl) ?_)))))))
 refine sw rfl (.u rfl) (.u rfl) rfl Fx.sz188 tk3 rfl (ba_one _ _) ?_
 refine .nil (.code (.ret (We.fin0 Tryz.results138 (.cell rfl (fun w hw=>run_loadVarN Fx.ag188 (RdN.own .here) rfl hw) .nil) ?_)))
 obtain rfl:i=64:=by omega
 exact ⟨rfl,by rw [ba_congr (fun i hi=>(outs_eq (chaB key nonce count) hi).symm)]; rfl⟩
namespace Fx
theorem se137:slE Tryz.prog 137=some (139,1,4):=by kernel_rfl
theorem sn137:(slE Tryz.prog 137).isSome=true:=by kernel_rfl
theorem go150:goFn Tryz.prog 150=true:=by kernel_rfl
theorem go151:goFn Tryz.prog 151=true:=by kernel_rfl
end Fx
theorem words_ok (y:Nat→W) (f:Nat→Y) (m bt bk off n cap kn:Nat) (T T2:TypeId) (G:PM) (hm:off+n≤m) (hk4:4*n≤kn) (hn:n≤1000):Ct Tryz.prog 150 ([(Sh.mk (some ⟨bt,off,none⟩) cap).val n,(Sh.mk (some ⟨bk,0,none⟩) kn).val kn]:List Value).toArray G ([.blk bt (cl (wa m y) T),.blk bk (cl (ba kn f) T2)]:Mem) (fun G' μ' u=>μ'=[.blk bt (cl (wa m (setW y f off n)) T),.blk bk (cl (ba kn f) T2)]∧u=.tuple #[]):=by
 refine Ct.of Tryz.func150 rfl Tryz.ntmps150 rfl fun w0 hs0=>?_
 refine .seq (rq3 rfl rfl (mV rfl rfl (ln rfl .no Fx.sn137 (.u rfl) (mV rfl rfl (.nil (.code (.block ?_)))))))
 refine Wk.lop (α:=Nat) (fun i=>[(8,true,.int .i64 (i:Int))]) (fun i=>[.blk bt (cl (wa m (setW y f off i)) T)])
  (fun i Gl=>i≤n) (fun i=>n-i) 0 [(0,true,_),(1,true,_),(7,true,_)] [.blk bk _]
  (esD rfl (esD rfl (esD rfl (esD rfl eZ))))
  (mS .here rfl (mS .here rfl mN)) ?_ ?_
 ·show 0≤n; omega
 intro i N0 Gl0 hN0 hGl0 hF0
 try dsimp only at hF0 hN0 ⊢
 have hi:i≤n:=hF0
 refine .seq (rq1 rfl rfl (cp rfl .no (.u rfl) (.u rfl) rfl (.nil (.code (.seq (.cond rfl (fun c1=>?_) (fun c1=>?_)))))))
 ·have c1k:=c1
  try simp only [qcA] at c1
  refine .skip (.code (.seq (.block (.seq (rq2 rfl rfl (mV rfl rfl (aS rfl rfl (.nil (.code (.seq (rq1 rfl rfl (aS rfl rfl (.nil (.code (.block ?_)))))))))))))))
  refine Wk.lop (α:=Nat) (fun c=>[(5,true,.int .i64 (3-(c:Int)))]) (fun c=>[.blk bt (cl (wa m (upd (setW y f off i) (off+i) (shW (setW y f off i (off+i)) f i c))) T)])
   (fun c Gl=>c≤4) (fun c=>4-c) 0 [(0,true,_),(1,true,_),(4,true,_),(7,true,_),(8,true,_)] [.blk bk _]
   (esD rfl (esD rfl (esD rfl (esD rfl (esD rfl (esD rfl eZ))))))
   (mS .here ws_start (mS .here rfl mN)) ?_ ?_
  ·show 0≤4; omega
  intro c N1 Gl1 hN1 hGl1 hF1
  try dsimp only at hF1 hN1 ⊢
  have hc:c≤4:=hF1
  refine .seq (.seq (rq2 rfl rfl (mV rfl rfl (cp rfl .no (.u rfl) (.u rfl) rfl (.nil (.code (.cond rfl (fun c2=>?_) (fun c2=>?_))))))))
  ·have c2k:=c2
   try simp only [qcA] at c2
   refine .skip (.code (.seq (.block (Wk.draw (mc:=⟨false,false⟩) [0,1,2,3,4,5,6,7,8,9,10,11,12,13,14,15,16,17] Fx.mix (by kernel_rfl) ?_))))
   refine mV rfl rfl (mV rfl rfl (mV rfl rfl (mV rfl rfl (ih rfl .no Fx.se137 (.u rfl) (.u rfl) (fun _=>by omega) (fun _=>by omega) (fun _=>rfl) ?_))))
   refine ld rfl .no Fx.ag139 (.u rfl) (fun _=>Rd.own .here (wa_at1 (off+i) (by show off+_*1=off+i; omega) (by omega))) ?_
   refine lw (k:=.u32) rfl .no rfl (.u rfl) (.u rfl) (fun _=>by decide) ?_
   refine mV rfl rfl (mV rfl rfl (ar rfl .no (.u rfl) (.u rfl) rfl (fun _=>wrap_i64 (by omega) (by omega)) ?_))
   refine mV rfl rfl (ar rfl .no (.u rfl) (.u rfl) rfl (fun _=>wrap_i64 (by omega) (by omega)) ?_)
   refine ih rfl .no Fx.se34 (.u rfl) (.u rfl) (fun _=>by omega) (fun _=>by omega) (fun _=>rfl) ?_
   refine ld rfl .no Fx.ag5 (.u rfl) (fun _=>Rd.own tk1 (ba_at1 (4*i+(3-c)) (by show 0+_*1=_; omega) (by omega))) ?_
   refine cu (k:=.u8) rfl .no rfl Fx.cv5_139 (.u rfl) ?_
   refine bw (k:=.u32) rfl .no rfl (.u rfl) (.u rfl) rfl (ih rfl .no Fx.se137 (.u rfl) (.u rfl) (fun _=>by omega) (fun _=>by omega) (fun _=>rfl) ?_)
   refine s1 rfl (.u rfl) (.u rfl) rfl Fx.sz139 .here (by rw [wa_len]; show off+_*1<m; omega) (wa_set1 (off+i) (by show off+_*1=off+i; omega)) ?_
   refine .nil (.blk (.code (rq3 rfl rfl (mV rfl rfl (ar rfl .no (.u rfl) (.u rfl) rfl (fun _=>wrap_i64 (by omega) (by omega)) ?_)))))
   refine aS rfl rfl (.nil (We.lpo (c+1) ?_ ?_ ?_ ?_ ?_))
   ·exact (esC rfl (congrArg _ (by omega)) (esD rfl (esD rfl (esD rfl (esD rfl (esD rfl eZ))))))
   ·exact (mS .here (ws_step (by rw [upd_at]; rfl)) (mS .here rfl mN))
   ·first|omega|(dsimp only; omega)
   ·exact hGl1
   show c+1≤4; omega
  have c2k:=c2
  try simp only [qcA] at c2
  refine .exit (.xcode (.xlp (.xblk (.blk (.code (rq2 rfl rfl (ar rfl .no (.u rfl) (.u rfl) rfl (fun _=>wrap_i64 (by omega) (by omega)) ?_)))))))
  refine mV rfl rfl (.nil (We.lpo (i+1) ?_ ?_ ?_ ?_ ?_))
  ·exact (esD rfl (esD rfl (esD rfl (esD rfl eZ))))
  ·exact (mS .here (ws_end (by omega)) (mS .here rfl mN))
  ·first|omega|(dsimp only; omega)
  ·exact hGl0.trans hGl1
  show i+1≤n; omega
 have c1k:=c1
 try simp only [qcA] at c1
 refine .exit (.xcode (.xlp (.xblk (.nil (We.fin Tryz.results150 .nil (mS .here rfl (mS .here rfl mN)) ?_)))))
 obtain rfl:i=n:=by omega
 exact ⟨rfl,rfl⟩
theorem Block_ok (key nonce:Nat→Y) (count:W) (G:PM):Ct Tryz.prog 136 ([.agg (ba 32 key).toArray,.agg (ba 12 nonce).toArray,U count]:List Value).toArray G [] (fun _ μ' u=>μ'=[]∧u=.agg (ba 64 (chaB key nonce count)).toArray):=by
 refine Ct.of Tryz.func136 rfl Tryz.ntmps136 rfl fun w0 hs0=>?_
 refine .seq (rq3 rfl rfl ?_)
 refine bx rfl (.u rfl) rfl ?_; intro b3
 refine bx rfl (.u rfl) rfl ?_; intro b4
 refine al rfl Fx.zq188 ?_; intro b6
 refine .nil (.code (.seq (rq3 rfl rfl (bC rfl .no Fx.bp198_0_1_2_3 (.cons (.u rfl) rfl (.cons (.u rfl) rfl (.cons (.u rfl) rfl (.cons (.u rfl) rfl .nil)))) rfl ?_))))
 refine al rfl Fx.zr198 ?_; intro b7
 refine sw rfl (.u rfl) (.u rfl) rfl Fx.sz198 .here rfl (by decide) ?_
 refine .nil (.code (.seq (Wk.draw (mc:=⟨true,false⟩) [0,1,2] Fx.mix (by kernel_rfl) ?_)))
 refine sab rfl .no Fx.ar198 (.u rfl) (.u rfl) (.u rfl) (fun _=>by decide) (fun _=>by decide) (fun _=>by decide) (fun _=>by decide) ?_
 refine sa0 rfl .no Fx.ar22 (.u rfl) (ka rfl (.inl rfl) Fx.go150 (Evc rfl (Evc rfl Evn)) (take2 .here tk2) (words_ok (x0) key 16 b7 b3 4 8 12 32 198 22 _ (by decide) (by decide) (by decide)) ?_)
 rintro u G2 μ2 hG2 ⟨rfl,rfl⟩
 simp only [lay,List.cons_append,List.nil_append,setW_x1,setW_x2]
 refine .nil (.code (.seq (rq3 rfl rfl (mV rfl rfl (iA rfl .no Fx.ar198 (.u rfl) (.u rfl) (fun _=>by decide) (fun _=>by decide) ?_)))))
 refine s1 rfl (.u rfl) (.u rfl) rfl Fx.sz139 .here (by rw [wa_len]; decide) (wa_set1 12 rfl) ?_
 refine .nil (.code (.seq (Wk.draw (mc:=⟨true,false⟩) [0,1,2] Fx.mix (by kernel_rfl) ?_)))
 refine sal rfl .no Fx.ar198 (.u rfl) (.u rfl) (fun _=>by decide) (fun _=>by decide) ?_
 refine sa0 rfl .no Fx.ar124 (.u rfl) (ka rfl (.inl rfl) Fx.go150 (Evc rfl (Evc rfl Evn)) (take2 .here tk2) (words_ok (upd (x1 key 8) 12 count) nonce 16 b7 b4 13 3 3 12 198 124 _ (by decide) (by decide) (by decide)) ?_)
 rintro u G2 μ2 hG2 ⟨rfl,rfl⟩
 simp only [lay,List.cons_append,List.nil_append,setW_x1,setW_x2]
 refine .nil (.code (.seq (rq3 rfl rfl (lA rfl .no Fx.ag198 (.u rfl) (fun _=>RdN.own .here) (fun _=>rfl) ?_))))
 refine al rfl Fx.zr198 ?_; intro b8
 refine sw rfl (.u rfl) (.u rfl) rfl Fx.sz198 .here rfl (wa_one _ _) ?_
 refine .nil (.code (.seq (.seq (rq1 rfl rfl (mV rfl rfl (.nil (.code (.block ?_))))))))
 refine Wk.lop (α:=Nat) (fun r=>[(24,true,.int .i64 (r:Int))]) (fun r=>[.blk b8 (cl (wa 16 (rounds (x2 key nonce count 3) r)) 198)])
  (fun r Gl=>r≤10) (fun r=>10-r) 0 [(6,true,_),(7,true,_),(8,true,_)] [.blk b7 _,.blk b4 _,.blk b3 _,.blk b6 _]
  (esD rfl (esD rfl (esD rfl (esD rfl eZ))))
  (mS .here rfl (mS .here rfl (mS .here rfl (mS .here rfl (mS .here rfl mN))))) ?_ ?_
 ·show 0≤10; omega
 intro r N0 Gl0 hN0 hGl0 hF0
 try dsimp only at hF0 hN0 ⊢
 have hr:r≤10:=hF0
 refine .seq (rq1 rfl rfl (cp rfl .no (.u rfl) (.u rfl) rfl (.nil (.code (.seq (.cond rfl (fun c1=>?_) (fun c1=>?_)))))))
 ·have c1k:=c1
  try simp only [qcA] at c1
  refine .skip (.code (.seq (.block (.seq (.seq (rq1 rfl rfl (mV rfl rfl (.nil (.code (.block ?_))))))))))
  refine Wk.lop (α:=Nat) (fun q=>[(26,true,.int .i64 (q:Int))]) (fun q=>[.blk b8 (cl (wa 16 (colsM (rounds (x2 key nonce count 3) r) q)) 198)])
   (fun q Gl=>q≤4) (fun q=>4-q) 0 [(6,true,_),(7,true,_),(8,true,_),(24,true,_)] [.blk b7 _,.blk b4 _,.blk b3 _,.blk b6 _]
   (esD rfl (esD rfl (esD rfl (esD rfl (esD rfl eZ)))))
   (mS .here rfl (mS .here rfl (mS .here rfl (mS .here rfl (mS .here rfl mN))))) ?_ ?_
  ·show 0≤4; omega
  intro q N1 Gl1 hN1 hGl1 hF1
  try dsimp only at hF1 hN1 ⊢
  have hq:q≤4:=hF1
  refine .seq (rq1 rfl rfl (cp rfl .no (.u rfl) (.u rfl) rfl (.nil (.code (.seq (.cond rfl (fun c2=>?_) (fun c2=>?_)))))))
  ·have c2k:=c2
   try simp only [qcA] at c2
   refine .skip (.code (.seq (.block (.seq (rq2 rfl rfl (mV rfl rfl (aS rfl rfl (.nil (.code (Wk.draw (mc:=⟨false,false⟩) [0,1,2,3,4,5,6,7,8,9,10,11,12,13,14,15,16,17,18,19,20,21,22,23,24,25,26,27,28,29,30,31,32,33,34,35] Fx.mix (by kernel_rfl) ?_))))))))))
   refine mV rfl rfl (mV rfl rfl (ar rfl .no (.u rfl) (.u rfl) rfl (fun _=>wrap_i64 (by omega) (by omega)) ?_))
   refine mV rfl rfl (ar rfl .no (.u rfl) (.u rfl) rfl (fun _=>wrap_i64 (by omega) (by omega)) ?_)
   refine mV rfl rfl (ar rfl .no (.u rfl) (.u rfl) rfl (fun _=>wrap_i64 (by omega) (by omega)) ?_)
   refine mV rfl rfl (iA rfl .no Fx.ar198 (.u rfl) (.u rfl) (fun _=>by omega) (fun _=>by omega) ?_)
   refine ld rfl .no Fx.ag139 (.u rfl) (fun _=>Rd.own .here (wa_at1 q (by omega) (by omega))) ?_
   refine mV rfl rfl (ar rfl .no (.u rfl) (.u rfl) rfl (fun _=>wrap_i64 (by omega) (by omega)) ?_)
   refine iA rfl .no Fx.ar198 (.u rfl) (.u rfl) (fun _=>by omega) (fun _=>by omega) ?_
   refine ld rfl .no Fx.ag139 (.u rfl) (fun _=>Rd.own .here (wa_at1 (4+q) (by omega) (by omega))) ?_
   refine mV rfl rfl (ar rfl .no (.u rfl) (.u rfl) rfl (fun _=>wrap_i64 (by omega) (by omega)) ?_)
   refine iA rfl .no Fx.ar198 (.u rfl) (.u rfl) (fun _=>by omega) (fun _=>by omega) ?_
   refine ld rfl .no Fx.ag139 (.u rfl) (fun _=>Rd.own .here (wa_at1 (8+q) (by omega) (by omega))) ?_
   refine mV rfl rfl (ar rfl .no (.u rfl) (.u rfl) rfl (fun _=>wrap_i64 (by omega) (by omega)) ?_)
   refine iA rfl .no Fx.ar198 (.u rfl) (.u rfl) (fun _=>by omega) (fun _=>by omega) ?_
   refine ld rfl .no Fx.ag139 (.u rfl) (fun _=>Rd.own .here (wa_at1 (12+q) (by omega) (by omega))) ?_
   refine kv rfl .no Fx.go151 (Evc rfl (Evc rfl (Evc rfl (Evc rfl Evn)))) (fun _=>mix_ok _ _ _ _ _) ?_
   refine mV rfl rfl (ex rfl .no (.u rfl) rfl (ex rfl .no (.u rfl) rfl (ex rfl .no (.u rfl) rfl (ex rfl .no (.u rfl) rfl (iA rfl .no Fx.ar198 (.u rfl) (.u rfl) (fun _=>by omega) (fun _=>by omega) ?_)))))
   refine s1 rfl (.u rfl) (.u rfl) rfl Fx.sz139 .here (by rw [wa_len]; omega) (wa_set1 q (by omega)) ?_
   refine iA rfl .no Fx.ar198 (.u rfl) (.u rfl) (fun _=>by omega) (fun _=>by omega) ?_
   refine s1 rfl (.u rfl) (.u rfl) rfl Fx.sz139 .here (by rw [wa_len]; omega) (wa_set1 (4+q) (by omega)) ?_
   refine iA rfl .no Fx.ar198 (.u rfl) (.u rfl) (fun _=>by omega) (fun _=>by omega) ?_
   refine s1 rfl (.u rfl) (.u rfl) rfl Fx.sz139 .here (by rw [wa_len]; omega) (wa_set1 (8+q) (by omega)) ?_
   refine iA rfl .no Fx.ar198 (.u rfl) (.u rfl) (fun _=>by omega) (fun _=>by omega) ?_
   refine s1 rfl (.u rfl) (.u rfl) rfl Fx.sz139 .here (by rw [wa_len]; omega) (wa_set1 (12+q) (by omega)) ?_
   refine .nil (.blk (.code (rq2 rfl rfl (ar rfl .no (.u rfl) (.u rfl) rfl (fun _=>wrap_i64 (by omega) (by omega)) ?_))))
   refine mV rfl rfl (.nil (We.lpo (q+1) ?_ ?_ ?_ ?_ ?_))
   ·exact (esD rfl (esD rfl (esD rfl (esD rfl (esD rfl eZ)))))
   ·exact (mS .here rfl (mS .here rfl (mS .here rfl (mS .here rfl (mS .here rfl mN)))))
   ·first|omega|(dsimp only; omega)
   ·exact hGl1
   show q+1≤4; omega
  have c2k:=c2
  try simp only [qcA] at c2
  refine .exit (.xcode (.xlp (.xblk (.code (.seq (Wk.rg [0,1,2,3,4,5,6,7,8,9,10,11,12,13,14,15,16,17,18,19,20,21] rfl rfl ?_))))))
  obtain rfl:q=4:=by omega
  simp only [colsM_eq (rounds (x2 key nonce count 3) r) 4 (Nat.le_refl 4)]
  refine iA rfl .no Fx.ar198 (.u rfl) (.u rfl) (fun _=>by decide) (fun _=>by decide) ?_
  refine ld rfl .no Fx.ag139 (.u rfl) (fun _=>Rd.own .here (wa_at1 0 rfl (by decide))) ?_
  refine iA rfl .no Fx.ar198 (.u rfl) (.u rfl) (fun _=>by decide) (fun _=>by decide) ?_
  refine ld rfl .no Fx.ag139 (.u rfl) (fun _=>Rd.own .here (wa_at1 5 rfl (by decide))) ?_
  refine iA rfl .no Fx.ar198 (.u rfl) (.u rfl) (fun _=>by decide) (fun _=>by decide) ?_
  refine ld rfl .no Fx.ag139 (.u rfl) (fun _=>Rd.own .here (wa_at1 10 rfl (by decide))) ?_
  refine iA rfl .no Fx.ar198 (.u rfl) (.u rfl) (fun _=>by decide) (fun _=>by decide) ?_
  refine ld rfl .no Fx.ag139 (.u rfl) (fun _=>Rd.own .here (wa_at1 15 rfl (by decide))) ?_
  refine kv rfl .no Fx.go151 (Evc rfl (Evc rfl (Evc rfl (Evc rfl Evn)))) (fun _=>mix_ok _ _ _ _ _) ?_
  refine mV rfl rfl (ex rfl .no (.u rfl) rfl (ex rfl .no (.u rfl) rfl (ex rfl .no (.u rfl) rfl (ex rfl .no (.u rfl) rfl (iA rfl .no Fx.ar198 (.u rfl) (.u rfl) (fun _=>by decide) (fun _=>by decide) ?_)))))
  refine s1 rfl (.u rfl) (.u rfl) rfl Fx.sz139 .here (by rw [wa_len]; decide) (wa_set1 0 rfl) ?_
  refine iA rfl .no Fx.ar198 (.u rfl) (.u rfl) (fun _=>by decide) (fun _=>by decide) ?_
  refine s1 rfl (.u rfl) (.u rfl) rfl Fx.sz139 .here (by rw [wa_len]; decide) (wa_set1 5 rfl) ?_
  refine iA rfl .no Fx.ar198 (.u rfl) (.u rfl) (fun _=>by decide) (fun _=>by decide) ?_
  refine s1 rfl (.u rfl) (.u rfl) rfl Fx.sz139 .here (by rw [wa_len]; decide) (wa_set1 10 rfl) ?_
  refine iA rfl .no Fx.ar198 (.u rfl) (.u rfl) (fun _=>by decide) (fun _=>by decide) ?_
  refine s1 rfl (.u rfl) (.u rfl) rfl Fx.sz139 .here (by rw [wa_len]; decide) (wa_set1 15 rfl) ?_
  refine .nil (.code (.seq (Wk.rg [0,1,2,3,4,5,6,7,8,9,10,11,12,13,14,15,16,17,18,19,20,21] rfl rfl (iA rfl .no Fx.ar198 (.u rfl) (.u rfl) (fun _=>by decide) (fun _=>by decide) ?_))))
  refine ld rfl .no Fx.ag139 (.u rfl) (fun _=>Rd.own .here (wa_at1 1 rfl (by decide))) ?_
  refine iA rfl .no Fx.ar198 (.u rfl) (.u rfl) (fun _=>by decide) (fun _=>by decide) ?_
  refine ld rfl .no Fx.ag139 (.u rfl) (fun _=>Rd.own .here (wa_at1 6 rfl (by decide))) ?_
  refine iA rfl .no Fx.ar198 (.u rfl) (.u rfl) (fun _=>by decide) (fun _=>by decide) ?_
  refine ld rfl .no Fx.ag139 (.u rfl) (fun _=>Rd.own .here (wa_at1 11 rfl (by decide))) ?_
  refine iA rfl .no Fx.ar198 (.u rfl) (.u rfl) (fun _=>by decide) (fun _=>by decide) ?_
  refine ld rfl .no Fx.ag139 (.u rfl) (fun _=>Rd.own .here (wa_at1 12 rfl (by decide))) ?_
  refine kv rfl .no Fx.go151 (Evc rfl (Evc rfl (Evc rfl (Evc rfl Evn)))) (fun _=>mix_ok _ _ _ _ _) ?_
  refine mV rfl rfl (ex rfl .no (.u rfl) rfl (ex rfl .no (.u rfl) rfl (ex rfl .no (.u rfl) rfl (ex rfl .no (.u rfl) rfl (iA rfl .no Fx.ar198 (.u rfl) (.u rfl) (fun _=>by decide) (fun _=>by decide) ?_)))))
  refine s1 rfl (.u rfl) (.u rfl) rfl Fx.sz139 .here (by rw [wa_len]; decide) (wa_set1 1 rfl) ?_
  refine iA rfl .no Fx.ar198 (.u rfl) (.u rfl) (fun _=>by decide) (fun _=>by decide) ?_
  refine s1 rfl (.u rfl) (.u rfl) rfl Fx.sz139 .here (by rw [wa_len]; decide) (wa_set1 6 rfl) ?_
  refine iA rfl .no Fx.ar198 (.u rfl) (.u rfl) (fun _=>by decide) (fun _=>by decide) ?_
  refine s1 rfl (.u rfl) (.u rfl) rfl Fx.sz139 .here (by rw [wa_len]; decide) (wa_set1 11 rfl) ?_
  refine iA rfl .no Fx.ar198 (.u rfl) (.u rfl) (fun _=>by decide) (fun _=>by decide) ?_
  refine s1 rfl (.u rfl) (.u rfl) rfl Fx.sz139 .here (by rw [wa_len]; decide) (wa_set1 12 rfl) ?_
  refine .nil (.code (.seq (Wk.rg [0,1,2,3,4,5,6,7,8,9,10,11,12,13,14,15,16,17,18,19,20,21] rfl rfl (iA rfl .no Fx.ar198 (.u rfl) (.u rfl) (fun _=>by decide) (fun _=>by decide) ?_))))
  refine ld rfl .no Fx.ag139 (.u rfl) (fun _=>Rd.own .here (wa_at1 2 rfl (by decide))) ?_
  refine iA rfl .no Fx.ar198 (.u rfl) (.u rfl) (fun _=>by decide) (fun _=>by decide) ?_
  refine ld rfl .no Fx.ag139 (.u rfl) (fun _=>Rd.own .here (wa_at1 7 rfl (by decide))) ?_
  refine iA rfl .no Fx.ar198 (.u rfl) (.u rfl) (fun _=>by decide) (fun _=>by decide) ?_
  refine ld rfl .no Fx.ag139 (.u rfl) (fun _=>Rd.own .here (wa_at1 8 rfl (by decide))) ?_
  refine iA rfl .no Fx.ar198 (.u rfl) (.u rfl) (fun _=>by decide) (fun _=>by decide) ?_
  refine ld rfl .no Fx.ag139 (.u rfl) (fun _=>Rd.own .here (wa_at1 13 rfl (by decide))) ?_
  refine kv rfl .no Fx.go151 (Evc rfl (Evc rfl (Evc rfl (Evc rfl Evn)))) (fun _=>mix_ok _ _ _ _ _) ?_
  refine mV rfl rfl (ex rfl .no (.u rfl) rfl (ex rfl .no (.u rfl) rfl (ex rfl .no (.u rfl) rfl (ex rfl .no (.u rfl) rfl (iA rfl .no Fx.ar198 (.u rfl) (.u rfl) (fun _=>by decide) (fun _=>by decide) ?_)))))
  refine s1 rfl (.u rfl) (.u rfl) rfl Fx.sz139 .here (by rw [wa_len]; decide) (wa_set1 2 rfl) ?_
  refine iA rfl .no Fx.ar198 (.u rfl) (.u rfl) (fun _=>by decide) (fun _=>by decide) ?_
  refine s1 rfl (.u rfl) (.u rfl) rfl Fx.sz139 .here (by rw [wa_len]; decide) (wa_set1 7 rfl) ?_
  refine iA rfl .no Fx.ar198 (.u rfl) (.u rfl) (fun _=>by decide) (fun _=>by decide) ?_
  refine s1 rfl (.u rfl) (.u rfl) rfl Fx.sz139 .here (by rw [wa_len]; decide) (wa_set1 8 rfl) ?_
  refine iA rfl .no Fx.ar198 (.u rfl) (.u rfl) (fun _=>by decide) (fun _=>by decide) ?_
  refine s1 rfl (.u rfl) (.u rfl) rfl Fx.sz139 .here (by rw [wa_len]; decide) (wa_set1 13 rfl) ?_
  refine .nil (.code (Wk.rg [0,1,2,3,4,5,6,7,8,9,10,11,12,13,14,15,16,17,18,19,20,21] rfl rfl (iA rfl .no Fx.ar198 (.u rfl) (.u rfl) (fun _=>by decide) (fun _=>by decide) ?_)))
  refine ld rfl .no Fx.ag139 (.u rfl) (fun _=>Rd.own .here (wa_at1 3 rfl (by decide))) ?_
  refine iA rfl .no Fx.ar198 (.u rfl) (.u rfl) (fun _=>by decide) (fun _=>by decide) ?_
  refine ld rfl .no Fx.ag139 (.u rfl) (fun _=>Rd.own .here (wa_at1 4 rfl (by decide))) ?_
  refine iA rfl .no Fx.ar198 (.u rfl) (.u rfl) (fun _=>by decide) (fun _=>by decide) ?_
  refine ld rfl .no Fx.ag139 (.u rfl) (fun _=>Rd.own .here (wa_at1 9 rfl (by decide))) ?_
  refine iA rfl .no Fx.ar198 (.u rfl) (.u rfl) (fun _=>by decide) (fun _=>by decide) ?_
  refine ld rfl .no Fx.ag139 (.u rfl) (fun _=>Rd.own .here (wa_at1 14 rfl (by decide))) ?_
  refine kv rfl .no Fx.go151 (Evc rfl (Evc rfl (Evc rfl (Evc rfl Evn)))) (fun _=>mix_ok _ _ _ _ _) ?_
  refine mV rfl rfl (ex rfl .no (.u rfl) rfl (ex rfl .no (.u rfl) rfl (ex rfl .no (.u rfl) rfl (ex rfl .no (.u rfl) rfl (iA rfl .no Fx.ar198 (.u rfl) (.u rfl) (fun _=>by decide) (fun _=>by decide) ?_)))))
  refine s1 rfl (.u rfl) (.u rfl) rfl Fx.sz139 .here (by rw [wa_len]; decide) (wa_set1 3 rfl) ?_
  refine iA rfl .no Fx.ar198 (.u rfl) (.u rfl) (fun _=>by decide) (fun _=>by decide) ?_
  refine s1 rfl (.u rfl) (.u rfl) rfl Fx.sz139 .here (by rw [wa_len]; decide) (wa_set1 4 rfl) ?_
  refine iA rfl .no Fx.ar198 (.u rfl) (.u rfl) (fun _=>by decide) (fun _=>by decide) ?_
  refine s1 rfl (.u rfl) (.u rfl) rfl Fx.sz139 .here (by rw [wa_len]; decide) (wa_set1 9 rfl) ?_
  refine iA rfl .no Fx.ar198 (.u rfl) (.u rfl) (fun _=>by decide) (fun _=>by decide) ?_
  refine s1 rfl (.u rfl) (.u rfl) rfl Fx.sz139 .here (by rw [wa_len]; decide) (wa_set1 14 rfl) ?_
  refine .nil (.blk (.code (rq2 rfl rfl (ar rfl .no (.u rfl) (.u rfl) rfl (fun _=>wrap_i64 (by omega) (by omega)) ?_))))
  refine mV rfl rfl (.nil (We.lpo (r+1) ?_ ?_ ?_ ?_ ?_))
  ·exact (esD rfl (esD rfl (esD rfl (esD rfl eZ))))
  ·exact (mS .here (congrArg (fun z=>Res.blk b8 (cl (wa 16 z) 198)) (diagM_eq (cols (rounds (x2 key nonce count 3) r) 4))) (mS .here rfl (mS .here rfl (mS .here rfl (mS .here rfl mN)))))
  ·first|omega|(dsimp only; omega)
  ·exact hGl0.trans hGl1
  show r+1≤10; omega
 have c1k:=c1
 try simp only [qcA] at c1
 refine .exit (.xcode (.xlp (.xblk (.code (.seq (rq1 rfl rfl ?_))))))
 obtain rfl:r=10:=by omega
 refine al rfl Fx.zq188 ?_; intro b10
 refine .nil (.code (.seq (.seq (rq1 rfl rfl (mV rfl rfl (.nil (.code (.block ?_))))))))
 refine Wk.lop (α:=Nat) (fun i=>[(135,true,.int .i64 (i:Int))]) (fun i=>[.blk b10 (cl (ba 64 (outs (chaB key nonce count) (4*i))) 188)])
  (fun i Gl=>i≤16) (fun i=>16-i) 0 [(6,true,_),(7,true,_),(8,true,_),(10,true,_)] [.blk b8 _,.blk b7 _,.blk b4 _,.blk b3 _,.blk b6 _]
  (esD rfl (esD rfl (esD rfl (esD rfl (esD rfl eZ)))))
  (mS .here rfl (mS .here rfl (mS .here rfl (mS .here rfl (mS .here rfl (mS .here rfl mN)))))) ?_ ?_
 ·show 0≤16; omega
 intro i N2 Gl2 hN2 hGl2 hF2
 try dsimp only at hF2 hN2 ⊢
 have hi:i≤16:=hF2
 refine .seq (rq1 rfl rfl (cp rfl .no (.u rfl) (.u rfl) rfl (.nil (.code (.seq (.cond rfl (fun c3=>?_) (fun c3=>?_)))))))
 ·have c3k:=c3
  try simp only [qcA] at c3
  refine .skip (.code (.seq (.block (.seq (rq2 rfl rfl (mV rfl rfl (aS rfl rfl (.nil (.code (.seq (Wk.draw (mc:=⟨false,false⟩) [0,1,2,3,4,5,6,7] Fx.mix (by kernel_rfl) ?_)))))))))))
  refine mV rfl rfl (iA rfl .no Fx.ar198 (.u rfl) (.u rfl) (fun _=>by omega) (fun _=>by omega) ?_)
  refine ld rfl .no Fx.ag139 (.u rfl) (fun _=>Rd.own tk1 (wa_at1 i (by omega) (by omega))) ?_
  refine mV rfl rfl (iA rfl .no Fx.ar198 (.u rfl) (.u rfl) (fun _=>by omega) (fun _=>by omega) ?_)
  refine ld rfl .no Fx.ag139 (.u rfl) (fun _=>Rd.own tk2 (wa_at1 i (by omega) (by omega))) ?_
  refine bw (k:=.u32) rfl .no rfl (.u rfl) (.u rfl) rfl (aS rfl rfl (.nil (.code (.seq (rq1 rfl rfl (mV rfl rfl (.nil (.code (.block ?_)))))))))
  refine Wk.lop (α:=Nat) (fun c=>[(12,true,U (chaW key nonce count i >>> (8*c))),(145,true,.int .i64 (c:Int))]) (fun c=>[.blk b10 (cl (ba 64 (outs (chaB key nonce count) (4*i+c))) 188)])
   (fun c Gl=>c≤4) (fun c=>4-c) 0 [(6,true,_),(7,true,_),(8,true,_),(10,true,_),(11,true,_),(135,true,_)] [.blk b8 _,.blk b7 _,.blk b4 _,.blk b3 _,.blk b6 _]
   (esC rfl shr_zero' (esD rfl (esD rfl (esD rfl (esD rfl (esD rfl (esD rfl (esD rfl eZ))))))))
   (mS .here rfl (mS .here rfl (mS .here rfl (mS .here rfl (mS .here rfl (mS .here rfl mN)))))) ?_ ?_
  ·show 0≤4; omega
  intro c N3 Gl3 hN3 hGl3 hF3
  try dsimp only at hF3 hN3 ⊢
  have hc:c≤4:=hF3
  refine .seq (rq1 rfl rfl (cp rfl .no (.u rfl) (.u rfl) rfl (.nil (.code (.seq (.cond rfl (fun c4=>?_) (fun c4=>?_)))))))
  ·have c4k:=c4
   try simp only [qcA] at c4
   refine .skip (.code (.seq (.block (.seq (rq2 rfl rfl (mV rfl rfl (aS rfl rfl (.nil (.code (.seq (rq8 rfl rfl (mV rfl rfl (ar rfl .no (.u rfl) (.u rfl) rfl (fun _=>wrap_i64 (by omega) (by omega)) ?_)))))))))))))
   refine mV rfl rfl (ar rfl .no (.u rfl) (.u rfl) rfl (fun _=>wrap_i64 (by omega) (by omega)) ?_)
   refine mV rfl rfl (cu (k:=.u32) rfl .no rfl Fx.cv139_5 (.u rfl) ?_)
   refine iA rfl .no Fx.ar188 (.u rfl) (.u rfl) (fun _=>by omega) (fun _=>by omega) ?_
   refine s1 rfl (.u rfl) (.u rfl) rfl Fx.sz5 .here (by rw [ba_len]; omega) (ba_set1 (4*i+c) (by omega)) ?_
   refine .nil (.code (rq3 rfl rfl (mV rfl rfl (rw' (k:=.u32) rfl .no (.u rfl) (.u rfl) (fun _=>by decide) ?_))))
   refine aS rfl rfl (.nil (.blk (.code (rq2 rfl rfl (ar rfl .no (.u rfl) (.u rfl) rfl (fun _=>wrap_i64 (by omega) (by omega)) ?_)))))
   refine mV rfl rfl (.nil (We.lpo (c+1) ?_ ?_ ?_ ?_ ?_))
   ·exact (esC rfl shr_next (esD rfl (esD rfl (esD rfl (esD rfl (esD rfl (esD rfl (esD rfl eZ))))))))
   ·exact (mS .here (out_put (by omega)) (mS .here rfl (mS .here rfl (mS .here rfl (mS .here rfl (mS .here rfl mN))))))
   ·first|omega|(dsimp only; omega)
   ·exact hGl3
   show c+1≤4; omega
  have c4k:=c4
  try simp only [qcA] at c4
  refine .exit (.xcode (.xlp (.xblk (.blk (.code (rq2 rfl rfl (ar rfl .no (.u rfl) (.u rfl) rfl (fun _=>wrap_i64 (by omega) (by omega)) ?_)))))))
  refine mV rfl rfl (.nil ?_)
  obtain rfl:c=4:=by omega
  refine We.lpo (i+1) ?_ ?_ ?_ ?_ ?_
  ·exact (esD rfl (esD rfl (esD rfl (esD rfl (esD rfl eZ)))))
  ·exact (mS .here rfl (mS .here rfl (mS .here rfl (mS .here rfl (mS .here rfl (mS .here rfl mN))))))
  ·first|omega|(dsimp only; omega)
  ·exact hGl2.trans hGl3
  show i+1≤16; omega
 have c3k:=c3
 try simp only [qcA] at c3
 refine .exit (.xcode (.xlp (.xblk (.code (.seq (rq2 rfl rfl (lA rfl .no Fx.ag188 (.u rfl) (fun _=>RdN.own .here) (fun _=>rfl) ?_)))))))
 refine sw rfl (.u rfl) (.u rfl) rfl Fx.sz188 tk5 rfl (ba_one _ _) ?_
 refine .nil (.code (.ret (We.fin0 Tryz.results136 (.cell rfl (fun w hw=>run_loadVarN Fx.ag188 (RdN.own .here) rfl hw) .nil) ?_)))
 obtain rfl:i=16:=by omega
 exact ⟨rfl,by rw [ba_congr (fun i hi=>(outs_eq (chaB key nonce count) hi).symm)]; rfl⟩
namespace Fx
theorem zq192:zrL Tryz.prog 192=some (wa 64 (fun _=>0#32)):=by kernel_rfl
theorem ar192:arE Tryz.prog 192=some (64,139,1):=by kernel_rfl
theorem go152:goFn Tryz.prog 152=true:=by kernel_rfl
theorem fo168_0:fOff Tryz.prog 168 0=some 0:=by kernel_rfl
theorem ar166:arE Tryz.prog 166=some (8,139,1):=by kernel_rfl
theorem bp166_0_1_2_3_4_5_6_7:bPl Tryz.prog 166 [0,1,2,3,4,5,6,7]=some ([.int .u32 0,.int .u32 0,.int .u32 0,.int .u32 0,.int .u32 0,.int .u32 0,.int .u32 0,.int .u32 0],[(0,1),(1,1),(2,1),(3,1),(4,1),(5,1),(6,1),(7,1)]):=by kernel_rfl
end Fx
theorem right_ok (x:W) (k:Nat) (G:PM) (hk:k∈[2,6,7,11,13,17,18,19,22,25]):Ct Tryz.prog 152 ([U x,.int .i64 (k:Int)]:List Value).toArray G [] (fun _ μ' u=>μ'=[]∧u=U (rotr x k)):=by
 refine Ct.of Tryz.func152 rfl Tryz.ntmps152 rfl fun w0 hs0=>?_
 have hk2:k≤31:=by simp only [List.mem_cons,List.not_mem_nil,or_false] at hk; omega
 refine .seq (rq1 rfl rfl (aS rfl rfl (.nil (.code (.seq (rq5 rfl rfl (mV rfl rfl (mV rfl rfl (ng rfl .no (.u rfl) (fun _=>wrap_i64 (by omega) (by omega)) ?_)))))))))
 refine kv rfl .no Fx.go100 (Evc rfl (Evc rfl Evn)) (fun _=>rot_ok _ _ _) ?_
 refine aS rfl rfl (.nil (.code (.ret (We.fin0 Tryz.results152 (.tmp rfl .nil) ?_))))
 exact ⟨rfl,by rw [← rotI_neg hk]; rfl⟩
set_option maxHeartbeats 1000000 in
theorem block_ok (s:Nat→W) (xs:List Y) (h:Sh) (vp nn:Value) (bs:Nat) (G:PM) (hs:SlR G 1 encY h xs) (hK:RdNP G 1 0 (wa 64 kW)) (hl:64≤xs.length):Ct Tryz.prog 137 ([.pointer (some ⟨bs,0,none⟩),h.val xs.length]:List Value).toArray G [.blk bs (cl (wa 8 s++[vp,nn]) 168)] (fun _ μ' u=>μ'=[.blk bs (cl (wa 8 (shaC s (fun i=>xs.getD i 0))++[vp,nn]) 168)]∧u=.tuple #[]):=by
 refine Ct.of Tryz.func137 rfl Tryz.ntmps137 rfl fun w0 hs0=>?_
 refine .seq (rq1 rfl rfl ?_)
 refine al rfl Fx.zq192 ?_; intro b4
 refine .nil (.code (.seq (.seq (rq1 rfl rfl (mV rfl rfl (.nil (.code (.block ?_))))))))
 refine Wk.lop (α:=Nat×(Nat→W)) (fun gh=>[(24,true,.int .i64 (gh.1:Int))]) (fun gh=>[.blk b4 (cl (wa 64 gh.2) 192)])
  (fun gh Gl=>(gh.1≤16)∧(gh.2=w16 (fun i=>xs.getD i 0) gh.1)) (fun gh=>16-gh.1) (0,fun _=>0#32) [(0,true,_),(1,true,_),(4,true,_)] [_]
  (esC rfl (by first|rfl|exact evi (by omega)) (esD rfl (esD rfl (esD rfl eZ))))
  (mS .here rfl (mS .here rfl mN)) ?_ ?_
 ·refine ⟨?_,?_⟩
  ·(try dsimp only)<;>(first|omega|rfl|assumption|(simp; done))
  (try dsimp only)<;>(first|omega|rfl|assumption|(simp; done))
 intro gh N0 Gl0 hN0 hGl0 hF0
 obtain ⟨k,y⟩:=gh; dsimp only at hF0 hN0 ⊢
 obtain ⟨hk,ey⟩:=hF0
 have hs:=hs.mono hGl0
 have hK:=hK.mono hGl0
 refine .seq (rq1 rfl rfl (cp rfl .no (.u rfl) (.u rfl) rfl (.nil (.code (.seq (.cond rfl (fun c1=>?_) (fun c1=>?_)))))))
 ·have c1k:=c1
  try simp only [qcA,qcB] at c1
  refine .skip (.code (.seq (.block (.seq (rq2 rfl rfl (mV rfl rfl (aS rfl rfl (.nil (.code (.seq (rq9 rfl rfl (mV rfl rfl (mV rfl rfl (arn (((4*k):Nat):Int) rfl .no (.u rfl) (.u rfl) rfl (fun _=>by omega) (fun _=>wrap_i64 (by omega) (by omega)) ?_))))))))))))))
  refine mV rfl rfl (arn (((4*k):Nat):Int) rfl .no (.u rfl) (.u rfl) rfl (fun _=>by omega) (fun _=>wrap_i64 (by omega) (by omega)) ?_)
  refine arn ((((4*k)+4):Nat):Int) rfl .no (.u rfl) (.u rfl) rfl (fun _=>by omega) (fun _=>wrap_i64 (by omega) (by omega)) ?_
  refine kS ((4*k)) (((4*k)+4)) rfl .no Fx.se34 hs (.u rfl) (.u rfl) (.u rfl) (fun _=>by omega) (fun _=>by omega) (fun _=>by omega) (fun _=>by omega) ?_
  intro h33 L33 eL33 lL33 hs33
  have lL33:=lL33 rfl
  refine ln rfl .no Fx.sn34 (.u rfl) (mV rfl rfl (.nil (.code (.block ?_))))
  refine Wk.lop (α:=Nat×(Nat→W)) (fun gh=>[(35,true,.int .i64 (gh.1:Int))]) (fun gh=>[.blk b4 (cl (wa 64 gh.2) 192)])
   (fun gh Gl=>(gh.1≤4)∧(gh.2=upd y k (shB (fun i=>xs.getD i 0) k gh.1))) (fun gh=>4-gh.1) (0,y) [(0,true,_),(1,true,_),(4,true,_),(5,true,_),(24,true,_),(33,true,_),(34,true,_)] [_]
   (esC rfl (by first|rfl|exact evi (by omega)) (esD rfl (esD rfl (esD rfl (esD rfl (esD rfl (esD rfl (esD rfl eZ))))))))
   (mS .here rfl (mS .here rfl mN)) ?_ ?_
  ·refine ⟨?_,?_⟩
   ·(try dsimp only)<;>(first|omega|rfl|assumption|(simp; done))
   (try dsimp only)<;>(rw [ey]; exact (upd_w16 _ (Nat.le_refl k)).symm)
  intro gh N1 Gl1 hN1 hGl1 hF1
  obtain ⟨c,y2⟩:=gh; dsimp only at hF1 hN1 ⊢
  obtain ⟨hc,ey2⟩:=hF1
  have hK:=hK.mono hGl1
  have hs33:=hs33.mono hGl1
  refine .seq (rq1 rfl rfl (cp rfl .no (.u rfl) (.u rfl) rfl (.nil (.code (.seq (.cond rfl (fun c2=>?_) (fun c2=>?_)))))))
  ·have c2k:=c2
   try simp only [qcA,qcB] at c2
   refine .skip (.code (.seq (.block (.seq (rq3 rfl rfl (ih rfl .no Fx.se34 (.u rfl) (.u rfl) (fun _=>by omega) (fun _=>by omega) (fun _=>hs33.nn (k:=c) (by omega)) ?_))))))
   refine ld rfl .no Fx.ag5 (.u rfl) (fun _=>(hs33.yat (c) (by omega) (by omega)).rd) ?_
   refine aS rfl rfl (.nil (.code (rq10 rfl rfl (mV rfl rfl (mV rfl rfl (iA rfl .no Fx.ar192 (.u rfl) (.u rfl) (fun _=>by omega) (fun _=>by omega) ?_))))))
   refine ld rfl .no Fx.ag139 (.u rfl) (fun _=>Rd.own .here (by first|exact wa_at1 (k) (by omega) (by omega)|exact ba_at1 (k) (by omega) (by omega)|exact wap_at1 (k) (by omega) (by omega)|rfl)) ?_
   refine lw (k:=.u32) rfl .no rfl (.u rfl) (.u rfl) (fun _=>by decide) ?_
   refine mV rfl rfl (cu (k:=.u8) rfl .no rfl Fx.cv5_139 (.u rfl) ?_)
   refine bw (k:=.u32) rfl .no rfl (.u rfl) (.u rfl) rfl (iA rfl .no Fx.ar192 (.u rfl) (.u rfl) (fun _=>by omega) (fun _=>by omega) ?_)
   refine s1 rfl (.u rfl) (.u rfl) rfl Fx.sz139 .here (by first|decide|(simp only [wa_len,ba_len,qlA]; omega)) (by first|exact wa_set1 (k) (by omega)|exact ba_set1 (k) (by omega)|exact wap_set1 (k) (by omega) (by omega)|rfl) ?_
   refine .nil (.blk (.code (rq2 rfl rfl (arn (((c+1):Nat):Int) rfl .no (.u rfl) (.u rfl) rfl (fun _=>by omega) (fun _=>wrap_i64 (by omega) (by omega)) ?_))))
   refine mV rfl rfl (.nil (We.lpo (c+1,upd y2 k (y2 k <<< Int.toNat 8 ||| BitVec.setWidth 32 (L33.getD c 0))) ?_ ?_ ?_ ?_ ?_))
   ·exact (esC rfl (by first|rfl|exact evi (by omega)) (esD rfl (esD rfl (esD rfl (esD rfl (esD rfl (esD rfl (esD rfl eZ))))))))
   ·exact (mS .here rfl (mS .here rfl mN))
   ·first|omega|(dsimp only; omega)
   ·exact hGl1
   refine ⟨?_,?_⟩
   ·(try dsimp only)<;>(first|omega|rfl|assumption|(simp; done))
   (try dsimp only)<;>(rw [ey2,upd_at,upd_upd,shB,eL33,getD_part (by omega)]; rfl)
  have c2k:=c2
  try simp only [qcA,qcB] at c2
  refine .exit (.xcode (.xlp (.xblk (.blk (.code (rq2 rfl rfl (arn (((k+1):Nat):Int) rfl .no (.u rfl) (.u rfl) rfl (fun _=>by omega) (fun _=>wrap_i64 (by omega) (by omega)) ?_)))))))
  refine mV rfl rfl (.nil (We.lpo (k+1,y2) ?_ ?_ ?_ ?_ ?_))
  ·exact (esC rfl (by first|rfl|exact evi (by omega)) (esD rfl (esD rfl (esD rfl eZ))))
  ·exact (mS .here rfl (mS .here rfl mN))
  ·first|omega|(dsimp only; omega)
  ·exact (hGl0).trans hGl1
  refine ⟨?_,?_⟩
  ·(try dsimp only)<;>(first|omega|rfl|assumption|(simp; done))
  (try dsimp only)<;>(obtain rfl:c=4:=(by omega); rw [ey2,ey,shB_four]; rfl)
 have c1k:=c1
 try simp only [qcA,qcB] at c1
 refine .exit (.xcode (.xlp (.xblk (.code (.seq (.seq ?_))))))
 obtain rfl:k=16:=by omega
 refine rq1 rfl rfl (aS rfl rfl (.nil (.code (.block ?_))))
 refine Wk.lop (α:=Nat×(Nat→W)) (fun gh=>[(8,true,.int .i64 ((16+gh.1:Nat):Int))]) (fun gh=>[.blk b4 (cl (wa 64 gh.2) 192)])
  (fun gh Gl=>(gh.1≤48)∧(gh.2=sched (fun i=>xs.getD i 0) gh.1)) (fun gh=>48-gh.1) (0,_) [(0,true,_),(4,true,_)] [_]
  (esC rfl (by first|rfl|exact evi (by omega)) (esD rfl (esD rfl eZ)))
  (mS .here rfl (mS .here rfl mN)) ?_ ?_
 ·refine ⟨?_,?_⟩
  ·(try dsimp only)<;>(first|omega|rfl|assumption|(simp; done))
  (try dsimp only)<;>(first|omega|rfl|assumption|(simp; done))
 intro gh N2 Gl2 hN2 hGl2 hF2
 obtain ⟨k1,y⟩:=gh; dsimp only at hF2 hN2 ⊢
 obtain ⟨hk1,ey⟩:=hF2
 have hK:=hK.mono hGl2
 refine .seq (.seq (rq2 rfl rfl (mV rfl rfl (cp rfl .no (.u rfl) (.u rfl) rfl (.nil (.code (.cond rfl (fun c3=>?_) (fun c3=>?_))))))))
 ·have c3k:=c3
  try simp only [qcA,qcB] at c3
  refine .skip (.code (.seq (.block (.seq (Wk.draw (mc:=⟨false,false⟩) [0,1,2,3,4,5,6,7,8,9] Fx.mix (by kernel_rfl) ?_)))))
  refine mV rfl rfl (arn (((1+k1):Nat):Int) rfl .no (.u rfl) (.u rfl) rfl (fun _=>by omega) (fun _=>wrap_i64 (by omega) (by omega)) ?_)
  refine iA rfl .no Fx.ar192 (.u rfl) (.u rfl) (fun _=>by omega) (fun _=>by omega) ?_
  refine ld rfl .no Fx.ag139 (.u rfl) (fun _=>Rd.own .here (by first|exact wa_at1 ((1+k1)) (by omega) (by omega)|exact ba_at1 ((1+k1)) (by omega) (by omega)|exact wap_at1 ((1+k1)) (by omega) (by omega)|rfl)) ?_
  refine mV rfl rfl (arn (((14+k1):Nat):Int) rfl .no (.u rfl) (.u rfl) rfl (fun _=>by omega) (fun _=>wrap_i64 (by omega) (by omega)) ?_)
  refine iA rfl .no Fx.ar192 (.u rfl) (.u rfl) (fun _=>by omega) (fun _=>by omega) ?_
  refine ld rfl .no Fx.ag139 (.u rfl) (fun _=>Rd.own .here (by first|exact wa_at1 ((14+k1)) (by omega) (by omega)|exact ba_at1 ((14+k1)) (by omega) (by omega)|exact wap_at1 ((14+k1)) (by omega) (by omega)|rfl)) ?_
  refine aS rfl rfl (aS rfl rfl (.nil (.code (Wk.draw (mc:=⟨false,false⟩) [0,1,2,3,4,5,6,7,8,9,10,12,15,16,19,21,24,25,11,13,14,17,18,20,22,23,26,27,28,29] Fx.mix (by kernel_rfl) ?_))))
  refine mV rfl rfl (mV rfl rfl (arn ((k1:Nat):Int) rfl .no (.u rfl) (.u rfl) rfl (fun _=>by omega) (fun _=>wrap_i64 (by omega) (by omega)) ?_))
  refine iA rfl .no Fx.ar192 (.u rfl) (.u rfl) (fun _=>by omega) (fun _=>by omega) ?_
  refine ld rfl .no Fx.ag139 (.u rfl) (fun _=>Rd.own .here (by first|exact wa_at1 (k1) (by omega) (by omega)|exact ba_at1 (k1) (by omega) (by omega)|exact wap_at1 (k1) (by omega) (by omega)|rfl)) ?_
  refine mV rfl rfl (arn (((9+k1):Nat):Int) rfl .no (.u rfl) (.u rfl) rfl (fun _=>by omega) (fun _=>wrap_i64 (by omega) (by omega)) ?_)
  refine iA rfl .no Fx.ar192 (.u rfl) (.u rfl) (fun _=>by omega) (fun _=>by omega) ?_
  refine ld rfl .no Fx.ag139 (.u rfl) (fun _=>Rd.own .here (by first|exact wa_at1 ((9+k1)) (by omega) (by omega)|exact ba_at1 ((9+k1)) (by omega) (by omega)|exact wap_at1 ((9+k1)) (by omega) (by omega)|rfl)) ?_
  refine bw (k:=.u32) rfl .no rfl (.u rfl) (.u rfl) rfl (mV rfl rfl (mV rfl rfl (mV rfl rfl (rw' (k:=.u32) rfl .no (.u rfl) (.u rfl) (fun _=>by decide) ?_))))
  refine mV rfl rfl (mV rfl rfl (mV rfl rfl (rw' (k:=.u32) rfl .no (.u rfl) (.u rfl) (fun _=>by decide) ?_)))
  refine kv rfl .no Fx.go152 (Evc rfl (Evc rfl Evn)) (fun _=>right_ok _ 7 _ (by decide)) ?_
  refine kv rfl .no Fx.go152 (Evc rfl (Evc rfl Evn)) (fun _=>right_ok _ 18 _ (by decide)) ?_
  refine bw (k:=.u32) rfl .no rfl (.u rfl) (.u rfl) rfl (bw (k:=.u32) rfl .no rfl (.u rfl) (.u rfl) rfl (bw (k:=.u32) rfl .no rfl (.u rfl) (.u rfl) rfl (kv rfl .no Fx.go152 (Evc rfl (Evc rfl Evn)) (fun _=>right_ok _ 17 _ (by decide)) ?_)))
  refine kv rfl .no Fx.go152 (Evc rfl (Evc rfl Evn)) (fun _=>right_ok _ 19 _ (by decide)) ?_
  refine bw (k:=.u32) rfl .no rfl (.u rfl) (.u rfl) rfl (bw (k:=.u32) rfl .no rfl (.u rfl) (.u rfl) rfl (bw (k:=.u32) rfl .no rfl (.u rfl) (.u rfl) rfl (iA rfl .no Fx.ar192 (.u rfl) (.u rfl) (fun _=>by omega) (fun _=>by omega) ?_)))
  refine s1 rfl (.u rfl) (.u rfl) rfl Fx.sz139 .here (by first|decide|(simp only [wa_len,ba_len,qlA]; omega)) (by first|exact wa_set1 (((16+k1:Nat))) (by omega)|exact ba_set1 (((16+k1:Nat))) (by omega)|exact wap_set1 (((16+k1:Nat))) (by omega) (by omega)|rfl) ?_
  refine .nil (.blk (.code (rq3 rfl rfl (mV rfl rfl (arn (((((16+k1:Nat))+1):Nat):Int) rfl .no (.u rfl) (.u rfl) rfl (fun _=>by omega) (fun _=>wrap_i64 (by omega) (by omega)) ?_)))))
  refine aS rfl rfl (.nil (We.lpo (k1+1,_) (esC rfl (by first|rfl|exact evi (by omega)) (esD rfl (esD rfl eZ))) (mS .here rfl (mS .here rfl mN)) ?_ ?_ ?_))
  ·first|omega|(dsimp only; omega)
  ·exact hGl2
  refine ⟨?_,?_⟩
  ·(try dsimp only)<;>(first|omega|rfl|assumption|(simp; done))
  (try dsimp only)<;>(rw [ey]; rfl)
 have c3k:=c3
 try simp only [qcA,qcB] at c3
 refine .exit (.xcode (.xlp (.xblk (.code (.seq ?_)))))
 obtain rfl:k1=48:=by omega
 refine Wk.draw (mc:=⟨false,false⟩) [0,1,2,3,4,5,6,7,8,9,10,11,12,13,14,15,16,17,18,19,20,21,22,23,24,25,26,27,28,29,30,31,32,33,34,35,36,37,38,39,40,41,42,43,44,45,46,47] Fx.mix (by kernel_rfl) ?_
 refine mV rfl rfl (nc rfl .no (.u rfl) (fz rfl .no Fx.fo168_0 (.u rfl) (iA rfl .no Fx.ar166 (.u rfl) (.u rfl) (fun _=>by decide) (fun _=>by decide) ?_)))
 refine ld rfl .no Fx.ag139 (.u rfl) (fun _=>Rd.own tk1 (by first|exact wa_at1 (0) (by omega) (by omega)|exact ba_at1 (0) (by omega) (by omega)|exact wap_at1 (0) (by omega) (by omega)|rfl)) ?_
 refine mV rfl rfl (nc rfl .no (.u rfl) (fz rfl .no Fx.fo168_0 (.u rfl) (iA rfl .no Fx.ar166 (.u rfl) (.u rfl) (fun _=>by decide) (fun _=>by decide) ?_)))
 refine ld rfl .no Fx.ag139 (.u rfl) (fun _=>Rd.own tk1 (by first|exact wa_at1 (1) (by omega) (by omega)|exact ba_at1 (1) (by omega) (by omega)|exact wap_at1 (1) (by omega) (by omega)|rfl)) ?_
 refine mV rfl rfl (nc rfl .no (.u rfl) (fz rfl .no Fx.fo168_0 (.u rfl) (iA rfl .no Fx.ar166 (.u rfl) (.u rfl) (fun _=>by decide) (fun _=>by decide) ?_)))
 refine ld rfl .no Fx.ag139 (.u rfl) (fun _=>Rd.own tk1 (by first|exact wa_at1 (2) (by omega) (by omega)|exact ba_at1 (2) (by omega) (by omega)|exact wap_at1 (2) (by omega) (by omega)|rfl)) ?_
 refine mV rfl rfl (nc rfl .no (.u rfl) (fz rfl .no Fx.fo168_0 (.u rfl) (iA rfl .no Fx.ar166 (.u rfl) (.u rfl) (fun _=>by decide) (fun _=>by decide) ?_)))
 refine ld rfl .no Fx.ag139 (.u rfl) (fun _=>Rd.own tk1 (by first|exact wa_at1 (3) (by omega) (by omega)|exact ba_at1 (3) (by omega) (by omega)|exact wap_at1 (3) (by omega) (by omega)|rfl)) ?_
 refine mV rfl rfl (nc rfl .no (.u rfl) (fz rfl .no Fx.fo168_0 (.u rfl) (iA rfl .no Fx.ar166 (.u rfl) (.u rfl) (fun _=>by decide) (fun _=>by decide) ?_)))
 refine ld rfl .no Fx.ag139 (.u rfl) (fun _=>Rd.own tk1 (by first|exact wa_at1 (4) (by omega) (by omega)|exact ba_at1 (4) (by omega) (by omega)|exact wap_at1 (4) (by omega) (by omega)|rfl)) ?_
 refine mV rfl rfl (nc rfl .no (.u rfl) (fz rfl .no Fx.fo168_0 (.u rfl) (iA rfl .no Fx.ar166 (.u rfl) (.u rfl) (fun _=>by decide) (fun _=>by decide) ?_)))
 refine ld rfl .no Fx.ag139 (.u rfl) (fun _=>Rd.own tk1 (by first|exact wa_at1 (5) (by omega) (by omega)|exact ba_at1 (5) (by omega) (by omega)|exact wap_at1 (5) (by omega) (by omega)|rfl)) ?_
 refine mV rfl rfl (nc rfl .no (.u rfl) (fz rfl .no Fx.fo168_0 (.u rfl) (iA rfl .no Fx.ar166 (.u rfl) (.u rfl) (fun _=>by decide) (fun _=>by decide) ?_)))
 refine ld rfl .no Fx.ag139 (.u rfl) (fun _=>Rd.own tk1 (by first|exact wa_at1 (6) (by omega) (by omega)|exact ba_at1 (6) (by omega) (by omega)|exact wap_at1 (6) (by omega) (by omega)|rfl)) ?_
 refine mV rfl rfl (nc rfl .no (.u rfl) (fz rfl .no Fx.fo168_0 (.u rfl) (iA rfl .no Fx.ar166 (.u rfl) (.u rfl) (fun _=>by decide) (fun _=>by decide) ?_)))
 refine ld rfl .no Fx.ag139 (.u rfl) (fun _=>Rd.own tk1 (by first|exact wa_at1 (7) (by omega) (by omega)|exact ba_at1 (7) (by omega) (by omega)|exact wap_at1 (7) (by omega) (by omega)|rfl)) ?_
 refine aS rfl rfl (aS rfl rfl (aS rfl rfl (aS rfl rfl (aS rfl rfl (aS rfl rfl (aS rfl rfl (aS rfl rfl (.nil (.code (.seq (.seq (rq1 rfl rfl (mV rfl rfl (.nil (.code (.block ?_))))))))))))))))
 refine Wk.lop (α:=Nat×(Nat→W)) (fun gh=>[(11,true,U (gh.2 0)),(12,true,U (gh.2 1)),(13,true,U (gh.2 2)),(14,true,U (gh.2 3)),(15,true,U (gh.2 4)),(16,true,U (gh.2 5)),(17,true,U (gh.2 6)),(18,true,U (gh.2 7)),(131,true,.int .i64 (gh.1:Int))]) (fun _=>[])
  (fun gh Gl=>(gh.1≤64)∧(gh.2=rnds y s gh.1)) (fun gh=>64-gh.1) (0,s) [(0,true,_),(4,true,_)] [_,_]
  (esD rfl (esD rfl (esD rfl (esD rfl (esD rfl (esD rfl (esD rfl (esD rfl (esC rfl (by first|rfl|exact evi (by omega)) (esD rfl (esD rfl eZ)))))))))))
  (mS .here rfl (mS .here rfl mN)) ?_ ?_
 ·refine ⟨?_,?_⟩
  ·(try dsimp only)<;>(first|omega|rfl|assumption|(simp; done))
  (try dsimp only)<;>(first|omega|rfl|assumption|(simp; done))
 intro gh N3 Gl3 hN3 hGl3 hF3
 obtain ⟨k2,x⟩:=gh; dsimp only at hF3 hN3 ⊢
 obtain ⟨hk2,ex⟩:=hF3
 have hK:=hK.mono hGl3
 refine .seq (rq1 rfl rfl (cp rfl .no (.u rfl) (.u rfl) rfl (.nil (.code (.seq (.cond rfl (fun c4=>?_) (fun c4=>?_)))))))
 ·have c4k:=c4
  try simp only [qcA,qcB] at c4
  refine .skip (.code (.seq (.block (.seq (rq2 rfl rfl (mV rfl rfl (aS rfl rfl (.nil (.code (.seq (Wk.draw (mc:=⟨false,false⟩) [0,1,3,6,10,11,12,13,14,15,16,18,19,20,22,23,24,2,4,5,7,8,9,17,21,25,26] Fx.mix (by kernel_rfl) ?_)))))))))))
  refine mV rfl rfl (mV rfl rfl (mV rfl rfl (mV rfl rfl (mV rfl rfl (mV rfl rfl (mV rfl rfl (mV rfl rfl (bw (k:=.u32) rfl .no rfl (.u rfl) (.u rfl) rfl (bw (k:=.u32) rfl .no rfl (.u rfl) (.u rfl) rfl (bw (k:=.u32) rfl .no rfl (.u rfl) (.u rfl) rfl (mV rfl rfl (iA rfl .no Fx.ar192 (.u rfl) (.u rfl) (fun _=>by omega) (fun _=>by omega) ?_))))))))))))
  refine ld rfl .no Fx.ag139 (.u rfl) (fun _=>(hK.wat (k2) (by omega) (by omega)).rd) ?_
  refine mV rfl rfl (iA rfl .no Fx.ar192 (.u rfl) (.u rfl) (fun _=>by omega) (fun _=>by omega) ?_)
  refine ld rfl .no Fx.ag139 (.u rfl) (fun _=>Rd.own .here (by first|exact wa_at1 (k2) (by omega) (by omega)|exact ba_at1 (k2) (by omega) (by omega)|exact wap_at1 (k2) (by omega) (by omega)|rfl)) ?_
  refine kv rfl .no Fx.go152 (Evc rfl (Evc rfl Evn)) (fun _=>right_ok _ 6 _ (by decide)) ?_
  refine kv rfl .no Fx.go152 (Evc rfl (Evc rfl Evn)) (fun _=>right_ok _ 11 _ (by decide)) ?_
  refine bw (k:=.u32) rfl .no rfl (.u rfl) (.u rfl) rfl (kv rfl .no Fx.go152 (Evc rfl (Evc rfl Evn)) (fun _=>right_ok _ 25 _ (by decide)) ?_)
  refine bw (k:=.u32) rfl .no rfl (.u rfl) (.u rfl) rfl (bw (k:=.u32) rfl .no rfl (.u rfl) (.u rfl) rfl (bw (k:=.u32) rfl .no rfl (.u rfl) (.u rfl) rfl (bw (k:=.u32) rfl .no rfl (.u rfl) (.u rfl) rfl (bw (k:=.u32) rfl .no rfl (.u rfl) (.u rfl) rfl (aS rfl rfl (.nil (.code (.seq (Wk.rg [0,1,2,3,4,5,6,7,8,9,10,11,12,13,14,15,16,17,18] rfl rfl (mV rfl rfl (kv rfl .no Fx.go152 (Evc rfl (Evc rfl Evn)) (fun _=>right_ok _ 2 _ (by decide)) ?_)))))))))))
  refine mV rfl rfl (kv rfl .no Fx.go152 (Evc rfl (Evc rfl Evn)) (fun _=>right_ok _ 13 _ (by decide)) ?_)
  refine bw (k:=.u32) rfl .no rfl (.u rfl) (.u rfl) rfl (mV rfl rfl (kv rfl .no Fx.go152 (Evc rfl (Evc rfl Evn)) (fun _=>right_ok _ 22 _ (by decide)) ?_))
  refine bw (k:=.u32) rfl .no rfl (.u rfl) (.u rfl) rfl (mV rfl rfl (mV rfl rfl (bw (k:=.u32) rfl .no rfl (.u rfl) (.u rfl) rfl (mV rfl rfl (mV rfl rfl (mV rfl rfl (bw (k:=.u32) rfl .no rfl (.u rfl) (.u rfl) rfl (bw (k:=.u32) rfl .no rfl (.u rfl) (.u rfl) rfl (bw (k:=.u32) rfl .no rfl (.u rfl) (.u rfl) rfl (bw (k:=.u32) rfl .no rfl (.u rfl) (.u rfl) rfl (aS rfl rfl (.nil (.code (Wk.rg [0,1,2,3,4,5,6,7,8,9,10,11,12,13,14,15,16,17,18,19] rfl rfl (mV rfl rfl (mV rfl rfl (bw (k:=.u32) rfl .no rfl (.u rfl) (.u rfl) rfl (mV rfl rfl (mV rfl rfl (mV rfl rfl (mV rfl rfl (mV rfl rfl (bw (k:=.u32) rfl .no rfl (.u rfl) (.u rfl) rfl (mV rfl rfl (mV rfl rfl (mV rfl rfl (aS rfl rfl (aS rfl rfl (aS rfl rfl (aS rfl rfl (aS rfl rfl (aS rfl rfl (aS rfl rfl (aS rfl rfl (.nil (.blk (.code (rq2 rfl rfl (arn (((k2+1):Nat):Int) rfl .no (.u rfl) (.u rfl) rfl (fun _=>by omega) (fun _=>wrap_i64 (by omega) (by omega)) ?_)))))))))))))))))))))))))))))))))))))))
  refine mV rfl rfl (.nil (We.lpo (k2+1,rndW x (kW k2) (y k2)) ?_ ?_ ?_ ?_ ?_))
  ·exact (esD rfl (esD rfl (esD rfl (esD rfl (esD rfl (esD rfl (esD rfl (esD rfl (esC rfl (by first|rfl|exact evi (by omega)) (esD rfl (esD rfl eZ)))))))))))
  ·exact (mS .here rfl (mS .here rfl mN))
  ·first|omega|(dsimp only; omega)
  ·exact hGl3
  refine ⟨?_,?_⟩
  ·(try dsimp only)<;>(first|omega|rfl|assumption|(simp; done))
  (try dsimp only)<;>(rw [ex]; rfl)
 have c4k:=c4
 try simp only [qcA,qcB] at c4
 refine .exit (.xcode (.xlp (.xblk (.code (.seq ?_)))))
 obtain rfl:k2=64:=by omega
 refine rq10 rfl rfl (mV rfl rfl (mV rfl rfl (mV rfl rfl (mV rfl rfl (mV rfl rfl (mV rfl rfl (mV rfl rfl (mV rfl rfl (bCe (wa 8 x) rfl .no Fx.bp166_0_1_2_3_4_5_6_7 (.cons (.u rfl) rfl (.cons (.u rfl) rfl (.cons (.u rfl) rfl (.cons (.u rfl) rfl (.cons (.u rfl) rfl (.cons (.u rfl) rfl (.cons (.u rfl) rfl (.cons (.u rfl) rfl .nil)))))))) rfl (by simp [bFold,put,wa,List.range_succ]) ?_)))))))))
 refine mV rfl rfl (.nil (.code (.block ?_)))
 refine Wk.lop (α:=Nat×(Nat→W)) (fun gh=>[(200,true,.int .i64 (gh.1:Int))]) (fun gh=>[.blk bs (cl (wa 8 gh.2++[vp,nn]) 168)])
  (fun gh Gl=>(gh.1≤8)∧(gh.2=fun i=>if i<gh.1 then s i+x i else s i)) (fun gh=>8-gh.1) (0,s) [(0,true,_),(199,true,_)] [_]
  (esC rfl (by first|rfl|exact evi (by omega)) (esD rfl (esD rfl eZ)))
  (mS tk1 rfl (mS .here rfl mN)) ?_ ?_
 ·refine ⟨?_,?_⟩
  ·(try dsimp only)<;>(first|omega|rfl|assumption|(simp; done))
  (try dsimp only)<;>(funext i; simp)
 intro gh N4 Gl4 hN4 hGl4 hF4
 obtain ⟨k3,z⟩:=gh; dsimp only at hF4 hN4 ⊢
 obtain ⟨hk3,ez⟩:=hF4
 refine .seq (rq1 rfl rfl (cp rfl .no (.u rfl) (.u rfl) rfl (.nil (.code (.seq (.cond rfl (fun c5=>?_) (fun c5=>?_)))))))
 ·have c5k:=c5
  try simp only [qcA,qcB] at c5
  refine .skip (.code (.seq (.block (.seq (rq4 rfl rfl (mV rfl rfl (ix rfl .no Fx.ar166 Fx.ag139 (.u rfl) (.u rfl) (fun _=>by omega) (fun _=>by omega) (fun _=>wa_at (n:=8) (y:=x) (j:=k3) (by omega)) ?_)))))))
  refine aS rfl rfl (aS rfl rfl (.nil (.code (Wk.draw (mc:=⟨false,false⟩) [0,1,2,3,4,5,6,7,8,9,10,11] Fx.mix (by kernel_rfl) ?_))))
  refine mV rfl rfl (mV rfl rfl (nc rfl .no (.u rfl) (fz rfl .no Fx.fo168_0 (.u rfl) (iA rfl .no Fx.ar166 (.u rfl) (.u rfl) (fun _=>by omega) (fun _=>by omega) ?_))))
  refine ld rfl .no Fx.ag139 (.u rfl) (fun _=>Rd.own .here (by first|exact wa_at1 (k3) (by omega) (by omega)|exact ba_at1 (k3) (by omega) (by omega)|exact wap_at1 (k3) (by omega) (by omega)|rfl)) ?_
  refine mV rfl rfl (bw (k:=.u32) rfl .no rfl (.u rfl) (.u rfl) rfl (nc rfl .no (.u rfl) (fz rfl .no Fx.fo168_0 (.u rfl) (iA rfl .no Fx.ar166 (.u rfl) (.u rfl) (fun _=>by omega) (fun _=>by omega) ?_))))
  refine s1 rfl (.u rfl) (.u rfl) rfl Fx.sz139 .here (by first|decide|(simp only [wa_len,ba_len,qlA]; omega)) (by first|exact wa_set1 (k3) (by omega)|exact ba_set1 (k3) (by omega)|exact wap_set1 (k3) (by omega) (by omega)|rfl) ?_
  refine .nil (.blk (.code (rq2 rfl rfl (arn (((k3+1):Nat):Int) rfl .no (.u rfl) (.u rfl) rfl (fun _=>by omega) (fun _=>wrap_i64 (by omega) (by omega)) ?_))))
  refine mV rfl rfl (.nil (We.lpo (k3+1,_) (esC rfl (by first|rfl|exact evi (by omega)) (esD rfl (esD rfl eZ))) (mS .here rfl (mS .here rfl mN)) ?_ ?_ ?_))
  ·first|omega|(dsimp only; omega)
  ·exact hGl4
  refine ⟨?_,?_⟩
  ·(try dsimp only)<;>(first|omega|rfl|assumption|(simp; done))
  (try dsimp only)<;>(rw [ez]; exact upd_if)
 have c5k:=c5
 try simp only [qcA,qcB] at c5
 refine .exit (.xcode (.xlp (.xblk (.nil (We.fin Tryz.results137 .nil (mS .here rfl mN) ?_)))))
 obtain rfl:k3=8:=by omega
 refine ⟨?_,rfl⟩
 rw [ez,ex,ey,wa_congr (f:=fun i=>if i<8 then s i+rnds (sched (fun i=>xs.getD i 0) 48) s 64 i else s i) (f':=shaC s (fun i=>xs.getD i 0)) (fun i hi=>by rw [if_pos hi]; rfl)]
namespace Fx
theorem fo168_2:fOff Tryz.prog 168 2=some 9:=by kernel_rfl
theorem ag3:aggN Tryz.prog 3=some none:=by kernel_rfl
theorem sz3:szT Tryz.prog 3=some 1:=by kernel_rfl
theorem fo168_1:fOff Tryz.prog 168 1=some 8:=by kernel_rfl
theorem ag34:aggN Tryz.prog 34=some none:=by kernel_rfl
theorem sz34:szT Tryz.prog 34=some 1:=by kernel_rfl
theorem go137:goFn Tryz.prog 137=true:=by kernel_rfl
end Fx
theorem block_row (s:Nat→W) (xs:List Y) (v vp nn:Value) (bs:Nat) (G:PM) (hK:RdNP G 1 0 (wa 64 kW)) (hl:64≤xs.length):Ct Tryz.prog 137 ([.pointer (some ⟨bs,0,none⟩),v]:List Value).toArray G [rB v 5 xs,.blk bs (cl (wa 8 s++[vp,nn]) 168)] (fun _ μ' u=>∃ ν,μ'=rB v 5 xs :: ν∧ν=[.blk bs (cl (wa 8 (shaC s (fun i=>xs.getD i 0))++[vp,nn]) 168)]∧u=.tuple #[]) :=
 Ct.lendB (fun h G2 hle hv hs=>by subst hv; exact block_ok s xs h vp nn bs G2 hs (hK.mono hle) hl)
theorem st_s8 {y:Nat→W} {a b v:Value}:(wa 8 y++[a,b]).set 8 v=wa 8 y++[v,b]:=wap_s rfl
theorem st_s9 {y:Nat→W} {a b v:Value}:(wa 8 y++[a,b]).set 9 v=wa 8 y++[a,v]:=wap_s rfl
theorem st_eq {zs:List Y} {j m b T:Nat} {vp:Value} (hj:zs.length / 64=j) (hm:m=zs.length):Res.blk b (cl (wa 8 (shaW zs j)++[vp,.int .i64 (m:Int)]) T)=.blk b (cl (stC zs vp) T):=by
 subst hj; subst hm; rfl
theorem put_step {zs L:List Y} {j b T:Nat} {vq nn:Value} (eL:L=zs.drop (64*j)) (h:64≤L.length):Res.blk b (cl (wa 8 (shaC (shaW zs j) (fun i=>L.getD i 0))++[vq,nn]) T)=.blk b (cl (wa 8 (shaW zs (j+1))++[vq,nn]) T):=by
 rw [shaW,shaC_congr (b':=blkF zs j)]
 intro i hi
 rw [eL,blkF]; simp [List.getD_eq_getElem?_getD,List.getElem?_drop]
theorem put_first {xs ys L:List Y} {b T k:Nat} {vq nn:Value} (eL:L=restL xs++ys.take k) (hk:k=min (64-(restL xs).length) ys.length) (h:64≤L.length):Res.blk b (cl (wa 8 (shaC (shaW xs (xs.length / 64)) (fun i=>L.getD i 0))++[vq,nn]) T)=.blk b (cl (wa 8 (shaW (xs++ys) (xs.length / 64+1))++[vq,nn]) T):=by
 have hr:=rest_len xs
 rw [eL,List.length_append,List.length_take] at h
 rw [shaW,shaW_app (by omega),shaC_congr (b':=blkF (xs++ys) (xs.length / 64))]
 intro i hi
 rw [eL,blkF]
 simp only [List.getD_eq_getElem?_getD,List.getElem?_append,List.getElem?_take,hr]
 by_cases h1:i<xs.length%64
 ·simp [h1,restL,show 64*(xs.length / 64)+i<xs.length by omega]
 ·rw [if_neg h1,if_pos (by omega),if_neg (by omega)]
  congr 2; omega
theorem put_rest {xs ys L:List Y} (eL:L=restL xs++ys.take (min (64-(restL xs).length) ys.length)) (h:L.length<64):L=restL (xs++ys)∧(xs++ys).length / 64=xs.length / 64∧shaW (xs++ys) (xs.length / 64)=shaW xs (xs.length / 64):=by
 have hr:=rest_len xs
 rw [eL,List.length_append,List.length_take] at h
 have e:(xs++ys).length / 64=xs.length / 64:=by rw [List.length_append]; omega
 refine ⟨?_,e,shaW_app (by omega)⟩
 have h5:min (64-(restL xs).length) ys.length=ys.length:=by omega
 rw [eL,h5,List.take_length,restL,restL,e,List.drop_append_of_le_length (by omega)]
theorem put_drop {xs ys:List Y} (h:64≤(restL xs).length+ys.length):ys.drop (min (64-(restL xs).length) ys.length)=(xs++ys).drop (64*(xs.length / 64+1)):=by
 have hr:=rest_len xs
 rw [List.drop_append,List.drop_of_length_le (show xs.length≤64*(xs.length / 64+1) by omega),List.nil_append]
 congr 1; omega
theorem put_drop0 {xs ys:List Y} (h:(restL xs).length=0):ys=(xs++ys).drop (64*(xs.length / 64)):=by
 have hr:=rest_len xs
 rw [show 64*(xs.length / 64)=xs.length by omega,List.drop_left]
theorem put_zero {xs ys:List Y} {b T:Nat} {vq nn:Value} (h:(restL xs).length=0):Res.blk b (cl (wa 8 (shaW xs (xs.length / 64))++[vq,nn]) T)=.blk b (cl (wa 8 (shaW (xs++ys) (xs.length / 64))++[vq,nn]) T):=by
 rw [shaW_app (by omega)]
theorem put_ok (xs ys:List Y) (h:Sh) (vp:Value) (bs:Nat) (G:PM) (hs:SlR G 1 encY h ys) (hK:RdNP G 1 0 (wa 64 kW)) (hl:xs.length+ys.length≤4611686018427387904):Ct Tryz.prog 115 ([.pointer (some ⟨bs,0,none⟩),h.val ys.length]:List Value).toArray G [.blk bs (cl (stC xs vp) 168),rB vp 5 (restL xs)] (fun _ μ' u=>∃ vp',μ'=[.blk bs (cl (stC (xs++ys) vp') 168),rB vp' 5 (restL (xs++ys))]∧u=.tuple #[]):=by
 refine Ct.of Tryz.func115 rfl Tryz.ntmps115 rfl fun w0 hs0=>?_
 have hr:=rest_len xs
 refine .seq (rq10 rfl rfl (mV rfl rfl (nc rfl .no (.u rfl) (fz rfl .no Fx.fo168_2 (.u rfl) (ld rfl .no Fx.ag3 (.u rfl) (fun _=>Rd.own .here (by first|exact wap_f rfl|rfl)) ?_)))))
 refine mV rfl rfl (ln rfl .no Fx.sn34 (.u rfl) (arn (((xs.length+ys.length):Nat):Int) rfl .no (.u rfl) (.u rfl) rfl (fun _=>by omega) (fun _=>wrap_i64 (by omega) (by omega)) ?_))
 refine nc rfl .no (.u rfl) (fz rfl .no Fx.fo168_2 (.u rfl) (s1 rfl (.u rfl) (.u rfl) rfl Fx.sz3 .here (by first|decide|(simp only [stC,wa_len,ba_len,qlA]; omega)) (by first|exact st_s8|exact st_s9) ?_))
 refine .nil (.code (.seq (.seq (rq6 rfl rfl (mV rfl rfl (nc rfl .no (.u rfl) (fz rfl .no Fx.fo168_1 (.u rfl) (ld rfl .no Fx.ag34 (.u rfl) (fun _=>Rd.own .here (by first|exact wap_f rfl|rfl)) ?_))))))))
 refine lr rfl .no Fx.sn34 (.u rfl) tk1 ?_
 refine cp rfl .no (.u rfl) (.u rfl) rfl (.nil (.code (.cond rfl (fun c1=>?_) (fun c1=>?_))))
 ·have c1k:=c1
  try simp only [qcA,qcB] at c1
  refine .seq (rq10 rfl rfl (mV rfl rfl (nc rfl .no (.u rfl) (fz rfl .no Fx.fo168_1 (.u rfl) (ld rfl .no Fx.ag34 (.u rfl) (fun _=>Rd.own .here (by first|exact wap_f rfl|rfl)) ?_)))))
  refine lr rfl .no Fx.sn34 (.u rfl) tk1 ?_
  refine arn (((64-(restL xs).length):Nat):Int) rfl .no (.u rfl) (.u rfl) rfl (fun _=>by omega) (fun _=>wrap_i64 (by omega) (by omega)) ?_
  refine mV rfl rfl (ln rfl .no Fx.sn34 (.u rfl) (mIn ((64-(restL xs).length)) (ys.length) rfl .no (.u rfl) (.u rfl) (fun _=>by omega) (fun _=>by omega) ?_))
  refine aS rfl rfl (.nil (.code (.seq (Wk.draw (mc:=⟨false,false⟩) [0,1,2,3,4,5,6,7,8,9,10,11] Fx.mix (by kernel_rfl) ?_))))
  refine mV rfl rfl (mV rfl rfl (nc rfl .no (.u rfl) (fz rfl .no Fx.fo168_1 (.u rfl) (ld rfl .no Fx.ag34 (.u rfl) (fun _=>Rd.own .here (by first|exact wap_f rfl|rfl)) ?_))))
  refine mV rfl rfl (mV rfl rfl (kE ((min (64-(restL xs).length) ys.length)) rfl .no Fx.se34 hs (.u rfl) (.u rfl) (fun _=>by omega) (fun _=>by omega) ?_))
  intro h36 L36 eL36 lL36 hs36
  have lL36:=lL36 rfl
  refine apY rfl Fx.se34 Fx.zv5 (.u rfl) (.u rfl) tk1 hs36.sc (by (try simp only [qlA,yl_len]); omega) ?_
  intro v37 L37 ov37 eL37
  have lL37:L37.length=(restL xs).length+L36.length:=by rw [eL37,List.length_append]
  refine nc rfl .no (.u rfl) (fz rfl .no Fx.fo168_1 (.u rfl) (s1v rfl (.u rfl) (.u rfl) .here Fx.sz34 tk1 (by first|decide|(simp only [stC,wa_len,ba_len,qlA]; omega)) (by first|exact st_s8|exact st_s9) ?_))
  refine .nil (.code (.seq (rq4 rfl rfl (mV rfl rfl (mV rfl rfl (kD ((min (64-(restL xs).length) ys.length)) rfl .no Fx.se34 hs (.u rfl) (.u rfl) (fun _=>by omega) (fun _=>by omega) ?_))))))
  intro h42 L42 eL42 lL42 hs42
  have lL42:=lL42 rfl
  refine aS rfl rfl (.nil (.code (.seq (.seq (rq6 rfl rfl (mV rfl rfl (nc rfl .no (.u rfl) (fz rfl .no Fx.fo168_1 (.u rfl) (ld rfl .no Fx.ag34 (.u rfl) (fun _=>Rd.own .here (by first|exact wap_f rfl|rfl)) ?_)))))))))
  refine lr rfl .no Fx.sn34 (.u rfl) tk1 ?_
  refine cp rfl .no (.u rfl) (.u rfl) rfl (.nil (.code (.cond rfl (fun c2=>?_) (fun c2=>?_))))
  ·have c2k:=c2
   try simp only [qcA,qcB] at c2
   refine .ret (We.fin Tryz.results115 .nil (mS .here rfl (mS .here rfl mN)) ?_)
   obtain ⟨e1,e2,e3⟩:=put_rest (eL37.trans (by rw [eL36])) (by omega)
   exact ⟨v37,by rw [← e1,←e3,st_eq e2 (by simp)],rfl⟩
  have c2k:=c2
  try simp only [qcA,qcB] at c2
  refine .skip (.code (.seq (rq6 rfl rfl (mV rfl rfl (mV rfl rfl (nc rfl .no (.u rfl) (fz rfl .no Fx.fo168_1 (.u rfl) (ld rfl .no Fx.ag34 (.u rfl) (fun _=>Rd.own .here (by first|exact wap_f rfl|rfl)) ?_))))))))
  refine ka rfl (.inr rfl) Fx.go137 (Evc rfl (Evc rfl Evn)) (mtk2 tk1 .here) (block_row _ L37 _ _ _ _ _ hK (by omega)) ?_
  rintro _ G54 μ54 hG54 ⟨_,rfl,rfl,rfl⟩
  have hs:=hs.mono hG54
  have hK:=hK.mono hG54
  have hs42:=hs42.mono hG54
  refine .nil (.code (rq4 rfl rfl (mV rfl rfl (nc rfl .no (.u rfl) (fz rfl .no Fx.fo168_1 (.u rfl) (s1 rfl (.u rfl) (.u rfl) rfl Fx.sz34 tk1 (by first|decide|(simp only [stC,wa_len,ba_len,qlA]; omega)) (by first|exact st_s8|exact st_s9) ?_))))))
  refine .nil (we_nilB 5 ?_)
  refine .code (.seq (.block ?_))
  refine Wk.lop (α:=Nat×Sh×List Y×Value) (fun gh=>[(1,true,gh.2.1.val gh.2.2.1.length)]) (fun gh=>[.blk bs (cl (wa 8 (shaW (xs++ys) gh.1)++[gh.2.2.2,.int .i64 ((xs.length+ys.length:Nat):Int)]) 168)])
   (fun gh Gl=>(64*gh.1≤xs.length+ys.length)∧(gh.2.2.1=(xs++ys).drop (64*gh.1))∧(SlR Gl 1 encY gh.2.1 gh.2.2.1)) (fun gh=>gh.2.2.1.length) (xs.length / 64+1,_,_,_) [(0,true,_)] [_]
   (esD rfl (esD rfl eZ))
   (mS tk1 (put_first (eL37.trans (by rw [eL36])) rfl (by omega)) (mS .here rfl mN)) ?_ ?_
  ·refine ⟨?_,?_,?_⟩
   ·(try dsimp only)<;>(omega)
   ·(try dsimp only)<;>(rw [eL42]; exact put_drop (by omega))
   (try dsimp only)<;>(exact hs42)
  intro gh N0 Gl0 hN0 hGl0 hF0
  obtain ⟨j,h',L,vq⟩:=gh; dsimp only at hF0 hN0 ⊢
  obtain ⟨hj,eL,hL⟩:=hF0
  have hs:=hs.mono hGl0
  have hK:=hK.mono hGl0
  have lL:L.length=xs.length+ys.length-64*j:=by rw [eL]; simp
  refine .seq (.seq (rq3 rfl rfl (mV rfl rfl (ln rfl .no Fx.sn34 (.u rfl) (cp rfl .no (.u rfl) (.u rfl) rfl (.nil (.code (.cond rfl (fun c3=>?_) (fun c3=>?_)))))))))
  ·have c3k:=c3
   try simp only [qcA,qcB] at c3
   refine .skip (.code (.seq (.block (rq3 rfl rfl (mV rfl rfl (mV rfl rfl (ka rfl (.inr rfl) Fx.go137 (Evc rfl (Evc rfl Evn)) (mtk1 .here) (block_ok _ L h' _ _ _ _ hL hK (by omega)) ?_)))))))
   rintro _ G65 μ65 hG65 ⟨rfl,rfl⟩
   have hs:=hs.mono hG65
   have hK:=hK.mono hG65
   have hL:=hL.mono hG65
   refine .nil (.blk (.code (rq3 rfl rfl (mV rfl rfl (kD (64) rfl .no Fx.se34 hL (.u rfl) (.u rfl) (fun _=>by omega) (fun _=>by omega) ?_)))))
   intro h62 L62 eL62 lL62 hs62
   have lL62:=lL62 rfl
   refine aS rfl rfl (.nil (We.lpo (j+1,h62,L62,vq) ?_ ?_ ?_ ?_ ?_))
   ·exact (esD rfl (esD rfl eZ))
   ·exact (mS .here (put_step eL (by omega)) (mS .here rfl mN))
   ·first|omega|(dsimp only; omega)
   ·exact (hGl0).trans hG65
   refine ⟨?_,?_,?_⟩
   ·(try dsimp only)<;>(omega)
   ·(try dsimp only)<;>(rw [eL62,eL,List.drop_drop]; congr 1)
   (try dsimp only)<;>(exact hs62)
  have c3k:=c3
  try simp only [qcA,qcB] at c3
  refine .exit (.xcode (.xlp (.xblk (.code (rq7 rfl rfl (mV rfl rfl ?_))))))
  refine b0B rfl Fx.se34 ?_; intro b67
  refine mV rfl rfl (apY0 rfl Fx.se34 Fx.zv5 (.u rfl) (.u rfl) .here hL.sc (by (try simp only [qlA,yl_len]); omega) ?_)
  intro v69 L69 _ ov69 eL69
  have lL69:L69.length=L.length:=by rw [eL69]
  refine nc rfl .no (.u rfl) (fz rfl .no Fx.fo168_1 (.u rfl) (s1v rfl (.u rfl) (.u rfl) .here Fx.sz34 tk1 (by first|decide|(simp only [stC,wa_len,ba_len,qlA]; omega)) (by first|exact st_s8|exact st_s9) ?_))
  refine .nil (.nil (We.fin Tryz.results115 .nil (mS .here rfl (mS .here rfl mN)) ?_))
  have ej:(xs++ys).length / 64=j:=by rw [List.length_append]; omega
  exact ⟨v69,by rw [st_eq ej (by simp),eL69,eL,restL,ej],rfl⟩
 have c1k:=c1
 try simp only [qcA,qcB] at c1
 refine .skip (.code (.seq (.block ?_)))
 refine Wk.lop (α:=Nat×Sh×List Y×Value) (fun gh=>[(1,true,gh.2.1.val gh.2.2.1.length)]) (fun gh=>[.blk bs (cl (wa 8 (shaW (xs++ys) gh.1)++[gh.2.2.2,.int .i64 ((xs.length+ys.length:Nat):Int)]) 168)])
  (fun gh Gl=>(64*gh.1≤xs.length+ys.length)∧(gh.2.2.1=(xs++ys).drop (64*gh.1))∧(SlR Gl 1 encY gh.2.1 gh.2.2.1)) (fun gh=>gh.2.2.1.length) (xs.length / 64,_,_,_) [(0,true,_)] [_]
  (esD rfl (esD rfl eZ))
  (mS .here (put_zero (by omega)) (mS .here rfl mN)) ?_ ?_
 ·refine ⟨?_,?_,?_⟩
  ·(try dsimp only)<;>(omega)
  ·(try dsimp only)<;>(exact put_drop0 (by omega))
  (try dsimp only)<;>(exact hs)
 intro gh N1 Gl1 hN1 hGl1 hF1
 obtain ⟨j,h',L,vq⟩:=gh; dsimp only at hF1 hN1 ⊢
 obtain ⟨hj,eL,hL⟩:=hF1
 have hK:=hK.mono hGl1
 have lL:L.length=xs.length+ys.length-64*j:=by rw [eL]; simp
 refine .seq (.seq (rq3 rfl rfl (mV rfl rfl (ln rfl .no Fx.sn34 (.u rfl) (cp rfl .no (.u rfl) (.u rfl) rfl (.nil (.code (.cond rfl (fun c4=>?_) (fun c4=>?_)))))))))
 ·have c4k:=c4
  try simp only [qcA,qcB] at c4
  refine .skip (.code (.seq (.block (rq3 rfl rfl (mV rfl rfl (mV rfl rfl (ka rfl (.inr rfl) Fx.go137 (Evc rfl (Evc rfl Evn)) (mtk1 .here) (block_ok _ L h' _ _ _ _ hL hK (by omega)) ?_)))))))
  rintro _ G65 μ65 hG65 ⟨rfl,rfl⟩
  have hL:=hL.mono hG65
  refine .nil (.blk (.code (rq3 rfl rfl (mV rfl rfl (kD (64) rfl .no Fx.se34 hL (.u rfl) (.u rfl) (fun _=>by omega) (fun _=>by omega) ?_)))))
  intro h62 L62 eL62 lL62 hs62
  have lL62:=lL62 rfl
  refine aS rfl rfl (.nil (We.lpo (j+1,h62,L62,vq) ?_ ?_ ?_ ?_ ?_))
  ·exact (esD rfl (esD rfl eZ))
  ·exact (mS .here (put_step eL (by omega)) (mS .here rfl mN))
  ·first|omega|(dsimp only; omega)
  ·exact (hGl1).trans hG65
  refine ⟨?_,?_,?_⟩
  ·(try dsimp only)<;>(omega)
  ·(try dsimp only)<;>(rw [eL62,eL,List.drop_drop]; congr 1)
  (try dsimp only)<;>(exact hs62)
 have c4k:=c4
 try simp only [qcA,qcB] at c4
 refine .exit (.xcode (.xlp (.xblk (.code (rq7 rfl rfl (mV rfl rfl ?_))))))
 refine b0B rfl Fx.se34 ?_; intro b67
 refine mV rfl rfl (apY0 rfl Fx.se34 Fx.zv5 (.u rfl) (.u rfl) .here hL.sc (by (try simp only [qlA,yl_len]); omega) ?_)
 intro v69 L69 _ ov69 eL69
 have lL69:L69.length=L.length:=by rw [eL69]
 refine nc rfl .no (.u rfl) (fz rfl .no Fx.fo168_1 (.u rfl) (s1v rfl (.u rfl) (.u rfl) .here Fx.sz34 tk1 (by first|decide|(simp only [stC,wa_len,ba_len,qlA]; omega)) (by first|exact st_s8|exact st_s9) ?_))
 refine .nil (.nil (We.fin Tryz.results115 .nil (mS .here rfl (mS .here rfl mN)) ?_))
 have ej:(xs++ys).length / 64=j:=by rw [List.length_append]; omega
 exact ⟨v69,by rw [st_eq ej (by simp),eL69,eL,restL,ej],rfl⟩
namespace Fx
theorem zr168:zrL Tryz.prog 168=some ([.int .u32 0,.int .u32 0,.int .u32 0,.int .u32 0,.int .u32 0,.int .u32 0,.int .u32 0,.int .u32 0,.slice none 0 0,.int .i64 0]):=by kernel_rfl
theorem bp168_0:bPl Tryz.prog 168 [0]=some ([.int .u32 0,.int .u32 0,.int .u32 0,.int .u32 0,.int .u32 0,.int .u32 0,.int .u32 0,.int .u32 0,.slice none 0 0,.int .i64 0],[(0,8)]):=by kernel_rfl
theorem sz168:szT Tryz.prog 168=some 10:=by kernel_rfl
theorem ag168:aggN Tryz.prog 168=some (some 10):=by kernel_rfl
theorem go114:goFn Tryz.prog 114=true:=by kernel_rfl
theorem pt190:ptT Tryz.prog 190=true:=by kernel_rfl
theorem go115:goFn Tryz.prog 115=true:=by kernel_rfl
theorem zq23:zrL Tryz.prog 23=some (ba 32 (fun _=>0#8)):=by kernel_rfl
theorem ag166:aggN Tryz.prog 166=some (some 8):=by kernel_rfl
theorem bp168_0_1_2:bPl Tryz.prog 168 [0,1,2]=some ([.int .u32 0,.int .u32 0,.int .u32 0,.int .u32 0,.int .u32 0,.int .u32 0,.int .u32 0,.int .u32 0,.slice none 0 0,.int .i64 0],[(0,8),(8,1),(9,1)]):=by kernel_rfl
theorem cv3_24:cvK Tryz.prog 3 24=some .u64:=by kernel_rfl
theorem cv24_5:cvK Tryz.prog 24 5=some .u8:=by kernel_rfl
theorem ar23:arE Tryz.prog 23=some (32,5,1):=by kernel_rfl
theorem ag23:aggN Tryz.prog 23=some (some 32):=by kernel_rfl
theorem sz23:szT Tryz.prog 23=some 32:=by kernel_rfl
end Fx
theorem begin_ok (G:PM):Ct Tryz.prog 114 ([]:List Value).toArray G [] (fun _ μ' u=>μ'=[]∧u=.agg (stC [] (.slice none 0 0)).toArray):=by
 refine Ct.of Tryz.func114 rfl Tryz.ntmps114 rfl fun w0 hs0=>?_
 refine .seq (rq1 rfl rfl ?_)
 refine al rfl Fx.zr168 ?_; intro b0
 refine .nil (.code (.seq (rq3 rfl rfl (bCe (wa 8 ivW) rfl .no Fx.bp166_0_1_2_3_4_5_6_7 (.cons (.u rfl) rfl (.cons (.u rfl) rfl (.cons (.u rfl) rfl (.cons (.u rfl) rfl (.cons (.u rfl) rfl (.cons (.u rfl) rfl (.cons (.u rfl) rfl (.cons (.u rfl) rfl .nil)))))))) rfl (by rfl) ?_))))
 refine bCe (stC [] (.slice none 0 0)) rfl .no Fx.bp168_0 (.cons (.u rfl) rfl .nil) rfl (by rfl) ?_
 refine sw rfl (.u rfl) (.u rfl) rfl Fx.sz168 .here (by rfl) (one_app (wa_one _ _) (one2 rfl rfl)) ?_
 refine .nil (.code (.ret (We.fin0 Tryz.results114 (.cell rfl (fun w hw=>run_loadVarN Fx.ag168 (RdN.own .here) ((by rfl)) hw) .nil) ?_)))
 exact ⟨rfl,rfl⟩
theorem New_ok (G:PM):Ct Tryz.prog 148 ([]:List Value).toArray G [] (fun _ μ' u=>∃ b,μ'=[.blk b (cl (stC [] (.slice none 0 0)) 168),rB (.slice none 0 0) 5 (restL [])]∧u=.pointer (some ⟨b,0,none⟩)):=by
 refine Ct.of Tryz.func148 rfl Tryz.ntmps148 rfl fun w0 hs0=>?_
 refine .seq (rq1 rfl rfl (aS rfl rfl (.nil (.code (.seq (rq3 rfl rfl (kv rfl .no Fx.go114 Evn (fun _=>begin_ok _) ?_)))))))
 refine al rfl Fx.zr168 ?_; intro b1
 refine sw rfl (.u rfl) (.u rfl) rfl Fx.sz168 .here (by rfl) (one_app (wa_one _ _) (one2 rfl rfl)) ?_
 refine .nil (.code (.seq (rq1 rfl rfl (aS rfl rfl (.nil (we_nilB 5 ?_))))))
 refine .code (.ret (We.fin Tryz.results148 (.tmp rfl .nil) (mS tk1 rfl (mS .here rfl mN)) ?_))
 exact ⟨_,rfl,rfl⟩
theorem Write_ok (xs ys:List Y) (h:Sh) (vp:Value) (bs:Nat) (G:PM) (hs:SlR G 1 encY h ys) (hK:RdNP G 1 0 (wa 64 kW)) (hl:xs.length+ys.length≤4611686018427387904):Ct Tryz.prog 149 ([.pointer (some ⟨bs,0,none⟩),h.val ys.length]:List Value).toArray G [.blk bs (cl (stC xs vp) 168),rB vp 5 (restL xs)] (fun _ μ' u=>∃ vp',μ'=[.blk bs (cl (stC (xs++ys) vp') 168),rB vp' 5 (restL (xs++ys))]∧u=.tuple #[]):=by
 refine Ct.of Tryz.func149 rfl Tryz.ntmps149 rfl fun w0 hs0=>?_
 refine .seq (rq2 rfl rfl (mV rfl rfl (pn rfl .no Fx.pt190 (.u rfl) (.u rfl) ?_)))
 refine .nil (.code (Wk.condT rfl rfl ?_))
 refine rq3 rfl rfl (mV rfl rfl (mV rfl rfl (ka rfl (.inr rfl) Fx.go115 (Evc rfl (Evc rfl Evn)) (mtk2 .here .here) (put_ok _ _ _ _ _ _ hs hK hl) ?_)))
 rintro _ G8 μ8 hG8 ⟨vq,rfl,rfl⟩
 refine .nil (.nil (We.fin Tryz.results149 .nil (mS .here rfl (mS .here rfl mN)) ?_))
 exact ⟨vq,rfl,rfl⟩
theorem st_w {xs:List Y} {vp:Value}:((stC xs vp).drop 0).take 8=wa 8 (shaW xs (xs.length / 64)):=by
 rw [List.drop_zero,stC,List.take_append_of_le_length (by rw [wa_len]; exact Nat.le_refl _),List.take_of_length_le (by rw [wa_len]; exact Nat.le_refl _)]
theorem st_b {zs:List Value} {xs:List Y} {v:Value} (h:zs.length=10):bFold zs [(0,8),(8,1),(9,1)] [wa 8 (shaW xs (xs.length / 64)),[v],[.int .i64 (xs.length:Int)]]=stC xs v:=by
 match zs,h with
 | [a,b,c,d,e,f,g,h,i,j],_=>rfl
theorem lenF_int {n q:Nat} (h:q<8):lenF n q=((BitVec.ofInt 64 (n:Int)*8#64) >>> (56-8*(q:Int)).toNat).setWidth 8:=by
 rw [show (56-8*(q:Int)).toNat=56-8*q by omega]; rfl
theorem StSum_ok (xs:List Y) (vp:Value) (bs:Nat) (G:PM) (hK:RdNP G 1 0 (wa 64 kW)) (hl:xs.length≤1152921504606846976):Ct Tryz.prog 116 ([.pointer (some ⟨bs,0,none⟩)]:List Value).toArray G [.blk bs (cl (stC xs vp) 168),rB vp 5 (restL xs)] (fun _ μ' u=>μ'=[.blk bs (cl (stC xs vp) 168),rB vp 5 (restL xs)]∧u=.agg (ba 32 (shaD xs)).toArray):=by
 refine Ct.of Tryz.func116 rfl Tryz.ntmps116 rfl fun w0 hs0=>?_
 have hr:=rest_len xs
 have hz:zeros xs.length=(119-xs.length%64)%64:=rfl
 refine .seq (rq1 rfl rfl ?_)
 refine al rfl Fx.zq23 ?_; intro b2
 refine .nil (.code (.seq (rq3 rfl rfl (kv rfl .no Fx.go114 Evn (fun _=>begin_ok _) ?_))))
 refine al rfl Fx.zr168 ?_; intro b3
 refine sw rfl (.u rfl) (.u rfl) rfl Fx.sz168 .here (by rfl) (one_app (wa_one _ _) (one2 rfl rfl)) ?_
 refine .nil (.code (.seq (.seq (rq2 rfl rfl (mV rfl rfl (pn rfl .no Fx.pt190 (.u rfl) (.u rfl) ?_))))))
 refine .nil (.code (Wk.condT rfl rfl ?_))
 refine wk_rs tk3 ?_; intro sRP bbRP evRP lcRP oaRP; subst evRP
 refine Wk.draw (mc:=⟨false,true⟩) [0,1,2,3,5,6,7,8,10,11,12,13,4,9,14,15] Fx.mix (by kernel_rfl) ?_
 refine mV rfl rfl (nc rfl .no (.u rfl) (fz rfl .no Fx.fo168_0 (.u rfl) (lA rfl .no Fx.ag166 (.u rfl) (fun _=>RdN.part (n:=8) (cs':=wa 8 (shaW xs (xs.length / 64))) tk2 (st_w)) (fun _=>(by first|exact qE|exact qL|rfl)) ?_)))
 refine mV rfl rfl (nc rfl .no (.u rfl) (fz rfl .no Fx.fo168_1 (.u rfl) (ld rfl .no Fx.ag34 (.u rfl) (fun _=>Rd.own tk2 (by first|exact wap_f rfl|rfl)) ?_)))
 refine mV rfl rfl (nc rfl .no (.u rfl) (fz rfl .no Fx.fo168_2 (.u rfl) (ld rfl .no Fx.ag3 (.u rfl) (fun _=>Rd.own tk2 (by first|exact wap_f rfl|rfl)) ?_)))
 refine b0B rfl Fx.se34 ?_; intro b16
 refine apY0 rfl Fx.se34 Fx.zv5 (.u rfl) (.u rfl) .here (Sc.rowS tk4 oaRP) (by (try simp only [qlA,yl_len]); omega) ?_
 intro v21 L21 _ ov21 eL21
 have lL21:L21.length=(restL xs).length:=by rw [eL21]
 refine bCe (stC xs v21) rfl .no Fx.bp168_0_1_2 (.cons (.u rfl) rfl (.cons (.u rfl) (cells_one ov21) (.cons (.u rfl) rfl .nil))) rfl (st_b rfl) ?_
 refine sw rfl (.u rfl) (.u rfl) rfl Fx.sz168 tk1 (by rfl) (one_app (wa_one _ _) (one2 ov21 rfl)) ?_
 refine .nil (.code (.seq ?_))
 subst eL21
 refine rq5 rfl rfl (fz rfl .no Fx.fo168_2 (.u rfl) (ld rfl .no Fx.ag3 (.u rfl) (fun _=>Rd.own .here (by first|exact wap_f rfl|rfl)) ?_))
 refine ci rfl .no rfl Fx.cv3_24 (.u rfl) ?_
 refine bw (k:=.u64) (b:=8#64) rfl .no rfl (.u rfl) (.u rfl) rfl (aS rfl rfl (.nil (.code (.seq (rq2 rfl rfl ?_)))))
 refine mkY (1) (72) rfl Fx.se34 Fx.zv5 (.u rfl) (.u rfl) (by first|rfl|omega) (by first|rfl|omega) (by omega) (by omega) ?_; intro b31
 have lR31:(List.replicate (1) (0#8:Y)).length=1:=List.length_replicate
 refine aS rfl rfl (.nil (.code (.seq (rq3 rfl rfl (mV rfl rfl (ia rfl .no Fx.se34 (.u rfl) (.u rfl) (fun _=>by omega) (fun _=>by omega) ?_))))))
 refine s1r (z:=128#8) rfl (.u rfl) (.u rfl) Fx.sz5 .here (by omega) ?_; intro Ls6_2 eLs6_2 lLs6_2
 refine .nil (.code (.seq (.block ?_)))
 refine Wk.lop (α:=Nat×Value×List Y) (fun gh=>[(5,true,gh.2.1)]) (fun gh=>[rB gh.2.1 5 gh.2.2])
  (fun gh Gl=>(gh.1≤zeros xs.length)∧(gh.2.2=128#8 :: List.replicate gh.1 0#8)) (fun gh=>zeros xs.length-gh.1) (0,_,_) [(2,true,_),(3,true,_),(4,true,_)] [_,_,_,_,_]
  (esD rfl (esD rfl (esD rfl (esD rfl eZ))))
  (mS .here rfl (mS .here rfl (mS .here rfl (mS .here rfl (mS .here rfl (mS .here rfl mN)))))) ?_ ?_
 ·refine ⟨?_,?_⟩
  ·(try dsimp only)<;>(exact Nat.zero_le _)
  (try dsimp only)<;>(rw [eLs6_2]; rfl)
 intro gh N0 Gl0 hN0 hGl0 hF0
 obtain ⟨j,v,L⟩:=gh; dsimp only at hF0 hN0 ⊢
 obtain ⟨hj,eL⟩:=hF0
 have hK:=hK.mono hGl0
 have lL:L.length=j+1:=by rw [eL]; simp
 have hz:zeros xs.length=(119-xs.length%64)%64:=rfl
 refine .seq (.seq (rq7 rfl rfl (fz rfl .no Fx.fo168_2 (.u rfl) (ld rfl .no Fx.ag3 (.u rfl) (fun _=>Rd.own tk1 (by first|exact wap_f rfl|rfl)) ?_))))
 refine mV rfl rfl (lr rfl .no Fx.sn34 (.u rfl) .here ?_)
 refine arn (((xs.length+L.length):Nat):Int) rfl .no (.u rfl) (.u rfl) rfl (fun _=>by omega) (fun _=>wrap_i64 (by omega) (by omega)) ?_
 refine rmn ((xs.length+L.length)) (64) rfl .no (.u rfl) (.u rfl) (fun _=>by omega) (fun _=>by omega) (fun _=>by first|decide|omega) ?_
 refine cp rfl .no (.u rfl) (.u rfl) rfl (.nil (.code (.cond rfl (fun c1=>?_) (fun c1=>?_))))
 ·have c1k:=c1
  try simp only [qcA,qcB] at c1
  refine .skip (.code (.block (rq4 rfl rfl (mV rfl rfl ?_))))
  refine Go.Tan.b1 rfl Fx.se34 Fx.zv5 (.u rfl) rfl rfl (by decide) ?_; intro b42
  refine apY rfl Fx.se34 Fx.zv5 (.u rfl) (.u rfl) tk1 (Sc.one (y:=0#8) .here) (by show _+1≤_; omega) ?_
  intro v43 L43 ov43 eL43
  have lL43:L43.length=L.length+1:=by rw [eL43,List.length_append]; first|rfl | simp [yl_len]
  refine aS rfl rfl (.nil (.blk (We.lpo (j+1,v43,L43) ?_ ?_ ?_ ?_ ?_)))
  ·exact (esD rfl (esD rfl (esD rfl (esD rfl eZ))))
  ·exact (mS .here rfl (mS tk1 rfl (mS tk1 rfl (mS tk1 rfl (mS tk1 rfl (mS tk1 rfl mN))))))
  ·(try dsimp only); omega
  ·exact hGl0
  refine ⟨?_,?_⟩
  ·(try dsimp only)<;>(omega)
  (try dsimp only)<;>(rw [eL43,eL,List.cons_append,←List.replicate_succ'])
 have c1k:=c1
 try simp only [qcA,qcB] at c1
 refine .exit (.xcode (.xlp (.xblk (.code (.seq (.seq (rq1 rfl rfl (aS rfl rfl (.nil (.code (.block ?_)))))))))))
 refine Wk.lop (α:=Nat×Value×List Y) (fun gh=>[(5,true,gh.2.1),(6,true,.int .i64 (56-8*(gh.1:Int)))]) (fun gh=>[rB gh.2.1 5 gh.2.2])
  (fun gh Gl=>(gh.1≤8)∧(gh.2.2=(128#8 :: List.replicate (zeros xs.length) 0#8)++lenB xs.length gh.1)) (fun gh=>8-gh.1) (0,_,_) [(2,true,_),(3,true,_),(4,true,_)] [_,_,_,_,_]
  (esD rfl (esC rfl (by first|rfl|exact evi (by omega)) (esD rfl (esD rfl (esD rfl eZ)))))
  (mS .here rfl (mS .here rfl (mS .here rfl (mS .here rfl (mS .here rfl (mS .here rfl mN)))))) ?_ ?_
 ·refine ⟨?_,?_⟩
  ·(try dsimp only)<;>(first|omega|rfl|assumption|(simp; done))
  (try dsimp only)<;>(rw [eL,show j=zeros xs.length by omega]; simp [lenB])
 intro gh N1 Gl1 hN1 hGl1 hF1
 obtain ⟨q,v,L⟩:=gh; dsimp only at hF1 hN1 ⊢
 obtain ⟨hq,eL⟩:=hF1
 have hK:=hK.mono hGl1
 have lL:L.length=zeros xs.length+1+q:=by rw [eL]; simp [lenB_len]; omega
 refine .seq (.seq (rq2 rfl rfl (mV rfl rfl (cp rfl .no (.u rfl) (.u rfl) rfl (.nil (.code (.cond rfl (fun c2=>?_) (fun c2=>?_))))))))
 ·have c2k:=c2
  try simp only [qcA,qcB] at c2
  refine .skip (.code (.seq (.block (rq8 rfl rfl (mV rfl rfl (mV rfl rfl (mV rfl rfl (rw' (k:=.u64) rfl .no (.u rfl) (.u rfl) (fun _=>by omega) ?_))))))))
  refine cu (k:=.u64) rfl .no rfl Fx.cv24_5 (.u rfl) ?_
  refine Go.Tan.b1 rfl Fx.se34 Fx.zv5 (.u rfl) rfl rfl (by decide) ?_; intro b53
  refine apY rfl Fx.se34 Fx.zv5 (.u rfl) (.u rfl) tk1 (Sc.one .here) (by show _+1≤_; omega) ?_
  intro v54 L54 ov54 eL54
  have lL54:L54.length=L.length+1:=by rw [eL54,List.length_append]; first|rfl | simp [yl_len]
  refine aS rfl rfl (.nil (.blk (.code (rq3 rfl rfl (mV rfl rfl (ar rfl .no (.u rfl) (.u rfl) rfl (fun _=>wrap_i64 (by omega) (by omega)) ?_))))))
  refine aS rfl rfl (.nil (We.lpo (q+1,v54,L54) ?_ ?_ ?_ ?_ ?_))
  ·exact (esD rfl (esC rfl (by first|rfl|exact evi (by omega)) (esD rfl (esD rfl (esD rfl eZ)))))
  ·exact (mS .here rfl (mS tk1 rfl (mS tk1 rfl (mS tk1 rfl (mS tk1 rfl (mS tk1 rfl mN))))))
  ·first|omega|(dsimp only; omega)
  ·exact hGl1
  refine ⟨?_,?_⟩
  ·(try dsimp only)<;>(first|omega|rfl|assumption|(simp; done))
  (try dsimp only)<;>(rw [eL54,eL,lenB_snoc,←List.append_assoc,lenF_int (by omega)]; rfl)
 have c2k:=c2
 try simp only [qcA,qcB] at c2
 refine .exit (.xcode (.xlp (.xblk (.code (.seq ?_)))))
 have e8:L=tailL xs.length:=by rw [eL,show q=8 by omega]; rfl
 subst e8
 have lt:=tail_len xs.length
 have hz:zeros xs.length=(119-xs.length%64)%64:=rfl
 refine wk_fb .here (keys_sub (mS tk3 rfl (mS tk3 rfl mN))) ?_; intro GfR31 hR31 hleR31 evR31 hsR31; subst evR31
 have hK:=hK.mono hleR31
 refine rq2 rfl rfl (mV rfl rfl (ka rfl (.inr rfl) Fx.go115 (Evc rfl (Evc rfl Evn)) (mtk2 .here .here) (put_ok xs (tailL xs.length) _ _ _ _ hsR31 hK (by omega)) ?_))
 rintro _ G56 μ56 hG56 ⟨vq,rfl,rfl⟩
 refine .nil (.code (.seq (rq1 rfl rfl ?_)))
 refine al rfl Fx.zq23 ?_; intro b7
 refine .nil (.code (.seq (.seq (rq1 rfl rfl (mV rfl rfl (.nil (.code (.block ?_))))))))
 refine Wk.lop (α:=Nat×(Nat→Y)) (fun gh=>[(57,true,.int .i64 (gh.1:Int))]) (fun gh=>[.blk b7 (cl (ba 32 gh.2) 23)])
  (fun gh Gl=>(gh.1≤32)∧(gh.2=outs (shaD xs) gh.1)) (fun gh=>32-gh.1) (0,fun _=>0#8) [(2,true,_),(3,true,_),(7,true,_)] [_,_,_,_,_]
  (esC rfl (by first|rfl|exact evi (by omega)) (esD rfl (esD rfl (esD rfl eZ))))
  (mS .here rfl (mS .here rfl (mS .here rfl (mS .here rfl (mS .here rfl (mS .here rfl mN)))))) ?_ ?_
 ·refine ⟨?_,?_⟩
  ·(try dsimp only)<;>(first|omega|rfl|assumption|(simp; done))
  (try dsimp only)<;>(first|omega|rfl|assumption|(simp; done))
 intro gh N2 Gl2 hN2 hGl2 hF2
 obtain ⟨i,f⟩:=gh; dsimp only at hF2 hN2 ⊢
 obtain ⟨hi,ef⟩:=hF2
 refine .seq (rq1 rfl rfl (cp rfl .no (.u rfl) (.u rfl) rfl (.nil (.code (.seq (.cond rfl (fun c3=>?_) (fun c3=>?_)))))))
 ·have c3k:=c3
  try simp only [qcA,qcB] at c3
  refine .skip (.code (.seq (.block (.seq (rq2 rfl rfl (mV rfl rfl (aS rfl rfl (.nil (.code (Wk.rg [0,1,2,3,4,5,6,7,8,9,10,11,12,13] rfl rfl (mV rfl rfl (mV rfl rfl (qun (i) (4) rfl .no (.u rfl) (.u rfl) (fun _=>by omega) (fun _=>by omega) (fun _=>by first|decide|omega) (fun _=>by omega) ?_)))))))))))))
  refine fz rfl .no Fx.fo168_0 (.u rfl) (iA rfl .no Fx.ar166 (.u rfl) (.u rfl) (fun _=>by omega) (fun _=>by omega) ?_)
  refine ld rfl .no Fx.ag139 (.u rfl) (fun _=>Rd.own tk1 (by first|exact wa_at1 ((i / 4)) (by omega) (by omega)|exact ba_at1 ((i / 4)) (by omega) (by omega)|exact wap_at1 ((i / 4)) (by omega) (by omega)|rfl)) ?_
  refine mV rfl rfl (rmn (i) (4) rfl .no (.u rfl) (.u rfl) (fun _=>by omega) (fun _=>by omega) (fun _=>by first|decide|omega) ?_)
  refine arn (((8*(i%4)):Nat):Int) rfl .no (.u rfl) (.u rfl) rfl (fun _=>by omega) (fun _=>wrap_i64 (by omega) (by omega)) ?_
  refine arn (((24-8*(i%4)):Nat):Int) rfl .no (.u rfl) (.u rfl) rfl (fun _=>by omega) (fun _=>wrap_i64 (by omega) (by omega)) ?_
  refine rw' (k:=.u32) rfl .no (.u rfl) (.u rfl) (fun _=>by omega) ?_
  refine cu (k:=.u32) rfl .no rfl Fx.cv139_5 (.u rfl) ?_
  refine iA rfl .no Fx.ar23 (.u rfl) (.u rfl) (fun _=>by omega) (fun _=>by omega) ?_
  refine s1 rfl (.u rfl) (.u rfl) rfl Fx.sz5 .here (by first|decide|(simp only [wa_len,ba_len,qlA]; omega)) (by first|exact wa_set1 (i) (by omega)|exact ba_set1 (i) (by omega)|exact wap_set1 (i) (by omega) (by omega)|rfl) ?_
  refine .nil (.blk (.code (rq2 rfl rfl (arn (((i+1):Nat):Int) rfl .no (.u rfl) (.u rfl) rfl (fun _=>by omega) (fun _=>wrap_i64 (by omega) (by omega)) ?_))))
  refine mV rfl rfl (.nil (We.lpo (i+1,upd f i (shaD xs i)) ?_ ?_ ?_ ?_ ?_))
  ·exact (esC rfl (by first|rfl|exact evi (by omega)) (esD rfl (esD rfl (esD rfl eZ))))
  ·exact (mS .here rfl (mS .here rfl (mS .here rfl (mS .here rfl (mS .here rfl (mS .here rfl mN))))))
  ·first|omega|(dsimp only; omega)
  ·exact hGl2
  refine ⟨?_,?_⟩
  ·(try dsimp only)<;>(first|omega|rfl|assumption|(simp; done))
  (try dsimp only)<;>(rw [ef]; rfl)
 have c3k:=c3
 try simp only [qcA,qcB] at c3
 refine .exit (.xcode (.xlp (.xblk (.code (.seq (rq2 rfl rfl (lA rfl .no Fx.ag23 (.u rfl) (fun _=>RdN.own .here) (fun _=>(by first|exact qE|exact qL|rfl)) ?_)))))))
 refine sw rfl (.u rfl) (.u rfl) rfl Fx.sz23 tk3 (by first|exact qE|exact qL|rfl) (by first|exact ba_one _ _|exact wa_one _ _|exact one_V _|decide|exact one_app (wa_one _ _) (by simp [Value.oneCell'])) ?_
 refine .nil (.code (.ret (We.fin Tryz.results116 (.cell rfl (fun w hw=>run_loadVarN Fx.ag23 (RdN.own .here) ((by first|exact qE|exact qL|rfl)) hw) .nil) (mS tk4 rfl (mS tk4 rfl mN)) ?_)))
 obtain rfl:i=32:=by omega
 exact ⟨rfl,by rw [ef,ba_congr (fun i hi=>(outs_eq (shaD xs) hi).symm)]; rfl⟩
namespace Fx
theorem go136:goFn Tryz.prog 136=true:=by kernel_rfl
theorem se53:slE Tryz.prog 53=some (34,1,24):=by kernel_rfl
theorem sn53:(slE Tryz.prog 53).isSome=true:=by kernel_rfl
theorem go116:goFn Tryz.prog 116=true:=by kernel_rfl
end Fx
theorem Fix_ok (xs:List Y) (h:Sh) (n:BitVec 64) (many:Nat) (G:PM) (hs:SlR G 1 encY h xs) (hl:xs.length≤140737488351232) (hm:many≤8):Ct Tryz.prog 35 ([h.val xs.length,uv .u64 n,.int .i64 (many:Int)]:List Value).toArray G [] (PR 5 (fun L=>L=xs++fixL n many)):=by
 refine Ct.of Tryz.func35 rfl Tryz.ntmps35 rfl fun w0 hs0=>?_
 refine .seq (rq1 rfl rfl (aS rfl rfl (.nil (.code (.seq (rq4 rfl rfl ?_))))))
 refine b0B rfl Fx.se34 ?_; intro b8
 refine mV rfl rfl (apY0 rfl Fx.se34 Fx.zv5 (.u rfl) (.u rfl) .here hs.sc (by (try simp only [qlA,yl_len]); omega) ?_)
 intro v10 L10 _ ov10 eL10
 have lL10:L10.length=xs.length:=by rw [eL10]
 refine aS rfl rfl (.nil (.code (.seq (.seq (rq4 rfl rfl (mV rfl rfl (mIn (many) (8) rfl .no (.u rfl) (.u rfl) (fun _=>by omega) (fun _=>by omega) ?_)))))))
 refine mAn (0) ((min many 8)) rfl .no (.u rfl) (.u rfl) (fun _=>by omega) (fun _=>by omega) ?_
 refine mV rfl rfl (.nil (.code (.block ?_)))
 refine Wk.lop (α:=Nat×Value×List Y×BitVec 64) (fun gh=>[(1,true,uv .u64 gh.2.2.2),(7,true,gh.2.1),(14,true,.int .i64 (gh.1:Int))]) (fun gh=>[rB gh.2.1 5 gh.2.2.1])
  (fun gh Gl=>(gh.1≤many)∧(gh.2.2.1=xs++fixL n gh.1)∧(gh.2.2.2=n >>> (8*gh.1))) (fun gh=>many-gh.1) (0,_,_,n) [(13,true,_)] []
  (esD rfl (esD rfl (esC rfl (by first|rfl|exact evi (by omega)) (esD rfl eZ))))
  (mS .here rfl mN) ?_ ?_
 ·refine ⟨?_,?_,?_⟩
  ·(try dsimp only)<;>(first|omega|rfl|assumption|(simp; done))
  ·(try dsimp only)<;>(rw [eL10]; simp [fixL])
  (try dsimp only)<;>(simp)
 intro gh N0 Gl0 hN0 hGl0 hF0
 obtain ⟨k,v,L,m⟩:=gh; dsimp only at hF0 hN0 ⊢
 obtain ⟨hk,eL,em⟩:=hF0
 have lL:L.length=xs.length+k:=by rw [eL]; simp [fix_len]
 refine .seq (rq1 rfl rfl (cp rfl .no (.u rfl) (.u rfl) rfl (.nil (.code (.seq (.cond rfl (fun c1=>?_) (fun c1=>?_)))))))
 ·have c1k:=c1
  try simp only [qcA,qcB] at c1
  refine .skip (.code (.seq (.block (.seq (rq6 rfl rfl (mV rfl rfl (mV rfl rfl (cu (k:=.u64) rfl .no rfl Fx.cv24_5 (.u rfl) ?_))))))))
  refine Go.Tan.b1 rfl Fx.se34 Fx.zv5 (.u rfl) rfl rfl (by decide) ?_; intro b19
  refine apY rfl Fx.se34 Fx.zv5 (.u rfl) (.u rfl) tk1 (Sc.one .here) (by show _+1≤_; omega) ?_
  intro v20 L20 ov20 eL20
  have lL20:L20.length=L.length+1:=by rw [eL20,List.length_append]; first|rfl | simp [yl_len]
  refine aS rfl rfl (.nil (.code (rq3 rfl rfl (mV rfl rfl (rw' (k:=.u64) rfl .no (.u rfl) (.u rfl) (fun _=>by decide) ?_)))))
  refine aS rfl rfl (.nil (.blk (.code (rq2 rfl rfl (arn (((k+1):Nat):Int) rfl .no (.u rfl) (.u rfl) rfl (fun _=>by omega) (fun _=>wrap_i64 (by omega) (by omega)) ?_)))))
  refine mV rfl rfl (.nil (We.lpo (k+1,v20,L20,m >>> 8) ?_ ?_ ?_ ?_ ?_))
  ·exact (esD rfl (esD rfl (esC rfl (by first|rfl|exact evi (by omega)) (esD rfl eZ))))
  ·exact (mS .here rfl mN)
  ·first|omega|(dsimp only; omega)
  ·exact hGl0
  refine ⟨?_,?_,?_⟩
  ·(try dsimp only)<;>(first|omega|rfl|assumption|(simp; done))
  ·(try dsimp only)<;>(rw [eL20,eL,em,fix_snoc,List.append_assoc]; rfl)
  (try dsimp only)<;>(rw [em,←BitVec.shiftRight_add]; rfl)
 have c1k:=c1
 try simp only [qcA,qcB] at c1
 refine .exit (.xcode (.xlp (.xblk (.code (.seq (rq2 rfl rfl (mV rfl rfl (aS rfl rfl (.nil (.code (.ret (We.fin Tryz.results35 (.tmp rfl .nil) (mS .here rfl mN) ?_))))))))))))
 obtain rfl:k=many:=by omega
 exact ⟨L,eL,rfl⟩
theorem Cross_ok (key nonce:Nat→Y) (count:W) (h:Sh) (xs:List Y) (G:PM) (hs:SlR G 1 encY h xs) (hl:xs.length≤140737488351232):Ct Tryz.prog 112 ([.agg (ba 32 key).toArray,.agg (ba 12 nonce).toArray,U count,h.val xs.length]:List Value).toArray G [] (PR 5 (fun L=>L=crossL key nonce count xs)):=by
 refine Ct.of Tryz.func112 rfl Tryz.ntmps112 rfl fun w0 hs0=>?_
 refine .seq (rq3 rfl rfl ?_)
 refine bx rfl (.u rfl) rfl ?_; intro b4
 refine bx rfl (.u rfl) rfl ?_; intro b5
 refine aS rfl rfl (.nil (.code (.seq (rq4 rfl rfl ?_))))
 refine b0B rfl Fx.se34 ?_; intro b14
 refine mV rfl rfl (apY0 rfl Fx.se34 Fx.zv5 (.u rfl) (.u rfl) .here hs.sc (by (try simp only [qlA,yl_len]); omega) ?_)
 intro v16 L16 _ ov16 eL16
 have lL16:L16.length=xs.length:=by rw [eL16]
 refine aS rfl rfl (.nil (.code (.seq (.seq ?_))))
 refine wk_rs .here ?_; intro sR16 bbR16 evR16 lcR16 oaR16; subst evR16
 obtain rfl:=eL16.symm
 refine rq2 rfl rfl (mV rfl rfl (aS rfl rfl (.nil (.code (.block ?_)))))
 refine Wk.lop (α:=Nat×Sh×List Y) (fun gh=>[(2,true,U (count+BitVec.ofNat 32 gh.1)),(10,true,gh.2.1.val (xs.length-64*gh.1))]) (fun gh=>[rB (sR16.val xs.length) 5 gh.2.2])
  (fun gh Gl=>(gh.2.2.length=xs.length)∧(gh.2.2=crT key nonce count xs (64*gh.1))∧(64*gh.1<xs.length→gh.2.1.oa=some ⟨bbR16,64*gh.1,none⟩)∧(xs.length-64*gh.1≤gh.2.1.cap)) (fun gh=>xs.length-64*gh.1) (0,sR16,xs) [(4,true,_),(5,true,_),(9,true,_)] [_,_]
  (esC rfl (by simp) (esD rfl (esD rfl (esD rfl (esD rfl eZ)))))
  (mS .here rfl (mS .here rfl (mS .here rfl mN))) ?_ ?_
 ·refine ⟨?_,?_,?_,?_⟩
  ·(try dsimp only)<;>(rfl)
  ·(try dsimp only)<;>(exact (crT_zero _ _ _ _).symm)
  ·(try dsimp only)<;>(exact oaR16)
  (try dsimp only)<;>(exact lcR16)
 intro gh N0 Gl0 hN0 hGl0 hF0
 obtain ⟨j,r,L⟩:=gh; dsimp only at hF0 hN0 ⊢
 obtain ⟨lL,eL,hr,hrc⟩:=hF0
 refine .seq (.seq (rq3 rfl rfl (mV rfl rfl (ln rfl .no Fx.sn34 (.u rfl) (cp rfl .no (.u rfl) (.u rfl) rfl (.nil (.code (.cond rfl (fun c1=>?_) (fun c1=>?_)))))))))
 ·have c1k:=c1
  try simp only [qcA,qcB] at c1
  refine .skip (.code (.seq (.block (.seq ?_))))
  have hlt:64*j<xs.length:=by omega
  have e1:=oaR16 (by omega)
  have e2:=hr hlt
  obtain ⟨so,sc⟩:=sR16
  obtain ⟨ro,rc⟩:=r
  simp only at e1 e2
  subst e1; subst e2
  refine rq6 rfl rfl (lA rfl .no Fx.ag22 (.u rfl) (fun _=>RdN.own tk2) (fun _=>(by first|exact qE|exact qL|rfl)) ?_)
  refine lA rfl .no Fx.ag124 (.u rfl) (fun _=>RdN.own tk1) (fun _=>(by first|exact qE|exact qL|rfl)) ?_
  refine mV rfl rfl (kv rfl .no Fx.go136 (Evc rfl (Evc rfl (Evc rfl Evn))) (fun _=>Block_ok _ _ _ _) ?_)
  refine al rfl Fx.zq188 ?_; intro b11
  refine sw rfl (.u rfl) (.u rfl) rfl Fx.sz188 .here (by first|exact qE|exact qL|rfl) (ba_one _ _) ?_
  refine .nil (.code (.seq (rq4 rfl rfl (mV rfl rfl (ln rfl .no Fx.sn34 (.u rfl) (mIn ((xs.length-64*j)) (64) rfl .no (.u rfl) (.u rfl) (fun _=>by omega) (fun _=>by omega) ?_))))))
  refine aS rfl rfl (.nil (.code (.seq (.seq (rq2 rfl rfl (mV rfl rfl (mV rfl rfl (.nil (.code (.block ?_))))))))))
  refine Wk.lop (α:=Nat×List Y) (fun gh=>[(31,true,.int .i64 (gh.1:Int))]) (fun gh=>[rB (Sh.val ⟨some ⟨bbR16,0,none⟩,sc⟩ xs.length) 5 gh.2])
   (fun gh Gl=>(gh.1≤min (xs.length-64*j) 64)∧(gh.2=crT key nonce count xs (64*j+gh.1))) (fun gh=>64-gh.1) (0,L) [(2,true,_),(4,true,_),(5,true,_),(9,true,_),(10,true,_),(11,true,_),(12,true,_),(30,true,_)] [_,_,_]
   (esC rfl (by first|rfl|exact evi (by omega)) (esD rfl (esD rfl (esD rfl (esD rfl (esD rfl (esD rfl (esD rfl (esD rfl eZ)))))))))
   (mS tk1 rfl (mS .here rfl (mS .here rfl (mS .here rfl mN)))) ?_ ?_
  ·refine ⟨?_,?_⟩
   ·(try dsimp only)<;>(exact Nat.zero_le _)
   (try dsimp only)<;>(rw [eL]; rfl)
  intro gh N1 Gl1 hN1 hGl1 hF1
  obtain ⟨i,L2⟩:=gh; dsimp only at hF1 hN1 ⊢
  obtain ⟨hi,eL2⟩:=hF1
  have lL2:L2.length=xs.length:=by rw [eL2,crT_len]
  refine .seq (rq1 rfl rfl (cp rfl .no (.u rfl) (.u rfl) rfl (.nil (.code (.seq (.cond rfl (fun c2=>?_) (fun c2=>?_)))))))
  ·have c2k:=c2
   try simp only [qcA,qcB] at c2
   refine .skip (.code (.seq (.block (.seq (rq2 rfl rfl (mV rfl rfl (aS rfl rfl (.nil (.code (Wk.draw (mc:=⟨false,false⟩) [0,1,2,3,4,5,6,7,8,9] Fx.mix (by kernel_rfl) ?_))))))))))
   refine mV rfl rfl (mV rfl rfl (ih rfl .no Fx.se34 (.u rfl) (.u rfl) (fun _=>by omega) (fun _=>by omega) (fun _=>rfl) ?_))
   refine ld rfl .no Fx.ag5 (.u rfl) (fun _=>Rd.row .here (map_at1 (o:=64*j) (64*j+i) (by omega) (by omega))) ?_
   refine mV rfl rfl (iA rfl .no Fx.ar188 (.u rfl) (.u rfl) (fun _=>by omega) (fun _=>by omega) ?_)
   refine ld rfl .no Fx.ag5 (.u rfl) (fun _=>Rd.own tk1 (by first|exact wa_at1 (i) (by omega) (by omega)|exact ba_at1 (i) (by omega) (by omega)|exact wap_at1 (i) (by omega) (by omega)|rfl)) ?_
   refine bw (k:=.u8) rfl .no rfl (.u rfl) (.u rfl) rfl (ih rfl .no Fx.se34 (.u rfl) (.u rfl) (fun _=>by omega) (fun _=>by omega) (fun _=>rfl) ?_)
   refine s1r rfl (.u rfl) (.u rfl) Fx.sz5 .here (by show 64*j+_*1<_; omega) ?_; intro L9 eL9 lL9
   refine .nil (.blk (.code (rq2 rfl rfl (arn (((i+1):Nat):Int) rfl .no (.u rfl) (.u rfl) rfl (fun _=>by omega) (fun _=>wrap_i64 (by omega) (by omega)) ?_))))
   refine mV rfl rfl (.nil (We.lpo (i+1,L9) ?_ ?_ ?_ ?_ ?_))
   ·exact (esC rfl (by first|rfl|exact evi (by omega)) (esD rfl (esD rfl (esD rfl (esD rfl (esD rfl (esD rfl (esD rfl (esD rfl eZ)))))))))
   ·exact (mS .here rfl (mS .here rfl (mS .here rfl (mS .here rfl mN))))
   ·first|omega|(dsimp only; omega)
   ·exact hGl1
   refine ⟨?_,?_⟩
   ·(try dsimp only)<;>(omega)
   (try dsimp only)<;>(rw [eL9,eL2,show (Sh.o ⟨some ⟨bbR16,64*j,none⟩,rc⟩+(i:Int).toNat*1)=64*j+i from (by show 64*j+_*1=_; omega)]; exact crT_step (xs:=xs) (j:=j) (i:=i) (by omega) (by omega))
  have c2k:=c2
  try simp only [qcA,qcB] at c2
  refine .exit (.xcode (.xlp (.xblk (.code (rq4 rfl rfl (mV rfl rfl (mV rfl rfl (sd rfl .no Fx.se34 (.u rfl) (.u rfl) (fun _=>by omega) (fun _=>by omega) ?_))))))))
  refine aS rfl rfl (.nil (.blk (.code (rq3 rfl rfl (mV rfl rfl (bw (k:=.u32) (b:=1#32) rfl .no rfl (.u rfl) (.u rfl) rfl (aS rfl rfl (.nil (We.lpo (j+1,Sh.cut ⟨some ⟨bbR16,64*j,none⟩,rc⟩ (min (xs.length-64*j) 64) 1,L2) ?_ ?_ ?_ ?_ ?_)))))))))
  ·exact (esC rfl (by show U (count+BitVec.ofNat 32 j+1#32)=U (count+BitVec.ofNat 32 (j+1)); rw [BitVec.add_assoc,←BitVec.ofNat_add]) (esC rfl (congrArg (Sh.val _) (by omega)) (esD rfl (esD rfl (esD rfl eZ)))))
  ·exact (mS .here (by rfl) (mS tk1 rfl (mS tk1 rfl mN)))
  ·first|omega|(dsimp only; omega)
  ·exact (hGl0).trans hGl1
  refine ⟨?_,?_,?_,?_⟩
  ·(try dsimp only)<;>(rw [eL2,crT_len])
  ·(try dsimp only)<;>(rw [eL2]; exact cr_end (by omega))
  ·(try dsimp only)<;>(intro h3; have hrc2:xs.length-64*j≤rc:=hrc; exact cut_oa (by omega) (by omega))
  (try dsimp only)<;>(show _≤rc-_; have hrc2:xs.length-64*j≤rc:=hrc; omega)
 have c1k:=c1
 try simp only [qcA,qcB] at c1
 refine .exit (.xcode (.xlp (.xblk (.code (.seq (rq2 rfl rfl (mV rfl rfl (aS rfl rfl (.nil (.code (.ret (We.fin Tryz.results112 (.tmp rfl .nil) (mS .here rfl mN) ?_))))))))))))
 exact ⟨L,by rw [eL,crT_all (by omega)],rfl⟩
theorem shaSum_ok (ps:List (Sh×List Y)) (h:Sh) (G:PM) (hs:SlP G h ps) (hK:RdNP G 1 0 (wa 64 kW)) (hl:(catL ps).length≤1152921504606846976) (hn:ps.length≤1000):Ct Tryz.prog 76 ([h.val ps.length]:List Value).toArray G [] (fun _ μ' u=>μ'=[]∧u=.agg (ba 32 (shaD (catL ps))).toArray):=by
 refine Ct.of Tryz.func76 rfl Tryz.ntmps76 rfl fun w0 hs0=>?_
 refine .seq (rq1 rfl rfl ?_)
 refine al rfl Fx.zq23 ?_; intro b2
 refine .nil (.code (.seq (rq3 rfl rfl (kv rfl .no Fx.go114 Evn (fun _=>begin_ok _) ?_))))
 refine al rfl Fx.zr168 ?_; intro b3
 refine sw rfl (.u rfl) (.u rfl) rfl Fx.sz168 .here (by rfl) (one_app (wa_one _ _) (one2 rfl rfl)) ?_
 refine .nil (we_nilB 5 ?_)
 refine .code (.seq (.seq (rq3 rfl rfl (mV rfl rfl (ln rfl .no Fx.sn53 (.u rfl) (mV rfl rfl (.nil (.code (.block ?_)))))))))
 refine Wk.lop (α:=Nat×Value) (fun gh=>[(9,true,.int .i64 (gh.1:Int))]) (fun gh=>[rB gh.2 5 (restL (catL (ps.take gh.1))),.blk b3 (cl (stC (catL (ps.take gh.1)) gh.2) 168)])
  (fun gh Gl=>(gh.1≤ps.length)) (fun gh=>ps.length-gh.1) (0,.slice none 0 0) [(2,true,_),(3,true,_),(7,true,_),(8,true,_)] [_]
  (esC rfl (by first|rfl|exact evi (by omega)) (esD rfl (esD rfl (esD rfl (esD rfl eZ)))))
  (mS .here (by simp [restL,catL]) (mS .here rfl (mS .here rfl mN))) ?_ ?_
 ·(try dsimp only)<;>(first|omega|rfl|assumption|(simp; done))
 intro gh N0 Gl0 hN0 hGl0 hF0
 obtain ⟨k,vq⟩:=gh; dsimp only at hF0 hN0 ⊢
 have hk:=hF0
 have hs:=hs.mono hGl0
 have hK:=hK.mono hGl0
 refine .seq (rq1 rfl rfl (cp rfl .no (.u rfl) (.u rfl) rfl (.nil (.code (.seq (.cond rfl (fun c1=>?_) (fun c1=>?_)))))))
 ·have c1k:=c1
  try simp only [qcA,qcB] at c1
  refine .skip (.code (.seq (.block (.seq (rq3 rfl rfl (ih rfl .no Fx.se53 (.u rfl) (.u rfl) (fun _=>by omega) (fun _=>by omega) (fun _=>hs.sl.nn (k:=k) (by omega)) ?_))))))
  obtain ⟨p12,ep12⟩:=getx (k:=k) (xs:=ps) (by omega)
  have hq12:=hs.get ep12
  refine ld rfl .no Fx.ag34 (.u rfl) (fun _=>(hs.at (k) (by omega) ep12).rd) ?_
  refine aS rfl rfl (.nil (.code (rq2 rfl rfl (mV rfl rfl (ka rfl (.inr rfl) Fx.go115 (Evc rfl (Evc rfl Evn)) (mtk2 tk1 .here) (put_ok (catL (ps.take k)) p12.2 _ _ _ _ hq12 hK (by have:=cat_len ep12; omega)) ?_)))))
  rintro _ G14 μ14 hG14 ⟨vq',rfl,rfl⟩
  have hK:=hK.mono hG14
  refine .nil (.blk (.code (rq2 rfl rfl (arn (((k+1):Nat):Int) rfl .no (.u rfl) (.u rfl) rfl (fun _=>by omega) (fun _=>wrap_i64 (by omega) (by omega)) ?_))))
  refine mV rfl rfl (.nil (We.lpo (k+1,vq') ?_ ?_ ?_ ?_ ?_))
  ·exact (esC rfl (by first|rfl|exact evi (by omega)) (esD rfl (esD rfl (esD rfl (esD rfl eZ)))))
  ·exact (mS tk1 (by rw [cat_take ep12]) (mS .here (by rw [cat_take ep12]) (mS .here rfl mN)))
  ·first|omega|(dsimp only; omega)
  ·exact (hGl0).trans hG14
  (try dsimp only)<;>(first|omega|rfl|assumption|(simp; done))
 have c1k:=c1
 try simp only [qcA,qcB] at c1
 refine .exit (.xcode (.xlp (.xblk (.code (.seq ?_)))))
 obtain rfl:k=ps.length:=by omega
 rw [List.take_length]
 refine rq2 rfl rfl (ka rfl (.inr rfl) Fx.go116 (Evc rfl Evn) (mtk2 tk1 .here) (StSum_ok (catL ps) _ _ _ hK hl) ?_)
 rintro _ G16 μ16 hG16 ⟨rfl,rfl⟩
 refine sw rfl (.u rfl) (.u rfl) rfl Fx.sz23 tk2 (by first|exact qE|exact qL|rfl) (by first|exact ba_one _ _|exact wa_one _ _|exact one_V _|decide|exact one_app (wa_one _ _) (by simp [Value.oneCell'])) ?_
 refine .nil (.code (.ret (We.fin0 Tryz.results76 (.cell rfl (fun w hw=>run_loadVarN Fx.ag23 (RdN.own .here) ((by first|exact qE|exact qL|rfl)) hw) .nil) ?_)))
 exact ⟨rfl,rfl⟩
namespace Fx
theorem zv34:(Tryz.prog.info? 34).bind (·.zero)=some (.slice none 0 0):=by kernel_rfl
theorem go76:goFn Tryz.prog 76=true:=by kernel_rfl
end Fx
theorem SlP.one {G:PM} {b T:Nat} {h1:Sh} {L1:List Y} (hle:PM.le G (G.add b (cl [h1.val L1.length] T))) (hs:SlR G 1 encY h1 L1):SlP (G.add b (cl [h1.val L1.length] T)) ⟨some ⟨b,0,none⟩,1⟩ [(h1,L1)] :=
 ⟨SlR.ofBlk (T:=T) (PM.add_same _ _ _) (fun _ _=>rfl) (by simp),fun p hp=>by rw [List.mem_singleton.1 hp]; exact hs.mono hle⟩
theorem SlP.two {G:PM} {b T:Nat} {h1 h2:Sh} {L1 L2:List Y} (hle:PM.le G (G.add b (cl [h1.val L1.length,h2.val L2.length] T))) (hs:SlR G 1 encY h1 L1) (hs2:SlR G 1 encY h2 L2):SlP (G.add b (cl [h1.val L1.length,h2.val L2.length] T)) ⟨some ⟨b,0,none⟩,2⟩ [(h1,L1),(h2,L2)] :=
 ⟨SlR.ofBlk (T:=T) (PM.add_same _ _ _) (fun _ _=>rfl) (by simp),fun p hp=>by
  rcases List.mem_cons.1 hp with rfl | hp
  ·exact hs.mono hle
  ·rw [List.mem_singleton.1 hp]; exact hs2.mono hle⟩
theorem SlP.four {G:PM} {b T:Nat} {h1 h2 h3 h4:Sh} {L1 L2 L3 L4:List Y} (hle:PM.le G (G.add b (cl [h1.val L1.length,h2.val L2.length,h3.val L3.length,h4.val L4.length] T))) (hs:SlR G 1 encY h1 L1) (hs2:SlR G 1 encY h2 L2) (hs3:SlR G 1 encY h3 L3) (hs4:SlR G 1 encY h4 L4) :
  SlP (G.add b (cl [h1.val L1.length,h2.val L2.length,h3.val L3.length,h4.val L4.length] T)) ⟨some ⟨b,0,none⟩,4⟩ [(h1,L1),(h2,L2),(h3,L3),(h4,L4)] :=
 ⟨SlR.ofBlk (T:=T) (PM.add_same _ _ _) (fun _ _=>rfl) (by simp),fun p hp=>by
  simp only [List.mem_cons,List.not_mem_nil,or_false] at hp
  rcases hp with rfl|rfl|rfl|rfl
  ·exact hs.mono hle
  ·exact hs2.mono hle
  ·exact hs3.mono hle
  ·exact hs4.mono hle⟩
theorem sum1_ok {G:PM} {b T:Nat} {h1:Sh} {L1:List Y} (hle:PM.le G (G.add b (cl [h1.val L1.length] T))) (hs:SlR G 1 encY h1 L1) (hK:RdNP G 1 0 (wa 64 kW)) (hl:L1.length≤1152921504606846976):Ct Tryz.prog 76 ([.slice (some ⟨b,0,none⟩) 1 1]:List Value).toArray (G.add b (cl [h1.val L1.length] T)) [] (fun _ μ' u=>μ'=[]∧u=.agg (ba 32 (shaD L1)).toArray):=by
 have h:=shaSum_ok [(h1,L1)] ⟨some ⟨b,0,none⟩,1⟩ _ (SlP.one hle hs) (hK.mono hle) (by simpa [catL] using hl) (by simp)
 rw [show catL [(h1,L1)]=L1 by simp [catL]] at h
 exact h
theorem sum2_ok {G:PM} {b T:Nat} {h1 h2:Sh} {L1 L2:List Y} (hle:PM.le G (G.add b (cl [h1.val L1.length,h2.val L2.length] T))) (hs:SlR G 1 encY h1 L1) (hs2:SlR G 1 encY h2 L2) (hK:RdNP G 1 0 (wa 64 kW)) (hl:L1.length+L2.length≤1152921504606846976):Ct Tryz.prog 76 ([.slice (some ⟨b,0,none⟩) 2 2]:List Value).toArray (G.add b (cl [h1.val L1.length,h2.val L2.length] T)) [] (fun _ μ' u=>μ'=[]∧u=.agg (ba 32 (shaD (L1++L2))).toArray):=by
 have h:=shaSum_ok [(h1,L1),(h2,L2)] ⟨some ⟨b,0,none⟩,2⟩ _ (SlP.two hle hs hs2) (hK.mono hle) (by simpa [catL] using hl) (by simp)
 rw [show catL [(h1,L1),(h2,L2)]=L1++L2 by simp [catL]] at h
 exact h
theorem outs_step2 {f g:Nat→Y} {k:Nat} {a b:Y} (ef:f=outs g k) (h:b=g k):upd (upd f k a) k b=outs g (k+1):=by
 rw [upd_upd,ef,h]; rfl
theorem outs_step1 {f g:Nat→Y} {k:Nat} {a:Y} (ef:f=outs g k) (h:a=g k):upd f k a=outs g (k+1):=by
 rw [ef,h]; rfl
theorem pads_ok (key:List Y) (h:Sh) (G:PM) (hs:SlR G 1 encY h key) (hK:RdNP G 1 0 (wa 64 kW)) (hl:key.length≤140737488351232):Ct Tryz.prog 147 ([h.val key.length]:List Value).toArray G [] (fun _ μ' u=>μ'=[]∧u=.tuple #[.agg (ba 64 (padF key 54#8)).toArray,.agg (ba 64 (padF key 92#8)).toArray]):=by
 refine Ct.of Tryz.func147 rfl Tryz.ntmps147 rfl fun w0 hs0=>?_
 refine .seq (rq2 rfl rfl ?_)
 refine al rfl Fx.zq188 ?_; intro b2
 refine al rfl Fx.zq188 ?_; intro b3
 refine .nil (.code (.seq (.seq (rq3 rfl rfl (mV rfl rfl (ln rfl .no Fx.sn34 (.u rfl) (cp rfl .no (.u rfl) (.u rfl) rfl (.nil (.code (.cond rfl (fun c1=>?_) (fun c1=>?_)))))))))))
 ·have c1k:=c1
  try simp only [qcA,qcB] at c1
  have ek1:keyL key=shaL key:=by unfold keyL; rw [if_pos (by omega)]
  refine .seq (rq5 rfl rfl (mV rfl rfl ?_))
  refine Go.Tan.b1 rfl Fx.se53 Fx.zv34 (.u rfl) rfl rfl (by decide) ?_; intro b10
  refine kp rfl .no Fx.go76 (Evc rfl Evn) (Gp.add .here Gp.nil) (fun _ hle hq=>sum1_ok hle hs hK (by omega)) ?_
  refine al rfl Fx.zq23 ?_; intro b4
  refine sw rfl (.u rfl) (.u rfl) rfl Fx.sz23 .here (by first|exact qE|exact qL|rfl) (by first|exact ba_one _ _|exact wa_one _ _|exact one_V _|decide|exact one_app (wa_one _ _) (by simp [Value.oneCell'])) ?_
  refine .nil (.code ?_)
  refine wk_fz .here (by intro b hb; cases hb) ?_; intro Gfb4 hleb4 hbb4
  have hs:=hs.mono hleb4
  refine rq2 rfl rfl ?_
  refine kA rfl .no Fx.ar23 (.u rfl) hbb4 (by first|exact ba_all|exact app_l|exact app_r) ?_; intro h12 L12 eL12 lL12 hs12
  refine aS rfl rfl (.nil ?_)
  have ek1:keyL key=L12:=by rw [ek1,eL12]; rfl
  refine .code (.seq (.seq ?_))
  skip
  refine rq1 rfl rfl (mV rfl rfl (.nil (.code (.block ?_))))
  refine Wk.lop (α:=Nat×(Nat→Y)×(Nat→Y)) (fun gh=>[(13,true,.int .i64 (gh.1:Int))]) (fun gh=>[.blk b3 (cl (ba 64 gh.2.2) 188),.blk b2 (cl (ba 64 gh.2.1) 188)])
   (fun gh Gl=>(gh.1≤64)∧(gh.2.1=outs (padF key 54#8) gh.1)∧(gh.2.2=outs (padF key 92#8) gh.1)) (fun gh=>64-gh.1) (0,fun _=>0#8,fun _=>0#8) [(0,true,_),(2,true,_),(3,true,_)] [_]
   (esC rfl (by first|rfl|exact evi (by omega)) (esD rfl (esD rfl (esD rfl eZ))))
   (mS tk1 rfl (mS tk1 rfl (mS .here rfl mN))) ?_ ?_
  ·refine ⟨?_,?_,?_⟩
   ·(try dsimp only)<;>(first|omega|rfl|assumption|(simp; done))
   ·(try dsimp only)<;>(first|omega|rfl|assumption|(simp; done))
   (try dsimp only)<;>(first|omega|rfl|assumption|(simp; done))
  intro gh N0 Gl0 hN0 hGl0 hF0
  obtain ⟨k,f,f2⟩:=gh; dsimp only at hF0 hN0 ⊢
  obtain ⟨hk,ef,ef2⟩:=hF0
  have hs:=hs.mono hGl0
  have hs12:=hs12.mono hGl0
  refine .seq (rq1 rfl rfl (cp rfl .no (.u rfl) (.u rfl) rfl (.nil (.code (.seq (.cond rfl (fun c2=>?_) (fun c2=>?_)))))))
  ·have c2k:=c2
   try simp only [qcA,qcB] at c2
   refine .skip (.code (.seq (.block (.seq (rq2 rfl rfl (mV rfl rfl (aS rfl rfl (.nil (.code (.seq (rq6 rfl rfl (mV rfl rfl (mV rfl rfl (iA rfl .no Fx.ar188 (.u rfl) (.u rfl) (fun _=>by omega) (fun _=>by omega) ?_))))))))))))))
   refine s1 rfl (.u rfl) (.u rfl) rfl Fx.sz5 tk1 (by first|decide|(simp only [wa_len,ba_len,qlA]; omega)) (by first|exact ba_set1 (z:=54#8) (k) (by omega)|exact wa_set1 (z:=54#32) (k) (by omega)|rfl) ?_
   refine iA rfl .no Fx.ar188 (.u rfl) (.u rfl) (fun _=>by omega) (fun _=>by omega) ?_
   refine s1 rfl (.u rfl) (.u rfl) rfl Fx.sz5 tk1 (by first|decide|(simp only [wa_len,ba_len,qlA]; omega)) (by first|exact ba_set1 (z:=92#8) (k) (by omega)|exact wa_set1 (z:=92#32) (k) (by omega)|rfl) ?_
   refine .nil (.code (.seq (rq4 rfl rfl (mV rfl rfl (mV rfl rfl (ln rfl .no Fx.sn34 (.u rfl) (cp rfl .no (.u rfl) (.u rfl) rfl (.nil (.code (.cond rfl (fun c3=>?_) (fun c3=>?_)))))))))))
   ·have c3k:=c3
    try simp only [qcA,qcB] at c3
    refine .seq (Wk.draw (mc:=⟨false,false⟩) [0,1,2,3,4,5,6,7,8,9] Fx.mix (by kernel_rfl) ?_)
    refine mV rfl rfl (iA rfl .no Fx.ar188 (.u rfl) (.u rfl) (fun _=>by omega) (fun _=>by omega) ?_)
    refine ld rfl .no Fx.ag5 (.u rfl) (fun _=>Rd.own tk1 (by first|exact wa_at1 (k) (by omega) (by omega)|exact ba_at1 (k) (by omega) (by omega)|exact wap_at1 (k) (by omega) (by omega)|rfl)) ?_
    refine mV rfl rfl (mV rfl rfl (ih rfl .no Fx.se34 (.u rfl) (.u rfl) (fun _=>by omega) (fun _=>by omega) (fun _=>hs12.nn (k:=k) (by omega)) ?_))
    refine ld rfl .no Fx.ag5 (.u rfl) (fun _=>(hs12.yat (k) (by omega) (by omega)).rd) ?_
    refine bw (k:=.u8) rfl .no rfl (.u rfl) (.u rfl) rfl (iA rfl .no Fx.ar188 (.u rfl) (.u rfl) (fun _=>by omega) (fun _=>by omega) ?_)
    refine s1 rfl (.u rfl) (.u rfl) rfl Fx.sz5 tk1 (by first|decide|(simp only [wa_len,ba_len,qlA]; omega)) (by first|exact wa_set1 (k) (by omega)|exact ba_set1 (k) (by omega)|exact wap_set1 (k) (by omega) (by omega)|rfl) ?_
    refine .nil (.code (Wk.draw (mc:=⟨false,false⟩) [0,1,2,3,4,5,6,7,8,9] Fx.mix (by kernel_rfl) ?_))
    refine mV rfl rfl (iA rfl .no Fx.ar188 (.u rfl) (.u rfl) (fun _=>by omega) (fun _=>by omega) ?_)
    refine ld rfl .no Fx.ag5 (.u rfl) (fun _=>Rd.own tk1 (by first|exact wa_at1 (k) (by omega) (by omega)|exact ba_at1 (k) (by omega) (by omega)|exact wap_at1 (k) (by omega) (by omega)|rfl)) ?_
    refine mV rfl rfl (mV rfl rfl (ih rfl .no Fx.se34 (.u rfl) (.u rfl) (fun _=>by omega) (fun _=>by omega) (fun _=>hs12.nn (k:=k) (by omega)) ?_))
    refine ld rfl .no Fx.ag5 (.u rfl) (fun _=>(hs12.yat (k) (by omega) (by omega)).rd) ?_
    refine bw (k:=.u8) rfl .no rfl (.u rfl) (.u rfl) rfl (iA rfl .no Fx.ar188 (.u rfl) (.u rfl) (fun _=>by omega) (fun _=>by omega) ?_)
    refine s1 rfl (.u rfl) (.u rfl) rfl Fx.sz5 tk1 (by first|decide|(simp only [wa_len,ba_len,qlA]; omega)) (by first|exact wa_set1 (k) (by omega)|exact ba_set1 (k) (by omega)|exact wap_set1 (k) (by omega) (by omega)|rfl) ?_
    refine .nil (.blk (.code (rq2 rfl rfl (arn (((k+1):Nat):Int) rfl .no (.u rfl) (.u rfl) rfl (fun _=>by omega) (fun _=>wrap_i64 (by omega) (by omega)) ?_))))
    refine mV rfl rfl (.nil (We.lpo (k+1,upd (upd f k 54#8) k (upd f k 54#8 k ^^^ L12.getD k 0),upd (upd f2 k 92#8) k (upd f2 k 92#8 k ^^^ L12.getD k 0)) ?_ ?_ ?_ ?_ ?_))
    ·exact (esC rfl (by first|rfl|exact evi (by omega)) (esD rfl (esD rfl (esD rfl eZ))))
    ·exact (mS .here rfl (mS .here rfl (mS .here rfl mN)))
    ·first|omega|(dsimp only; omega)
    ·exact hGl0
    refine ⟨?_,?_,?_⟩
    ·(try dsimp only)<;>(first|omega|rfl|assumption|(simp; done))
    ·(try dsimp only)<;>(exact outs_step2 ef (by rw [upd_at,padF,ek1,if_pos (by omega)]))
    (try dsimp only)<;>(exact outs_step2 ef2 (by rw [upd_at,padF,ek1,if_pos (by omega)]))
   have c3k:=c3
   try simp only [qcA,qcB] at c3
   refine .skip (.blk (.code (rq2 rfl rfl (arn (((k+1):Nat):Int) rfl .no (.u rfl) (.u rfl) rfl (fun _=>by omega) (fun _=>wrap_i64 (by omega) (by omega)) ?_))))
   refine mV rfl rfl (.nil (We.lpo (k+1,upd f k 54#8,upd f2 k 92#8) ?_ ?_ ?_ ?_ ?_))
   ·exact (esC rfl (by first|rfl|exact evi (by omega)) (esD rfl (esD rfl (esD rfl eZ))))
   ·exact (mS .here rfl (mS .here rfl (mS .here rfl mN)))
   ·first|omega|(dsimp only; omega)
   ·exact hGl0
   refine ⟨?_,?_,?_⟩
   ·(try dsimp only)<;>(first|omega|rfl|assumption|(simp; done))
   ·(try dsimp only)<;>(exact outs_step1 ef (by rw [padF,ek1,if_neg (by omega)]))
   (try dsimp only)<;>(exact outs_step1 ef2 (by rw [padF,ek1,if_neg (by omega)]))
  have c2k:=c2
  try simp only [qcA,qcB] at c2
  refine .exit (.xcode (.xlp (.xblk (.code (.seq (Wk.drawT Fx.mix rfl ?_))))))
  refine WoT.n2 0 1 (by kernel_rfl) ?_ ?_
  ·refine lA rfl .no Fx.ag188 (.u rfl) (fun _=>RdN.own tk1) (fun _=>(by first|exact qE|exact qL|rfl)) ?_
   refine .nil (WoT.n2 1 2 (by kernel_rfl) ?_ ?_)
   ·refine lA rfl .no Fx.ag188 (.u rfl) (fun _=>RdN.own .here) (fun _=>(by first|exact qE|exact qL|rfl)) ?_
    refine .nil (WoT.n1 2 (by kernel_rfl) ?_)
    refine sw rfl (.u rfl) (.u rfl) rfl Fx.sz188 tk1 (by first|exact qE|exact qL|rfl) (by first|exact ba_one _ _|exact wa_one _ _|exact one_V _|decide|exact one_app (wa_one _ _) (by simp [Value.oneCell'])) ?_
    refine .nil (WoT.n1 3 (by kernel_rfl) ?_)
    refine sw rfl (.u rfl) (.u rfl) rfl Fx.sz188 tk1 (by first|exact qE|exact qL|rfl) (by first|exact ba_one _ _|exact wa_one _ _|exact one_V _|decide|exact one_app (wa_one _ _) (by simp [Value.oneCell'])) ?_
    refine .nil (WoT.last (by kernel_rfl) ?_)
    refine .code (.ret (We.fin0 Tryz.results147 (.cell rfl (fun w hw=>run_loadVarN Fx.ag188 (RdN.own tk1) ((by first|exact qE|exact qL|rfl)) hw) (.cell rfl (fun w hw=>run_loadVarN Fx.ag188 (RdN.own .here) ((by first|exact qE|exact qL|rfl)) hw) .nil)) ?_))
    obtain rfl:k=64:=by omega
    exact ⟨rfl,by rw [ef,ef2,ba_congr (fun i hi=>outs_eq (padF key 54#8) hi),ba_congr (fun i hi=>outs_eq (padF key 92#8) hi)]; rfl⟩
   refine sw rfl (.u rfl) (.u rfl) rfl Fx.sz188 tk1 (by first|exact qE|exact qL|rfl) (by first|exact ba_one _ _|exact wa_one _ _|exact one_V _|decide|exact one_app (wa_one _ _) (by simp [Value.oneCell'])) ?_
   refine .nil (WoT.n1 1 (by kernel_rfl) ?_)
   refine lA rfl .no Fx.ag188 (.u rfl) (fun _=>RdN.own tk1) (fun _=>(by first|exact qE|exact qL|rfl)) ?_
   refine .nil (WoT.n1 3 (by kernel_rfl) ?_)
   refine sw rfl (.u rfl) (.u rfl) rfl Fx.sz188 tk1 (by first|exact qE|exact qL|rfl) (by first|exact ba_one _ _|exact wa_one _ _|exact one_V _|decide|exact one_app (wa_one _ _) (by simp [Value.oneCell'])) ?_
   refine .nil (WoT.last (by kernel_rfl) ?_)
   refine .code (.ret (We.fin0 Tryz.results147 (.cell rfl (fun w hw=>run_loadVarN Fx.ag188 (RdN.own tk1) ((by first|exact qE|exact qL|rfl)) hw) (.cell rfl (fun w hw=>run_loadVarN Fx.ag188 (RdN.own .here) ((by first|exact qE|exact qL|rfl)) hw) .nil)) ?_))
   obtain rfl:k=64:=by omega
   exact ⟨rfl,by rw [ef,ef2,ba_congr (fun i hi=>outs_eq (padF key 54#8) hi),ba_congr (fun i hi=>outs_eq (padF key 92#8) hi)]; rfl⟩
  refine lA rfl .no Fx.ag188 (.u rfl) (fun _=>RdN.own .here) (fun _=>(by first|exact qE|exact qL|rfl)) ?_
  refine .nil (WoT.n1 0 (by kernel_rfl) ?_)
  refine lA rfl .no Fx.ag188 (.u rfl) (fun _=>RdN.own tk1) (fun _=>(by first|exact qE|exact qL|rfl)) ?_
  refine .nil (WoT.n1 2 (by kernel_rfl) ?_)
  refine sw rfl (.u rfl) (.u rfl) rfl Fx.sz188 tk1 (by first|exact qE|exact qL|rfl) (by first|exact ba_one _ _|exact wa_one _ _|exact one_V _|decide|exact one_app (wa_one _ _) (by simp [Value.oneCell'])) ?_
  refine .nil (WoT.n1 3 (by kernel_rfl) ?_)
  refine sw rfl (.u rfl) (.u rfl) rfl Fx.sz188 tk1 (by first|exact qE|exact qL|rfl) (by first|exact ba_one _ _|exact wa_one _ _|exact one_V _|decide|exact one_app (wa_one _ _) (by simp [Value.oneCell'])) ?_
  refine .nil (WoT.last (by kernel_rfl) ?_)
  refine .code (.ret (We.fin0 Tryz.results147 (.cell rfl (fun w hw=>run_loadVarN Fx.ag188 (RdN.own tk1) ((by first|exact qE|exact qL|rfl)) hw) (.cell rfl (fun w hw=>run_loadVarN Fx.ag188 (RdN.own .here) ((by first|exact qE|exact qL|rfl)) hw) .nil)) ?_))
  obtain rfl:k=64:=by omega
  exact ⟨rfl,by rw [ef,ef2,ba_congr (fun i hi=>outs_eq (padF key 54#8) hi),ba_congr (fun i hi=>outs_eq (padF key 92#8) hi)]; rfl⟩
 have c1k:=c1
 try simp only [qcA,qcB] at c1
 have ek2:keyL key=key:=by unfold keyL; rw [if_neg (by omega)]
 refine .skip (.code (.seq (.seq ?_)))
 skip
 refine rq1 rfl rfl (mV rfl rfl (.nil (.code (.block ?_))))
 refine Wk.lop (α:=Nat×(Nat→Y)×(Nat→Y)) (fun gh=>[(13,true,.int .i64 (gh.1:Int))]) (fun gh=>[.blk b3 (cl (ba 64 gh.2.2) 188),.blk b2 (cl (ba 64 gh.2.1) 188)])
  (fun gh Gl=>(gh.1≤64)∧(gh.2.1=outs (padF key 54#8) gh.1)∧(gh.2.2=outs (padF key 92#8) gh.1)) (fun gh=>64-gh.1) (0,fun _=>0#8,fun _=>0#8) [(0,true,_),(2,true,_),(3,true,_)] []
  (esC rfl (by first|rfl|exact evi (by omega)) (esD rfl (esD rfl (esD rfl eZ))))
  (mS .here rfl (mS .here rfl mN)) ?_ ?_
 ·refine ⟨?_,?_,?_⟩
  ·(try dsimp only)<;>(first|omega|rfl|assumption|(simp; done))
  ·(try dsimp only)<;>(first|omega|rfl|assumption|(simp; done))
  (try dsimp only)<;>(first|omega|rfl|assumption|(simp; done))
 intro gh N1 Gl1 hN1 hGl1 hF1
 obtain ⟨k,f,f2⟩:=gh; dsimp only at hF1 hN1 ⊢
 obtain ⟨hk,ef,ef2⟩:=hF1
 have hs:=hs.mono hGl1
 refine .seq (rq1 rfl rfl (cp rfl .no (.u rfl) (.u rfl) rfl (.nil (.code (.seq (.cond rfl (fun c4=>?_) (fun c4=>?_)))))))
 ·have c4k:=c4
  try simp only [qcA,qcB] at c4
  refine .skip (.code (.seq (.block (.seq (rq2 rfl rfl (mV rfl rfl (aS rfl rfl (.nil (.code (.seq (rq6 rfl rfl (mV rfl rfl (mV rfl rfl (iA rfl .no Fx.ar188 (.u rfl) (.u rfl) (fun _=>by omega) (fun _=>by omega) ?_))))))))))))))
  refine s1 rfl (.u rfl) (.u rfl) rfl Fx.sz5 tk1 (by first|decide|(simp only [wa_len,ba_len,qlA]; omega)) (by first|exact ba_set1 (z:=54#8) (k) (by omega)|exact wa_set1 (z:=54#32) (k) (by omega)|rfl) ?_
  refine iA rfl .no Fx.ar188 (.u rfl) (.u rfl) (fun _=>by omega) (fun _=>by omega) ?_
  refine s1 rfl (.u rfl) (.u rfl) rfl Fx.sz5 tk1 (by first|decide|(simp only [wa_len,ba_len,qlA]; omega)) (by first|exact ba_set1 (z:=92#8) (k) (by omega)|exact wa_set1 (z:=92#32) (k) (by omega)|rfl) ?_
  refine .nil (.code (.seq (rq4 rfl rfl (mV rfl rfl (mV rfl rfl (ln rfl .no Fx.sn34 (.u rfl) (cp rfl .no (.u rfl) (.u rfl) rfl (.nil (.code (.cond rfl (fun c5=>?_) (fun c5=>?_)))))))))))
  ·have c5k:=c5
   try simp only [qcA,qcB] at c5
   refine .seq (Wk.draw (mc:=⟨false,false⟩) [0,1,2,3,4,5,6,7,8,9] Fx.mix (by kernel_rfl) ?_)
   refine mV rfl rfl (iA rfl .no Fx.ar188 (.u rfl) (.u rfl) (fun _=>by omega) (fun _=>by omega) ?_)
   refine ld rfl .no Fx.ag5 (.u rfl) (fun _=>Rd.own tk1 (by first|exact wa_at1 (k) (by omega) (by omega)|exact ba_at1 (k) (by omega) (by omega)|exact wap_at1 (k) (by omega) (by omega)|rfl)) ?_
   refine mV rfl rfl (mV rfl rfl (ih rfl .no Fx.se34 (.u rfl) (.u rfl) (fun _=>by omega) (fun _=>by omega) (fun _=>hs.nn (k:=k) (by omega)) ?_))
   refine ld rfl .no Fx.ag5 (.u rfl) (fun _=>(hs.yat (k) (by omega) (by omega)).rd) ?_
   refine bw (k:=.u8) rfl .no rfl (.u rfl) (.u rfl) rfl (iA rfl .no Fx.ar188 (.u rfl) (.u rfl) (fun _=>by omega) (fun _=>by omega) ?_)
   refine s1 rfl (.u rfl) (.u rfl) rfl Fx.sz5 tk1 (by first|decide|(simp only [wa_len,ba_len,qlA]; omega)) (by first|exact wa_set1 (k) (by omega)|exact ba_set1 (k) (by omega)|exact wap_set1 (k) (by omega) (by omega)|rfl) ?_
   refine .nil (.code (Wk.draw (mc:=⟨false,false⟩) [0,1,2,3,4,5,6,7,8,9] Fx.mix (by kernel_rfl) ?_))
   refine mV rfl rfl (iA rfl .no Fx.ar188 (.u rfl) (.u rfl) (fun _=>by omega) (fun _=>by omega) ?_)
   refine ld rfl .no Fx.ag5 (.u rfl) (fun _=>Rd.own tk1 (by first|exact wa_at1 (k) (by omega) (by omega)|exact ba_at1 (k) (by omega) (by omega)|exact wap_at1 (k) (by omega) (by omega)|rfl)) ?_
   refine mV rfl rfl (mV rfl rfl (ih rfl .no Fx.se34 (.u rfl) (.u rfl) (fun _=>by omega) (fun _=>by omega) (fun _=>hs.nn (k:=k) (by omega)) ?_))
   refine ld rfl .no Fx.ag5 (.u rfl) (fun _=>(hs.yat (k) (by omega) (by omega)).rd) ?_
   refine bw (k:=.u8) rfl .no rfl (.u rfl) (.u rfl) rfl (iA rfl .no Fx.ar188 (.u rfl) (.u rfl) (fun _=>by omega) (fun _=>by omega) ?_)
   refine s1 rfl (.u rfl) (.u rfl) rfl Fx.sz5 tk1 (by first|decide|(simp only [wa_len,ba_len,qlA]; omega)) (by first|exact wa_set1 (k) (by omega)|exact ba_set1 (k) (by omega)|exact wap_set1 (k) (by omega) (by omega)|rfl) ?_
   refine .nil (.blk (.code (rq2 rfl rfl (arn (((k+1):Nat):Int) rfl .no (.u rfl) (.u rfl) rfl (fun _=>by omega) (fun _=>wrap_i64 (by omega) (by omega)) ?_))))
   refine mV rfl rfl (.nil (We.lpo (k+1,upd (upd f k 54#8) k (upd f k 54#8 k ^^^ key.getD k 0),upd (upd f2 k 92#8) k (upd f2 k 92#8 k ^^^ key.getD k 0)) ?_ ?_ ?_ ?_ ?_))
   ·exact (esC rfl (by first|rfl|exact evi (by omega)) (esD rfl (esD rfl (esD rfl eZ))))
   ·exact (mS .here rfl (mS .here rfl mN))
   ·first|omega|(dsimp only; omega)
   ·exact hGl1
   refine ⟨?_,?_,?_⟩
   ·(try dsimp only)<;>(first|omega|rfl|assumption|(simp; done))
   ·(try dsimp only)<;>(exact outs_step2 ef (by rw [upd_at,padF,ek2,if_pos (by omega)]))
   (try dsimp only)<;>(exact outs_step2 ef2 (by rw [upd_at,padF,ek2,if_pos (by omega)]))
  have c5k:=c5
  try simp only [qcA,qcB] at c5
  refine .skip (.blk (.code (rq2 rfl rfl (arn (((k+1):Nat):Int) rfl .no (.u rfl) (.u rfl) rfl (fun _=>by omega) (fun _=>wrap_i64 (by omega) (by omega)) ?_))))
  refine mV rfl rfl (.nil (We.lpo (k+1,upd f k 54#8,upd f2 k 92#8) ?_ ?_ ?_ ?_ ?_))
  ·exact (esC rfl (by first|rfl|exact evi (by omega)) (esD rfl (esD rfl (esD rfl eZ))))
  ·exact (mS .here rfl (mS .here rfl mN))
  ·first|omega|(dsimp only; omega)
  ·exact hGl1
  refine ⟨?_,?_,?_⟩
  ·(try dsimp only)<;>(first|omega|rfl|assumption|(simp; done))
  ·(try dsimp only)<;>(exact outs_step1 ef (by rw [padF,ek2,if_neg (by omega)]))
  (try dsimp only)<;>(exact outs_step1 ef2 (by rw [padF,ek2,if_neg (by omega)]))
 have c4k:=c4
 try simp only [qcA,qcB] at c4
 refine .exit (.xcode (.xlp (.xblk (.code (.seq (Wk.drawT Fx.mix rfl ?_))))))
 refine WoT.n2 0 1 (by kernel_rfl) ?_ ?_
 ·refine lA rfl .no Fx.ag188 (.u rfl) (fun _=>RdN.own tk1) (fun _=>(by first|exact qE|exact qL|rfl)) ?_
  refine .nil (WoT.n2 1 2 (by kernel_rfl) ?_ ?_)
  ·refine lA rfl .no Fx.ag188 (.u rfl) (fun _=>RdN.own .here) (fun _=>(by first|exact qE|exact qL|rfl)) ?_
   refine .nil (WoT.n1 2 (by kernel_rfl) ?_)
   refine sw rfl (.u rfl) (.u rfl) rfl Fx.sz188 tk1 (by first|exact qE|exact qL|rfl) (by first|exact ba_one _ _|exact wa_one _ _|exact one_V _|decide|exact one_app (wa_one _ _) (by simp [Value.oneCell'])) ?_
   refine .nil (WoT.n1 3 (by kernel_rfl) ?_)
   refine sw rfl (.u rfl) (.u rfl) rfl Fx.sz188 tk1 (by first|exact qE|exact qL|rfl) (by first|exact ba_one _ _|exact wa_one _ _|exact one_V _|decide|exact one_app (wa_one _ _) (by simp [Value.oneCell'])) ?_
   refine .nil (WoT.last (by kernel_rfl) ?_)
   refine .code (.ret (We.fin0 Tryz.results147 (.cell rfl (fun w hw=>run_loadVarN Fx.ag188 (RdN.own tk1) ((by first|exact qE|exact qL|rfl)) hw) (.cell rfl (fun w hw=>run_loadVarN Fx.ag188 (RdN.own .here) ((by first|exact qE|exact qL|rfl)) hw) .nil)) ?_))
   obtain rfl:k=64:=by omega
   exact ⟨rfl,by rw [ef,ef2,ba_congr (fun i hi=>outs_eq (padF key 54#8) hi),ba_congr (fun i hi=>outs_eq (padF key 92#8) hi)]; rfl⟩
  refine sw rfl (.u rfl) (.u rfl) rfl Fx.sz188 tk1 (by first|exact qE|exact qL|rfl) (by first|exact ba_one _ _|exact wa_one _ _|exact one_V _|decide|exact one_app (wa_one _ _) (by simp [Value.oneCell'])) ?_
  refine .nil (WoT.n1 1 (by kernel_rfl) ?_)
  refine lA rfl .no Fx.ag188 (.u rfl) (fun _=>RdN.own tk1) (fun _=>(by first|exact qE|exact qL|rfl)) ?_
  refine .nil (WoT.n1 3 (by kernel_rfl) ?_)
  refine sw rfl (.u rfl) (.u rfl) rfl Fx.sz188 tk1 (by first|exact qE|exact qL|rfl) (by first|exact ba_one _ _|exact wa_one _ _|exact one_V _|decide|exact one_app (wa_one _ _) (by simp [Value.oneCell'])) ?_
  refine .nil (WoT.last (by kernel_rfl) ?_)
  refine .code (.ret (We.fin0 Tryz.results147 (.cell rfl (fun w hw=>run_loadVarN Fx.ag188 (RdN.own tk1) ((by first|exact qE|exact qL|rfl)) hw) (.cell rfl (fun w hw=>run_loadVarN Fx.ag188 (RdN.own .here) ((by first|exact qE|exact qL|rfl)) hw) .nil)) ?_))
  obtain rfl:k=64:=by omega
  exact ⟨rfl,by rw [ef,ef2,ba_congr (fun i hi=>outs_eq (padF key 54#8) hi),ba_congr (fun i hi=>outs_eq (padF key 92#8) hi)]; rfl⟩
 refine lA rfl .no Fx.ag188 (.u rfl) (fun _=>RdN.own .here) (fun _=>(by first|exact qE|exact qL|rfl)) ?_
 refine .nil (WoT.n1 0 (by kernel_rfl) ?_)
 refine lA rfl .no Fx.ag188 (.u rfl) (fun _=>RdN.own tk1) (fun _=>(by first|exact qE|exact qL|rfl)) ?_
 refine .nil (WoT.n1 2 (by kernel_rfl) ?_)
 refine sw rfl (.u rfl) (.u rfl) rfl Fx.sz188 tk1 (by first|exact qE|exact qL|rfl) (by first|exact ba_one _ _|exact wa_one _ _|exact one_V _|decide|exact one_app (wa_one _ _) (by simp [Value.oneCell'])) ?_
 refine .nil (WoT.n1 3 (by kernel_rfl) ?_)
 refine sw rfl (.u rfl) (.u rfl) rfl Fx.sz188 tk1 (by first|exact qE|exact qL|rfl) (by first|exact ba_one _ _|exact wa_one _ _|exact one_V _|decide|exact one_app (wa_one _ _) (by simp [Value.oneCell'])) ?_
 refine .nil (WoT.last (by kernel_rfl) ?_)
 refine .code (.ret (We.fin0 Tryz.results147 (.cell rfl (fun w hw=>run_loadVarN Fx.ag188 (RdN.own tk1) ((by first|exact qE|exact qL|rfl)) hw) (.cell rfl (fun w hw=>run_loadVarN Fx.ag188 (RdN.own .here) ((by first|exact qE|exact qL|rfl)) hw) .nil)) ?_))
 obtain rfl:k=64:=by omega
 exact ⟨rfl,by rw [ef,ef2,ba_congr (fun i hi=>outs_eq (padF key 54#8) hi),ba_congr (fun i hi=>outs_eq (padF key 92#8) hi)]; rfl⟩
namespace Fx
theorem go147:goFn Tryz.prog 147=true:=by kernel_rfl
theorem go148:goFn Tryz.prog 148=true:=by kernel_rfl
theorem go149:goFn Tryz.prog 149=true:=by kernel_rfl
theorem zq164:zrL Tryz.prog 164=some (ba 16 (fun _=>0#8)):=by kernel_rfl
theorem fo65_1:fOff Tryz.prog 65 1=some 32:=by kernel_rfl
theorem ar125:arE Tryz.prog 125=some (12,5,1):=by kernel_rfl
theorem go35:goFn Tryz.prog 35=true:=by kernel_rfl
theorem go135:goFn Tryz.prog 135=true:=by kernel_rfl
theorem ar164:arE Tryz.prog 164=some (16,5,1):=by kernel_rfl
theorem ag164:aggN Tryz.prog 164=some (some 16):=by kernel_rfl
theorem sz164:szT Tryz.prog 164=some 16:=by kernel_rfl
theorem fo65_0:fOff Tryz.prog 65 0=some 0:=by kernel_rfl
theorem ag125:aggN Tryz.prog 125=some (some 12):=by kernel_rfl
theorem go112:goFn Tryz.prog 112=true:=by kernel_rfl
theorem ag65:aggN Tryz.prog 65=some (some 64):=by kernel_rfl
theorem go113:goFn Tryz.prog 113=true:=by kernel_rfl
theorem baT164:baT Tryz.prog 164 16=true:=by kernel_rfl
end Fx
theorem macSum_ok (key:List Y) (hk:Sh) (ps:List (Sh×List Y)) (h:Sh) (G:PM) (hsk:SlR G 1 encY hk key) (hs:SlP G h ps) (hK:RdNP G 1 0 (wa 64 kW)) (hlk:key.length≤140737488351232) (hl:(catL ps).length≤1000000000000000) (hn:ps.length≤1000):Ct Tryz.prog 135 ([hk.val key.length,h.val ps.length]:List Value).toArray G [] (fun _ μ' u=>μ'=[]∧u=.agg (ba 32 (macL key (catL ps))).toArray):=by
 refine Ct.of Tryz.func135 rfl Tryz.ntmps135 rfl fun w0 hs0=>?_
 refine .seq (rq1 rfl rfl ?_)
 refine al rfl Fx.zq23 ?_; intro b4
 refine .nil (.code (.seq (rq9 rfl rfl (mV rfl rfl (kv rfl .no Fx.go147 (Evc rfl Evn) (fun _=>pads_ok key hk _ hsk hK hlk) ?_)))))
 refine mV rfl rfl (ex rfl .no (.u rfl) rfl (ex rfl .no (.u rfl) rfl ?_))
 refine al rfl Fx.zq188 ?_; intro b5
 refine al rfl Fx.zq188 ?_; intro b6
 refine sw rfl (.u rfl) (.u rfl) rfl Fx.sz188 tk1 (by first|exact qE|exact qL|rfl) (by first|exact ba_one _ _|exact wa_one _ _|exact one_V _|decide|exact one_app (wa_one _ _) (by simp [Value.oneCell'])) ?_
 refine sw rfl (.u rfl) (.u rfl) rfl Fx.sz188 tk1 (by first|exact qE|exact qL|rfl) (by first|exact ba_one _ _|exact wa_one _ _|exact one_V _|decide|exact one_app (wa_one _ _) (by simp [Value.oneCell'])) ?_
 refine .nil (.code (.seq ?_))
 refine wk_fz tk1 (by intro b hb; cases hb) ?_; intro Gfb5 hleb5 hbb5
 have hs:=hs.mono hleb5
 have hK:=hK.mono hleb5
 refine wk_fz .here (by intro b hb; cases hb) ?_; intro Gfb6 hleb6 hbb6
 have hs:=hs.mono hleb6
 have hK:=hK.mono hleb6
 have hbb5:=hbb5.mono hleb6
 refine rq2 rfl rfl (kc rfl Fx.go148 Evn (New_ok _) ?_)
 rintro _ G16 μ16 hG16 ⟨b16,rfl,rfl⟩
 have hs:=hs.mono hG16
 have hK:=hK.mono hG16
 have hbb5:=hbb5.mono hG16
 have hbb6:=hbb6.mono hG16
 refine aS rfl rfl (.nil (.code (.seq (rq3 rfl rfl (mV rfl rfl ?_)))))
 refine kA rfl .no Fx.ar188 (.u rfl) hbb5 (by first|exact ba_all|exact app_l|exact app_r) ?_; intro h18 L18 eL18 lL18 hs18
 refine ka rfl (.inr rfl) Fx.go149 (Evc rfl (Evc rfl Evn)) (mtk2 .here .here) (Write_ok [] L18 _ _ _ _ hs18 hK (by simp; omega)) ?_
 rintro _ G19 μ19 hG19 ⟨vq0,rfl,rfl⟩
 have hs:=hs.mono hG19
 have hK:=hK.mono hG19
 have hbb6:=hbb6.mono hG19
 refine .nil (.code (.seq (.seq (rq3 rfl rfl (mV rfl rfl (ln rfl .no Fx.sn53 (.u rfl) (mV rfl rfl (.nil (.code (.block ?_))))))))))
 refine Wk.lop (α:=Nat×Value) (fun gh=>[(22,true,.int .i64 (gh.1:Int))]) (fun gh=>[.blk b16 (cl (stC (L18++catL (ps.take gh.1)) gh.2) 168),rB gh.2 5 (restL (L18++catL (ps.take gh.1)))])
  (fun gh Gl=>(gh.1≤ps.length)) (fun gh=>ps.length-gh.1) (0,vq0) [(4,true,_),(6,true,_),(7,true,_),(20,true,_),(21,true,_)] [_]
  (esC rfl (by first|rfl|exact evi (by omega)) (esD rfl (esD rfl (esD rfl (esD rfl (esD rfl eZ))))))
  (mS .here (by simp [catL]) (mS .here (by simp [catL]) (mS .here rfl mN))) ?_ ?_
 ·(try dsimp only)<;>(first|omega|rfl|assumption|(simp; done))
 intro gh N0 Gl0 hN0 hGl0 hF0
 obtain ⟨k,vq⟩:=gh; dsimp only at hF0 hN0 ⊢
 have hk:=hF0
 have hs:=hs.mono hGl0
 have hK:=hK.mono hGl0
 have hbb6:=hbb6.mono hGl0
 refine .seq (rq1 rfl rfl (cp rfl .no (.u rfl) (.u rfl) rfl (.nil (.code (.seq (.cond rfl (fun c1=>?_) (fun c1=>?_)))))))
 ·have c1k:=c1
  try simp only [qcA,qcB] at c1
  refine .skip (.code (.seq (.block (.seq (rq3 rfl rfl (ih rfl .no Fx.se53 (.u rfl) (.u rfl) (fun _=>by omega) (fun _=>by omega) (fun _=>hs.sl.nn (k:=k) (by omega)) ?_))))))
  obtain ⟨p25,ep25⟩:=getx (k:=k) (xs:=ps) (by omega)
  have hq25:=hs.get ep25
  refine ld rfl .no Fx.ag34 (.u rfl) (fun _=>(hs.at (k) (by omega) ep25).rd) ?_
  refine aS rfl rfl (.nil (.code (rq3 rfl rfl (mV rfl rfl (mV rfl rfl (ka rfl (.inr rfl) Fx.go149 (Evc rfl (Evc rfl Evn)) (mtk2 .here .here) (Write_ok (L18++catL (ps.take k)) p25.2 _ _ _ _ hq25 hK (by have:=cat_len ep25; rw [List.length_append]; omega)) ?_))))))
  rintro _ G28 μ28 hG28 ⟨vq',rfl,rfl⟩
  have hK:=hK.mono hG28
  have hbb6:=hbb6.mono hG28
  refine .nil (.blk (.code (rq2 rfl rfl (arn (((k+1):Nat):Int) rfl .no (.u rfl) (.u rfl) rfl (fun _=>by omega) (fun _=>wrap_i64 (by omega) (by omega)) ?_))))
  refine mV rfl rfl (.nil (We.lpo (k+1,vq') ?_ ?_ ?_ ?_ ?_))
  ·exact (esC rfl (by first|rfl|exact evi (by omega)) (esD rfl (esD rfl (esD rfl (esD rfl (esD rfl eZ))))))
  ·exact (mS .here (by rw [cat_take ep25,List.append_assoc]) (mS .here (by rw [cat_take ep25,List.append_assoc]) (mS .here rfl mN)))
  ·first|omega|(dsimp only; omega)
  ·exact (hGl0).trans hG28
  (try dsimp only)<;>(first|omega|rfl|assumption|(simp; done))
 have c1k:=c1
 try simp only [qcA,qcB] at c1
 refine .exit (.xcode (.xlp (.xblk (.code (.seq ?_)))))
 obtain rfl:k=ps.length:=by omega
 rw [List.take_length]
 refine rq4 rfl rfl (mV rfl rfl (ka rfl (.inr rfl) Fx.go116 (Evc rfl Evn) (mtk2 .here .here) (StSum_ok (L18++catL ps) _ _ _ hK (by rw [List.length_append]; omega)) ?_))
 rintro _ G31 μ31 hG31 ⟨rfl,rfl⟩
 have hK:=hK.mono hG31
 have hbb6:=hbb6.mono hG31
 refine al rfl Fx.zq23 ?_; intro b10
 refine sw rfl (.u rfl) (.u rfl) rfl Fx.sz23 .here (by first|exact qE|exact qL|rfl) (by first|exact ba_one _ _|exact wa_one _ _|exact one_V _|decide|exact one_app (wa_one _ _) (by simp [Value.oneCell'])) ?_
 refine .nil (.code (.seq ?_))
 refine wk_fz .here (by intro b hb; cases hb) ?_; intro Gfb10 hleb10 hbb10
 have hK:=hK.mono hleb10
 have hbb6:=hbb6.mono hleb10
 refine Wk.draw (mc:=⟨false,false⟩) [0,1,2,3,4] Fx.mix (by kernel_rfl) ?_
 refine kA rfl .no Fx.ar188 (.u rfl) hbb6 (by first|exact ba_all|exact app_l|exact app_r) ?_; intro h32 L32 eL32 lL32 hs32
 refine kA rfl .no Fx.ar23 (.u rfl) hbb10 (by first|exact ba_all|exact app_l|exact app_r) ?_; intro h33 L33 eL33 lL33 hs33
 refine Go.Tan.bN rfl Fx.se53 Fx.zv34 (Evp.cons (.u rfl) (Evp.cons (.u rfl) Evp.nil)) rfl (by decide) (by simp [Value.oneCell',Sh.val]) ?_; intro b34
 refine kp rfl .no Fx.go76 (Evc rfl Evn) (Gp.add .here Gp.nil) (fun _ hle hq=>sum2_ok hle hs32 hs33 hK (by omega)) ?_
 refine sw rfl (.u rfl) (.u rfl) rfl Fx.sz23 tk3 (by first|exact qE|exact qL|rfl) (by first|exact ba_one _ _|exact wa_one _ _|exact one_V _|decide|exact one_app (wa_one _ _) (by simp [Value.oneCell'])) ?_
 refine .nil (.code (.ret (We.fin0 Tryz.results135 (.cell rfl (fun w hw=>run_loadVarN Fx.ag23 (RdN.own .here) ((by first|exact qE|exact qL|rfl)) hw) .nil) ?_)))
 exact ⟨rfl,by rw [eL32,eL33,eL18]; rfl⟩
theorem mac4_ok {G:PM} {b T:Nat} {hk h1 h2 h3 h4:Sh} {key L1 L2 L3 L4:List Y} (hle:PM.le G (G.add b (cl [h1.val L1.length,h2.val L2.length,h3.val L3.length,h4.val L4.length] T))) (hsk:SlR G 1 encY hk key) (hs:SlR G 1 encY h1 L1) (hs2:SlR G 1 encY h2 L2) (hs3:SlR G 1 encY h3 L3) (hs4:SlR G 1 encY h4 L4) (hK:RdNP G 1 0 (wa 64 kW)) (hlk:key.length≤140737488351232) (hl:L1.length+L2.length+L3.length+L4.length≤1000000000000000) :
  Ct Tryz.prog 135 ([hk.val key.length,.slice (some ⟨b,0,none⟩) 4 4]:List Value).toArray (G.add b (cl [h1.val L1.length,h2.val L2.length,h3.val L3.length,h4.val L4.length] T)) [] (fun _ μ' u=>μ'=[]∧u=.agg (ba 32 (macL key (L1++L2++L3++L4))).toArray):=by
 have h:=macSum_ok key hk [(h1,L1),(h2,L2),(h3,L3),(h4,L4)] ⟨some ⟨b,0,none⟩,4⟩ _ (hsk.mono hle) (SlP.four hle hs hs2 hs3 hs4) (hK.mono hle) hlk (by simp [catL]; omega) (by simp)
 rw [show catL [(h1,L1),(h2,L2),(h3,L3),(h4,L4)]=L1++L2++L3++L4 by simp [catL]] at h
 exact h
theorem Tag_ok (enc mac nonce:Nat→Y) (ad:List Y) (ha:Sh) (xs:List Y) (hx:Sh) (G:PM) (hsa:SlR G 1 encY ha ad) (hsx:SlR G 1 encY hx xs) (hK:RdNP G 1 0 (wa 64 kW)) (hla:ad.length≤140737488351232) (hl:xs.length≤140737488355328):Ct Tryz.prog 113 ([.agg (ba 32 enc++ba 32 mac).toArray,.agg (ba 12 nonce).toArray,ha.val ad.length,hx.val xs.length]:List Value).toArray G [] (fun _ μ' u=>μ'=[]∧u=.agg (ba 16 (tagF mac nonce ad xs)).toArray):=by
 refine Ct.of Tryz.func113 rfl Tryz.ntmps113 rfl fun w0 hs0=>?_
 refine .seq (rq3 rfl rfl ?_)
 refine bx rfl (.u rfl) rfl ?_; intro b4
 refine bx rfl (.u rfl) rfl ?_; intro b5
 refine al rfl Fx.zq164 ?_; intro b8
 refine .nil (.code (.seq ?_))
 refine wk_fz tk2 (by intro b hb; cases hb) ?_; intro Gfb4 hleb4 hbb4
 have hsa:=hsa.mono hleb4
 have hsx:=hsx.mono hleb4
 have hK:=hK.mono hleb4
 refine wk_fz tk1 (by intro b hb; cases hb) ?_; intro Gfb5 hleb5 hbb5
 have hsa:=hsa.mono hleb5
 have hsx:=hsx.mono hleb5
 have hK:=hK.mono hleb5
 have hbb4:=hbb4.mono hleb5
 refine Wk.draw (mc:=⟨false,false⟩) [0,1,2,3,4,6,7,8,5,9,10,11,12] Fx.mix (by kernel_rfl) ?_
 refine fa rfl .no Fx.fo65_1 (.u rfl) ?_
 refine kA rfl .no Fx.ar22 (.u rfl) hbb4 (by first|exact ba_all|exact app_l|exact app_r) ?_; intro h11 L11 eL11 lL11 hs11
 refine mV rfl rfl (ln rfl .no Fx.sn34 (.u rfl) (ci rfl .no rfl Fx.cv3_24 (.u rfl) ?_))
 refine mV rfl rfl ?_
 refine kA rfl .no Fx.ar125 (.u rfl) hbb5 (by first|exact ba_all|exact app_l|exact app_r) ?_; intro h17 L17 eL17 lL17 hs17
 refine mV rfl rfl (kc rfl Fx.go35 (Evc rfl (Evc rfl (Evc rfl Evn))) (Ct.frzB (Fix_ok [] ⟨none,0⟩ _ 8 _ SlR.nul (by simp) (by decide))) ?_)
 rintro _ G15 μ15 hG15 ⟨h15,L15,eL15,rfl,rfl,hs15⟩
 have hsa:=hsa.mono hG15
 have hsx:=hsx.mono hG15
 have hK:=hK.mono hG15
 have hs11:=hs11.mono hG15
 have hs17:=hs17.mono hG15
 refine Go.Tan.bN rfl Fx.se53 Fx.zv34 (Evp.cons (.u rfl) (Evp.cons (.u rfl) (Evp.cons (.u rfl) (Evp.cons (.u rfl) Evp.nil)))) rfl (by decide) (by simp [Value.oneCell',Sh.val]) ?_; intro b19
 have lL15:L15.length=8:=by rw [eL15,List.nil_append]; exact fix_len _ 8
 refine kp rfl .no Fx.go135 (Evc rfl (Evc rfl Evn)) (Gp.add .here Gp.nil) (fun _ hle hq=>mac4_ok hle hs11 hs15 hsa hs17 hsx hK (by omega) (by omega)) ?_
 refine al rfl Fx.zq23 ?_; intro b9
 refine sw rfl (.u rfl) (.u rfl) rfl Fx.sz23 .here (by first|exact qE|exact qL|rfl) (by first|exact ba_one _ _|exact wa_one _ _|exact one_V _|decide|exact one_app (wa_one _ _) (by simp [Value.oneCell'])) ?_
 refine .nil (.code (.seq (rq4 rfl rfl (sah rfl .no Fx.ar23 (.u rfl) (.u rfl) (fun _=>by first|decide|omega) (fun _=>by first|decide|omega) ?_))))
 refine sp rfl .no Fx.ar164 (.u rfl) (fun _=>by first|decide|omega) ?_
 refine lA rfl .no Fx.ag164 (.u rfl) (fun _=>RdN.part (n:=16) (cs':=ba 16 _) .here (ba_take (by decide))) (fun _=>(by first|exact qE|exact qL|rfl)) ?_
 refine sw rfl (.u rfl) (.u rfl) rfl Fx.sz164 tk2 (by first|exact qE|exact qL|rfl) (by first|exact ba_one _ _|exact wa_one _ _|exact one_V _|decide|exact one_app (wa_one _ _) (by simp [Value.oneCell'])) ?_
 refine .nil (.code (.ret (We.fin0 Tryz.results113 (.cell rfl (fun w hw=>run_loadVarN Fx.ag164 (RdN.own .here) ((by first|exact qE|exact qL|rfl)) hw) .nil) ?_)))
 exact ⟨rfl,by rw [eL11,eL15,eL17]; rfl⟩
theorem tag_row (enc mac nonce:Nat→Y) (ad:List Y) (ha:Sh) (xs:List Y) (v:Value) (G:PM) (hsa:SlR G 1 encY ha ad) (hK:RdNP G 1 0 (wa 64 kW)) (hla:ad.length≤140737488351232) (hl:xs.length≤140737488355328):Ct Tryz.prog 113 ([.agg (ba 32 enc++ba 32 mac).toArray,.agg (ba 12 nonce).toArray,ha.val ad.length,v]:List Value).toArray G [rB v 5 xs] (fun _ μ' u=>∃ ν,μ'=rB v 5 xs :: ν∧ν=[]∧u=.agg (ba 16 (tagF mac nonce ad xs)).toArray) :=
 Ct.lendB (fun hx G2 hle hv hs=>by subst hv; exact Tag_ok enc mac nonce ad ha xs hx G2 (hsa.mono hle) hs (hK.mono hle) hla hl)
theorem Seal_ok (enc mac nonce:Nat→Y) (ad:List Y) (ha:Sh) (xs:List Y) (hx:Sh) (G:PM) (hsa:SlR G 1 encY ha ad) (hsx:SlR G 1 encY hx xs) (hK:RdNP G 1 0 (wa 64 kW)) (hla:ad.length≤140737488351232) (hl:xs.length≤140737488351232):Ct Tryz.prog 72 ([.agg (ba 32 enc++ba 32 mac).toArray,.agg (ba 12 nonce).toArray,ha.val ad.length,hx.val xs.length]:List Value).toArray G [] (PR 5 (fun L=>L=sealL enc mac nonce ad xs)):=by
 refine Ct.of Tryz.func72 rfl Tryz.ntmps72 rfl fun w0 hs0=>?_
 have lc:=cross_len enc nonce 1#32 xs
 refine .seq (rq3 rfl rfl ?_)
 refine bx rfl (.u rfl) rfl ?_; intro b4
 refine bx rfl (.u rfl) rfl ?_; intro b5
 refine aS rfl rfl (.nil (.code (.seq (rq6 rfl rfl (fz rfl .no Fx.fo65_0 (.u rfl) (lA rfl .no Fx.ag22 (.u rfl) (fun _=>RdN.part (n:=32) (cs':=ba 32 enc) tk1 (app_l)) (fun _=>(by first|exact qE|exact qL|rfl)) ?_))))))
 refine lA rfl .no Fx.ag125 (.u rfl) (fun _=>RdN.own .here) (fun _=>(by first|exact qE|exact qL|rfl)) ?_
 refine mV rfl rfl (kc rfl Fx.go112 (Evc rfl (Evc rfl (Evc rfl (Evc rfl Evn)))) (Ct.rowc (Cross_ok enc nonce 1#32 hx xs _ hsx hl)) ?_)
 rintro v15 G15 μ15 hG15 ⟨L15,ov15,eL15,rfl⟩
 have hsa:=hsa.mono hG15
 have hK:=hK.mono hG15
 refine aS rfl rfl (.nil (.code (.seq (rq7 rfl rfl ?_))))
 have lL15:L15.length=xs.length:=by rw [eL15,cross_len]
 refine lA rfl .no Fx.ag65 (.u rfl) (fun _=>RdN.own tk2) (fun _=>(by first|exact qE|exact qL|rfl)) ?_
 refine lA rfl .no Fx.ag125 (.u rfl) (fun _=>RdN.own tk1) (fun _=>(by first|exact qE|exact qL|rfl)) ?_
 refine mV rfl rfl (mV rfl rfl (ka rfl (.inr rfl) Fx.go113 (Evc rfl (Evc rfl (Evc rfl (Evc rfl Evn)))) (mtk1 .here) (tag_row enc mac nonce ad ha L15 _ _ hsa hK hla (by rw [eL15,cross_len]; omega)) ?_))
 rintro _ G20 μ20 hG20 ⟨_,rfl,rfl,rfl⟩
 refine al rfl Fx.zq164 ?_; intro b10
 refine sw rfl (.u rfl) (.u rfl) rfl Fx.sz164 .here (by first|exact qE|exact qL|rfl) (by first|exact ba_one _ _|exact wa_one _ _|exact one_V _|decide|exact one_app (wa_one _ _) (by simp [Value.oneCell'])) ?_
 refine .nil (.code (.seq (rq4 rfl rfl (mV rfl rfl (sa0 rfl .no Fx.ar164 (.u rfl) (apY rfl Fx.se34 Fx.zv5 (.u rfl) (.u rfl) tk1 (Sc.arr .here) (by (try simp only [qlA,yl_len]); omega) ?_))))))
 intro v23 L23 ov23 eL23
 have lL23:L23.length=L15.length+16:=by rw [eL23,List.length_append]; first|rfl | simp [yl_len]
 refine aS rfl rfl (.nil (.code (.ret (We.fin Tryz.results72 (.tmp rfl .nil) (mS .here rfl mN) ?_))))
 exact ⟨L23,by rw [eL23,eL15]; rfl,rfl⟩
theorem Open_ok (enc mac nonce:Nat→Y) (ad:List Y) (ha:Sh) (xs:List Y) (hx:Sh) (G:PM) (hsa:SlR G 1 encY ha ad) (hsx:SlR G 1 encY hx xs) (hK:RdNP G 1 0 (wa 64 kW)) (hla:ad.length≤140737488351232) (hl:xs.length≤140737488351248):Ct Tryz.prog 123 ([.agg (ba 32 enc++ba 32 mac).toArray,.agg (ba 12 nonce).toArray,ha.val ad.length,hx.val xs.length]:List Value).toArray G [] (fun _ μ' u=>∃ v L e,OpenR (openL enc mac nonce ad xs) L e∧μ'=[rB v 5 L]∧u=.tuple #[v,.int .i64 e]):=by
 refine Ct.of Tryz.func123 rfl Tryz.ntmps123 rfl fun w0 hs0=>?_
 refine .seq (rq4 rfl rfl ?_)
 refine bx rfl (.u rfl) rfl ?_; intro b4
 refine bx rfl (.u rfl) rfl ?_; intro b5
 refine aS rfl rfl (aS rfl rfl (.nil (.code (.seq (rq4 rfl rfl (mV rfl rfl (ln rfl .no Fx.sn34 (.u rfl) (ar rfl .no (.u rfl) (.u rfl) rfl (fun _=>wrap_i64 (by omega) (by omega)) ?_))))))))
 refine aS rfl rfl (.nil (.code (.seq (.seq (rq2 rfl rfl (mV rfl rfl (cp rfl .no (.u rfl) (.u rfl) rfl (.nil (.code (.cond rfl (fun c1=>?_) (fun c1=>?_)))))))))))
 ·have c1k:=c1
  try simp only [qcA,qcB] at c1
  refine .seq (rq2 rfl rfl (aS rfl rfl (aS rfl rfl (.nil (.code (.ret (we_nilB 5 ?_)))))))
  refine We.fin Tryz.results123 (.tmp rfl (.tmp rfl .nil)) (mS .here rfl mN) ?_
  rw [open_short (by omega)]; exact ⟨_,[],60,.inr ⟨rfl,rfl,rfl⟩,rfl,rfl⟩
 have c1k:=c1
 try simp only [qcA,qcB] at c1
 refine .skip (.code (.seq (rq4 rfl rfl (mV rfl rfl (mV rfl rfl (kE ((xs.length-16)) rfl .no Fx.se34 hsx (.u rfl) (.u rfl) (fun _=>by omega) (fun _=>by omega) ?_))))))
 intro h19 L19 eL19 lL19 hs19
 have lL19:=lL19 rfl
 refine aS rfl rfl (.nil (.code (.seq (.seq (Wk.draw (mc:=⟨false,false⟩) [0,1,2,3,5,6,7,8,9,4,10] Fx.mix (by kernel_rfl) ?_)))))
 refine lA rfl .no Fx.ag65 (.u rfl) (fun _=>RdN.own tk1) (fun _=>(by first|exact qE|exact qL|rfl)) ?_
 refine lA rfl .no Fx.ag125 (.u rfl) (fun _=>RdN.own .here) (fun _=>(by first|exact qE|exact qL|rfl)) ?_
 refine mV rfl rfl (mV rfl rfl (mV rfl rfl (mV rfl rfl (kD ((xs.length-16)) rfl .no Fx.se34 hsx (.u rfl) (.u rfl) (fun _=>by omega) (fun _=>by omega) ?_))))
 intro h27 L27 eL27 lL27 hs27
 have lL27:=lL27 rfl
 refine spS rfl .no Fx.ar164 hs27 (.u rfl) (fun _=>by omega) (by decide) ?_
 refine lA rfl .no Fx.ag164 (.u rfl) (fun _=>(hs27.arr (m:=16) (by omega)).rd) (fun _=>ba_len _ _) ?_
 refine kv rfl .no Fx.go113 (Evc rfl (Evc rfl (Evc rfl (Evc rfl Evn)))) (fun _=>Tag_ok enc mac nonce ad ha L19 h19 _ hsa hs19 hK hla (by omega)) ?_
 refine nqB rfl .no Fx.baT164 (.u rfl) (.u rfl) ?_
 refine .nil (.code (.cond rfl (fun c2=>?_) (fun c2=>?_)))
 ·have c2k:=c2
  try simp only [qcA,qcB] at c2
  refine .seq (rq2 rfl rfl (aS rfl rfl (aS rfl rfl (.nil (.code (.ret (we_nilB 5 ?_)))))))
  refine We.fin Tryz.results123 (.tmp rfl (.tmp rfl .nil)) (mS .here rfl mN) ?_
  rw [open_bad (by omega) (by rw [← eL19,←eL27,←yl_self L27,show L27.length=16 by omega]; exact c2)]; exact ⟨_,[],60,.inr ⟨rfl,rfl,rfl⟩,rfl,rfl⟩
 have c2k:=c2
 try simp only [qcA,qcB] at c2
 refine .skip (.code (.seq (rq7 rfl rfl (fz rfl .no Fx.fo65_0 (.u rfl) (lA rfl .no Fx.ag22 (.u rfl) (fun _=>RdN.part (n:=32) (cs':=ba 32 enc) tk1 (app_l)) (fun _=>(by first|exact qE|exact qL|rfl)) ?_)))))
 refine lA rfl .no Fx.ag125 (.u rfl) (fun _=>RdN.own .here) (fun _=>(by first|exact qE|exact qL|rfl)) ?_
 refine mV rfl rfl (kc rfl Fx.go112 (Evc rfl (Evc rfl (Evc rfl (Evc rfl Evn)))) (Ct.rowc (Cross_ok enc nonce 1#32 h19 L19 _ hs19 (by omega))) ?_)
 rintro v35 G35 μ35 hG35 ⟨L35,ov35,eL35,rfl⟩
 refine aS rfl rfl (aS rfl rfl (.nil (.code (.ret (We.fin Tryz.results123 (.tmp rfl (.tmp rfl .nil)) (mS .here rfl mN) ?_)))))
 rw [open_good (by omega) (by rw [← eL19,←eL27,←yl_self L27,show L27.length=16 by omega]; exact c2),←eL19]; exact ⟨v35,L35,0,.inl ⟨by rw [eL35],rfl⟩,rfl,rfl⟩
namespace Fx
theorem cst34:csT Tryz.prog 34=true:=by kernel_rfl
end Fx
def zF:Nat→Y:=fun _=>0#8
namespace Fx
theorem zv139:(Tryz.prog.info? 139).bind (·.zero)=some (.int .u32 0):=by kernel_rfl
theorem go142:goFn Tryz.prog 142=true:=by kernel_rfl
theorem zr166:zrL Tryz.prog 166=some ([.int .u32 0,.int .u32 0,.int .u32 0,.int .u32 0,.int .u32 0,.int .u32 0,.int .u32 0,.int .u32 0]):=by kernel_rfl
theorem go141:goFn Tryz.prog 141=true:=by kernel_rfl
theorem sz166:szT Tryz.prog 166=some 8:=by kernel_rfl
theorem go120:goFn Tryz.prog 120=true:=by kernel_rfl
theorem go121:goFn Tryz.prog 121=true:=by kernel_rfl
end Fx
theorem rturn_ok (x:W) (k:Nat) (G:PM) (hk:k≤32):Ct Tryz.prog 142 ([U x,.int .i64 (k:Int)]:List Value).toArray G [] (fun _ μ' u=>μ'=[]∧u=U (rotr x k)):=by
 refine Ct.of Tryz.func142 rfl Tryz.ntmps142 rfl fun w0 hs0=>?_
 refine .seq (rq1 rfl rfl (aS rfl rfl (.nil (.code (.seq (Wk.draw (mc:=⟨false,false⟩) [0,1,2,3,4,5,6,7,8] Fx.mix (by kernel_rfl) ?_))))))
 refine mV rfl rfl (mV rfl rfl (rw' (k:=.u32) rfl .no (.u rfl) (.u rfl) (fun _=>by omega) ?_))
 refine mV rfl rfl (mV rfl rfl (arn (((32-k):Nat):Int) rfl .no (.u rfl) (.u rfl) rfl (fun _=>by omega) (fun _=>wrap_i64 (by omega) (by omega)) ?_))
 refine lw (k:=.u32) rfl .no rfl (.u rfl) (.u rfl) (fun _=>by omega) ?_
 refine bw (k:=.u32) rfl .no rfl (.u rfl) (.u rfl) rfl (aS rfl rfl (.nil (.code (.ret (We.fin0 Tryz.results142 (.tmp rfl .nil) ?_)))))
 exact ⟨rfl,congrArg (fun z=>tup [uv .u32 z]) (BitVec.or_comm ..)⟩
theorem wa_snoc {n:Nat} {y:Nat→W} {z:W}:wa n y++[U z]=wa (n+1) (upd y n z):=by
 refine List.ext_getElem? fun i=>?_
 rw [List.getElem?_append,wa_len]
 by_cases h:i<n
 ·rw [if_pos h,wa_at h,wa_at (by omega),upd,if_neg (by omega)]
 rw [if_neg h]
 by_cases h2:i=n
 ·subst h2; rw [wa_at (by omega),upd_at]; simp
 rw [List.getElem?_eq_none (by simp; omega),List.getElem?_eq_none (by rw [wa_len]; omega)]
theorem row_snoc {v:Value} {E n:Nat} {y:Nat→W} {z:W}:Res.row v E 1 (n+1) (wa n y++[U z])=Res.row v E 1 (n+1) (wa (n+1) (upd y n z)):=by rw [wa_snoc]
theorem upd_if2 {s x:Nat→W} {k:Nat}:upd (fun i=>if i<k then s i+x i else x i) k ((if k<k then s k+x k else x k)+s k)=fun i=>if i<k+1 then s i+x i else x i:=by
 funext i
 unfold upd
 by_cases h:i=k
 ·subst h; simp [BitVec.add_comm]
 ·rw [if_neg h]
  by_cases h2:i<k
  ·simp [h2,show i<k+1 by omega]
  ·simp [h2,show ¬ i<k+1 by omega]
theorem lenF_nat {n q:Nat} (h:q<8):lenF n q=((BitVec.ofInt 64 (n:Int)*8#64) >>> (((8*(7-q):Nat):Int)).toNat).setWidth 8:=by
 rw [Int.toNat_natCast,show 8*(7-q)=56-8*q by omega]; rfl
theorem blk_step {zs L:List Y} {j b T:Nat} (eL:L=(zs.drop (64*j)).take (64*j+64-64*j)):Res.blk b (cl (wa 8 (shaC (shaW zs j) (fun i=>L.getD i 0))) T)=.blk b (cl (wa 8 (shaW zs (j+1))) T):=by
 rw [shaW,shaC_congr (b':=blkF zs j)]
 intro i hi
 rw [eL,blkF,getD_part (by omega)]
theorem shaD4 (xs:List Y) (i q:Nat) (hq:q<4):shaD xs (4*i+q)=((shaW (padL xs) ((padL xs).length / 64) i) >>> (24-8*q)).setWidth 8:=by
 unfold shaD
 rw [show (4*i+q) / 4=i by omega,show (4*i+q)%4=q by omega]
theorem add_mid (a b c d:W):a+b+c+d=a+c+b+d:=by rw [BitVec.add_assoc a b c,BitVec.add_comm b c,←BitVec.add_assoc]
theorem rnd_a (x:Nat→W) (k w:W):x 7+(rotr (x 4) 6 ^^^ rotr (x 4) 11 ^^^ rotr (x 4) 25)+((x 4 &&& x 5) ^^^ (~~~x 4 &&& x 6))+k+w+((rotr (x 0) 2 ^^^ rotr (x 0) 13 ^^^ rotr (x 0) 22)+((x 0 &&& x 1) ^^^ (x 0 &&& x 2) ^^^ (x 1 &&& x 2)))=rndW x k w 0:=by rw [ch_eq,maj_eq]; rfl
theorem rnd_e (x:Nat→W) (k w:W):x 3+(x 7+(rotr (x 4) 6 ^^^ rotr (x 4) 11 ^^^ rotr (x 4) 25)+((x 4 &&& x 5) ^^^ (~~~x 4 &&& x 6))+k+w)=rndW x k w 4:=by rw [ch_eq]; rfl
theorem shaD0 (xs:List Y) (i:Nat):shaD xs (4*i)=((shaW (padL xs) ((padL xs).length / 64) i) >>> 24).setWidth 8:=shaD4 xs i 0 (by decide)
theorem rwords_ok (xs:List Y) (h:Sh) (G:PM) (hs:SlR G 1 encY h xs) (hl:64≤xs.length):Ct Tryz.prog 141 ([h.val xs.length]:List Value).toArray G [] (fun _ μ' u=>μ'=[.row u 139 1 64 (wa 64 (sched (fun i=>xs.getD i 0) 48))]):=by
 refine Ct.of Tryz.func141 rfl Tryz.ntmps141 rfl fun w0 hs0=>?_
 refine .seq (rq1 rfl rfl (aS rfl rfl (.nil (.code (.seq (rq1 rfl rfl (aS rfl rfl (.nil (.code (.seq (.seq (wk_nilRow 139 1 ?_))))))))))))
 refine rq1 rfl rfl (aS rfl rfl (.nil (.code (.block ?_))))
 refine Wk.lop (α:=Nat×Value×(Nat→W)) (fun gh=>[(3,true,gh.2.1),(4,true,.int .i64 (gh.1:Int))]) (fun gh=>[.row gh.2.1 139 1 gh.1 (wa gh.1 gh.2.2)])
  (fun gh Gl=>(gh.1≤16)∧(gh.2.2=w16 (fun i=>xs.getD i 0) gh.1)) (fun gh=>16-gh.1) (0,.slice none 0 0,fun _=>0#32) [(0,true,_)] []
  (esD rfl (esC rfl (by first|rfl|exact evi (by omega)) (esD rfl eZ)))
  (mS .here rfl mN) ?_ ?_
 ·refine ⟨?_,?_⟩
  ·(try dsimp only)<;>(first|omega|rfl|assumption|(simp; done))
  (try dsimp only)<;>(first|omega|rfl|assumption|(simp; done))
 intro gh N0 Gl0 hN0 hGl0 hF0
 obtain ⟨k,v,y⟩:=gh; dsimp only at hF0 hN0 ⊢
 obtain ⟨hk,ey⟩:=hF0
 have hs:=hs.mono hGl0
 refine .seq (.seq (rq2 rfl rfl (mV rfl rfl (cp rfl .no (.u rfl) (.u rfl) rfl (.nil (.code (.cond rfl (fun c1=>?_) (fun c1=>?_))))))))
 ·have c1k:=c1
  try simp only [qcA,qcB] at c1
  refine .skip (.code (.seq (.block (Wk.draw (mc:=⟨false,false⟩) [0,1,2,3,4,5,6,7,8,9,10,11,12,13,14,15,16,17,18,19,20,21,22,23,24,25,26,27,28,29,30,31,32,33,34,35,36] Fx.mix (by kernel_rfl) ?_))))
  refine mV rfl rfl (mV rfl rfl (mV rfl rfl (arn (((4*k):Nat):Int) rfl .no (.u rfl) (.u rfl) rfl (fun _=>by omega) (fun _=>wrap_i64 (by omega) (by omega)) ?_)))
  refine ih rfl .no Fx.se34 (.u rfl) (.u rfl) (fun _=>by omega) (fun _=>by omega) (fun _=>hs.nn (k:=(4*k)) (by omega)) ?_
  refine ld rfl .no Fx.ag5 (.u rfl) (fun _=>(hs.yat ((4*k)) (by omega) (by omega)).rd) ?_
  refine cu (k:=.u8) rfl .no rfl Fx.cv5_139 (.u rfl) ?_
  refine lw (k:=.u32) rfl .no rfl (.u rfl) (.u rfl) (fun _=>by decide) ?_
  refine mV rfl rfl (mV rfl rfl (arn (((4*k):Nat):Int) rfl .no (.u rfl) (.u rfl) rfl (fun _=>by omega) (fun _=>wrap_i64 (by omega) (by omega)) ?_))
  refine arn ((((4*k)+1):Nat):Int) rfl .no (.u rfl) (.u rfl) rfl (fun _=>by omega) (fun _=>wrap_i64 (by omega) (by omega)) ?_
  refine ih rfl .no Fx.se34 (.u rfl) (.u rfl) (fun _=>by omega) (fun _=>by omega) (fun _=>hs.nn (k:=((4*k)+1)) (by omega)) ?_
  refine ld rfl .no Fx.ag5 (.u rfl) (fun _=>(hs.yat (((4*k)+1)) (by omega) (by omega)).rd) ?_
  refine cu (k:=.u8) rfl .no rfl Fx.cv5_139 (.u rfl) ?_
  refine lw (k:=.u32) rfl .no rfl (.u rfl) (.u rfl) (fun _=>by decide) ?_
  refine bw (k:=.u32) rfl .no rfl (.u rfl) (.u rfl) rfl (mV rfl rfl (mV rfl rfl (arn (((4*k):Nat):Int) rfl .no (.u rfl) (.u rfl) rfl (fun _=>by omega) (fun _=>wrap_i64 (by omega) (by omega)) ?_)))
  refine arn ((((4*k)+2):Nat):Int) rfl .no (.u rfl) (.u rfl) rfl (fun _=>by omega) (fun _=>wrap_i64 (by omega) (by omega)) ?_
  refine ih rfl .no Fx.se34 (.u rfl) (.u rfl) (fun _=>by omega) (fun _=>by omega) (fun _=>hs.nn (k:=((4*k)+2)) (by omega)) ?_
  refine ld rfl .no Fx.ag5 (.u rfl) (fun _=>(hs.yat (((4*k)+2)) (by omega) (by omega)).rd) ?_
  refine cu (k:=.u8) rfl .no rfl Fx.cv5_139 (.u rfl) ?_
  refine lw (k:=.u32) rfl .no rfl (.u rfl) (.u rfl) (fun _=>by decide) ?_
  refine bw (k:=.u32) rfl .no rfl (.u rfl) (.u rfl) rfl (mV rfl rfl (mV rfl rfl (arn (((4*k):Nat):Int) rfl .no (.u rfl) (.u rfl) rfl (fun _=>by omega) (fun _=>wrap_i64 (by omega) (by omega)) ?_)))
  refine arn ((((4*k)+3):Nat):Int) rfl .no (.u rfl) (.u rfl) rfl (fun _=>by omega) (fun _=>wrap_i64 (by omega) (by omega)) ?_
  refine ih rfl .no Fx.se34 (.u rfl) (.u rfl) (fun _=>by omega) (fun _=>by omega) (fun _=>hs.nn (k:=((4*k)+3)) (by omega)) ?_
  refine ld rfl .no Fx.ag5 (.u rfl) (fun _=>(hs.yat (((4*k)+3)) (by omega) (by omega)).rd) ?_
  refine cu (k:=.u8) rfl .no rfl Fx.cv5_139 (.u rfl) ?_
  refine bw (k:=.u32) rfl .no rfl (.u rfl) (.u rfl) rfl ?_
  refine Go.Tan.b1 rfl Fx.se137 Fx.zv139 (.u rfl) rfl rfl (by decide) ?_; intro b46
  refine ap rfl Fx.se137 Fx.zv139 rfl (.u rfl) (.u rfl) tk1 (rfl) (fun _=>⟨_,_,rfl,RdN.own .here⟩) (one1 rfl) (by omega) (by unfold maxLen; omega) ?_; intro v47
  refine aS rfl rfl (.nil (.blk (.code (rq3 rfl rfl (mV rfl rfl (arn (((k+1):Nat):Int) rfl .no (.u rfl) (.u rfl) rfl (fun _=>by omega) (fun _=>wrap_i64 (by omega) (by omega)) ?_))))))
  refine aS rfl rfl (.nil (We.lpo (k+1,v47,upd y k (beW (fun i=>xs.getD i 0) (4*k))) ?_ ?_ ?_ ?_ ?_))
  ·exact (esD rfl (esC rfl (by first|rfl|exact evi (by omega)) (esD rfl eZ)))
  ·exact (mS .here row_snoc mN)
  ·first|omega|(dsimp only; omega)
  ·exact hGl0
  refine ⟨?_,?_⟩
  ·(try dsimp only)<;>(first|omega|rfl|assumption|(simp; done))
  (try dsimp only)<;>(rw [ey]; rfl)
 have c1k:=c1
 try simp only [qcA,qcB] at c1
 refine .exit (.xcode (.xlp (.xblk (.code (.seq (.seq (rq1 rfl rfl (aS rfl rfl (.nil (.code (.block ?_)))))))))))
 obtain rfl:k=16:=by omega
 refine Wk.lop (α:=Nat×Value×(Nat→W)) (fun gh=>[(3,true,gh.2.1),(5,true,.int .i64 ((16+gh.1:Nat):Int))]) (fun gh=>[.row gh.2.1 139 1 (16+gh.1) (wa (16+gh.1) gh.2.2)])
  (fun gh Gl=>(gh.1≤48)∧(gh.2.2=sched (fun i=>xs.getD i 0) gh.1)) (fun gh=>48-gh.1) (0,_,y) [] []
  (esD rfl (esC rfl (by first|rfl|exact evi (by omega)) eZ))
  (mS .here rfl mN) ?_ ?_
 ·refine ⟨?_,?_⟩
  ·(try dsimp only)<;>(first|omega|rfl|assumption|(simp; done))
  (try dsimp only)<;>(rw [ey]; rfl)
 intro gh N1 Gl1 hN1 hGl1 hF1
 obtain ⟨k1,v,y⟩:=gh; dsimp only at hF1 hN1 ⊢
 obtain ⟨hk1,ey⟩:=hF1
 refine .seq (.seq (rq2 rfl rfl (mV rfl rfl (cp rfl .no (.u rfl) (.u rfl) rfl (.nil (.code (.cond rfl (fun c2=>?_) (fun c2=>?_))))))))
 ·have c2k:=c2
  try simp only [qcA,qcB] at c2
  refine .skip (.code (.seq (.block (.seq ?_))))
  refine wk_rv .here (by omega) ?_; intro bRW cRW evRW lcRW; subst evRW
  refine Wk.draw (mc:=⟨false,false⟩) [0,1,2,3,4,6,7,8,9,10,13,14,15,16,17,18,5,11,12,19,20] Fx.mix (by kernel_rfl) ?_
  refine mV rfl rfl (mV rfl rfl (arn (((1+k1):Nat):Int) rfl .no (.u rfl) (.u rfl) rfl (fun _=>by omega) (fun _=>wrap_i64 (by omega) (by omega)) ?_))
  refine ia rfl .no Fx.se137 (.u rfl) (.u rfl) (fun _=>by omega) (fun _=>by omega) ?_
  refine ld rfl .no Fx.ag139 (.u rfl) (fun _=>Rd.row .here (by first|exact map_at1 ((1+k1)) (by omega) (by omega)|exact wa_at1 ((1+k1)) (by omega) (by omega))) ?_
  refine mV rfl rfl (mV rfl rfl (arn (((1+k1):Nat):Int) rfl .no (.u rfl) (.u rfl) rfl (fun _=>by omega) (fun _=>wrap_i64 (by omega) (by omega)) ?_))
  refine ia rfl .no Fx.se137 (.u rfl) (.u rfl) (fun _=>by omega) (fun _=>by omega) ?_
  refine ld rfl .no Fx.ag139 (.u rfl) (fun _=>Rd.row .here (by first|exact map_at1 ((1+k1)) (by omega) (by omega)|exact wa_at1 ((1+k1)) (by omega) (by omega))) ?_
  refine mV rfl rfl (mV rfl rfl (arn (((1+k1):Nat):Int) rfl .no (.u rfl) (.u rfl) rfl (fun _=>by omega) (fun _=>wrap_i64 (by omega) (by omega)) ?_))
  refine ia rfl .no Fx.se137 (.u rfl) (.u rfl) (fun _=>by omega) (fun _=>by omega) ?_
  refine ld rfl .no Fx.ag139 (.u rfl) (fun _=>Rd.row .here (by first|exact map_at1 ((1+k1)) (by omega) (by omega)|exact wa_at1 ((1+k1)) (by omega) (by omega))) ?_
  refine rw' (k:=.u32) rfl .no (.u rfl) (.u rfl) (fun _=>by decide) ?_
  refine kv rfl .no Fx.go142 (Evc rfl (Evc rfl Evn)) (fun _=>rturn_ok _ 7 _ (by decide)) ?_
  refine kv rfl .no Fx.go142 (Evc rfl (Evc rfl Evn)) (fun _=>rturn_ok _ 18 _ (by decide)) ?_
  refine bw (k:=.u32) rfl .no rfl (.u rfl) (.u rfl) rfl (bw (k:=.u32) rfl .no rfl (.u rfl) (.u rfl) rfl (aS rfl rfl (.nil (.code (.seq (Wk.draw (mc:=⟨false,false⟩) [0,1,2,3,4,6,7,8,9,10,13,14,15,16,17,18,5,11,12,19,20] Fx.mix (by kernel_rfl) ?_))))))
  refine mV rfl rfl (mV rfl rfl (arn (((14+k1):Nat):Int) rfl .no (.u rfl) (.u rfl) rfl (fun _=>by omega) (fun _=>wrap_i64 (by omega) (by omega)) ?_))
  refine ia rfl .no Fx.se137 (.u rfl) (.u rfl) (fun _=>by omega) (fun _=>by omega) ?_
  refine ld rfl .no Fx.ag139 (.u rfl) (fun _=>Rd.row .here (by first|exact map_at1 ((14+k1)) (by omega) (by omega)|exact wa_at1 ((14+k1)) (by omega) (by omega))) ?_
  refine mV rfl rfl (mV rfl rfl (arn (((14+k1):Nat):Int) rfl .no (.u rfl) (.u rfl) rfl (fun _=>by omega) (fun _=>wrap_i64 (by omega) (by omega)) ?_))
  refine ia rfl .no Fx.se137 (.u rfl) (.u rfl) (fun _=>by omega) (fun _=>by omega) ?_
  refine ld rfl .no Fx.ag139 (.u rfl) (fun _=>Rd.row .here (by first|exact map_at1 ((14+k1)) (by omega) (by omega)|exact wa_at1 ((14+k1)) (by omega) (by omega))) ?_
  refine mV rfl rfl (mV rfl rfl (arn (((14+k1):Nat):Int) rfl .no (.u rfl) (.u rfl) rfl (fun _=>by omega) (fun _=>wrap_i64 (by omega) (by omega)) ?_))
  refine ia rfl .no Fx.se137 (.u rfl) (.u rfl) (fun _=>by omega) (fun _=>by omega) ?_
  refine ld rfl .no Fx.ag139 (.u rfl) (fun _=>Rd.row .here (by first|exact map_at1 ((14+k1)) (by omega) (by omega)|exact wa_at1 ((14+k1)) (by omega) (by omega))) ?_
  refine rw' (k:=.u32) rfl .no (.u rfl) (.u rfl) (fun _=>by decide) ?_
  refine kv rfl .no Fx.go142 (Evc rfl (Evc rfl Evn)) (fun _=>rturn_ok _ 17 _ (by decide)) ?_
  refine kv rfl .no Fx.go142 (Evc rfl (Evc rfl Evn)) (fun _=>rturn_ok _ 19 _ (by decide)) ?_
  refine bw (k:=.u32) rfl .no rfl (.u rfl) (.u rfl) rfl (bw (k:=.u32) rfl .no rfl (.u rfl) (.u rfl) rfl (aS rfl rfl (.nil (.code (Wk.draw (mc:=⟨false,false⟩) [0,1,2,3,4,5,6,7,8,9,10,11,12,13,14,15,16,17,18] Fx.mix (by kernel_rfl) ?_)))))
  refine mV rfl rfl (mV rfl rfl (mV rfl rfl (arn ((k1:Nat):Int) rfl .no (.u rfl) (.u rfl) rfl (fun _=>by omega) (fun _=>wrap_i64 (by omega) (by omega)) ?_)))
  refine ia rfl .no Fx.se137 (.u rfl) (.u rfl) (fun _=>by omega) (fun _=>by omega) ?_
  refine ld rfl .no Fx.ag139 (.u rfl) (fun _=>Rd.row .here (by first|exact map_at1 (k1) (by omega) (by omega)|exact wa_at1 (k1) (by omega) (by omega))) ?_
  refine mV rfl rfl (bw (k:=.u32) rfl .no rfl (.u rfl) (.u rfl) rfl (mV rfl rfl (mV rfl rfl (arn (((9+k1):Nat):Int) rfl .no (.u rfl) (.u rfl) rfl (fun _=>by omega) (fun _=>wrap_i64 (by omega) (by omega)) ?_))))
  refine ia rfl .no Fx.se137 (.u rfl) (.u rfl) (fun _=>by omega) (fun _=>by omega) ?_
  refine ld rfl .no Fx.ag139 (.u rfl) (fun _=>Rd.row .here (by first|exact map_at1 ((9+k1)) (by omega) (by omega)|exact wa_at1 ((9+k1)) (by omega) (by omega))) ?_
  refine bw (k:=.u32) rfl .no rfl (.u rfl) (.u rfl) rfl (mV rfl rfl (bw (k:=.u32) rfl .no rfl (.u rfl) (.u rfl) rfl ?_))
  refine Go.Tan.b1 rfl Fx.se137 Fx.zv139 (.u rfl) rfl rfl (by decide) ?_; intro b108
  refine ap rfl Fx.se137 Fx.zv139 rfl (.u rfl) (.u rfl) tk1 (rfl) (fun _=>⟨_,_,rfl,RdN.own .here⟩) (one1 rfl) (by omega) (by unfold maxLen; omega) ?_; intro v109
  refine aS rfl rfl (.nil (.blk (.code (rq3 rfl rfl (mV rfl rfl (arn (((((16+k1:Nat))+1):Nat):Int) rfl .no (.u rfl) (.u rfl) rfl (fun _=>by omega) (fun _=>wrap_i64 (by omega) (by omega)) ?_))))))
  refine aS rfl rfl (.nil (We.lpo (k1+1,v109,upd y (16+k1) (y k1+s0W (y (1+k1))+y (9+k1)+s1W (y (14+k1)))) ?_ ?_ ?_ ?_ ?_))
  ·exact (esD rfl (esC rfl (by first|rfl|exact evi (by omega)) eZ))
  ·exact (mS .here row_snoc mN)
  ·first|omega|(dsimp only; omega)
  ·exact hGl1
  refine ⟨?_,?_⟩
  ·(try dsimp only)<;>(first|omega|rfl|assumption|(simp; done))
  (try dsimp only)<;>(rw [ey,sched]; exact congrArg (upd _ _) (add_mid ..))
 have c2k:=c2
 try simp only [qcA,qcB] at c2
 refine .exit (.xcode (.xlp (.xblk (.code (.seq (rq2 rfl rfl (mV rfl rfl (aS rfl rfl (.nil (.code (.ret (We.fin Tryz.results141 (.tmp rfl .nil) (mS .here rfl mN) ?_))))))))))))
 obtain rfl:k1=48:=by omega
 rw [ey]; rfl
theorem rnd_b {x y:Nat→W} {k:Nat} {zs:List Value} (h:zs.length=8) (a e:W) (ha:a=rndW x (kW k) (y k) 0) (he:e=rndW x (kW k) (y k) 4):bFold zs [(0,1),(1,1),(2,1),(3,1),(4,1),(5,1),(6,1),(7,1)] [[U a],[U (x 0)],[U (x 1)],[U (x 2)],[U e],[U (x 4)],[U (x 5)],[U (x 6)]]=wa 8 (rndW x (kW k) (y k)):=by
 subst ha; subst he
 match zs,h with
 | [a,b,c,d,e,f,g,h],_=>rfl
set_option maxHeartbeats 1000000 in
theorem rblock_ok (s:Nat→W) (xs:List Y) (h:Sh) (G:PM) (hs:SlR G 1 encY h xs) (hR:RdNP G 0 0 (wa 64 kW)) (hl:64≤xs.length):Ct Tryz.prog 121 ([.agg (wa 8 s).toArray,h.val xs.length]:List Value).toArray G [] (fun _ μ' u=>μ'=[]∧u=.agg (wa 8 (shaC s (fun i=>xs.getD i 0))).toArray):=by
 refine Ct.of Tryz.func121 rfl Tryz.ntmps121 rfl fun w0 hs0=>?_
 refine .seq (rq2 rfl rfl ?_)
 refine bx rfl (.u rfl) rfl ?_; intro b2
 refine al rfl Fx.zr166 ?_; intro b4
 refine .nil (.code (.seq (rq3 rfl rfl (mV rfl rfl (kc rfl Fx.go141 (Evc rfl Evn) (rwords_ok xs h _ hs hl) ?_)))))
 rintro v12 G12 μ12 hG12 rfl
 have hR:=hR.mono hG12
 refine aS rfl rfl (.nil (.code (.seq (rq3 rfl rfl (lA rfl .no Fx.ag166 (.u rfl) (fun _=>RdN.own tk2) (fun _=>(by first|exact qE|exact qL|rfl)) ?_)))))
 refine al rfl Fx.zr166 ?_; intro b6
 refine sw rfl (.u rfl) (.u rfl) rfl Fx.sz166 .here (by first|exact qE|exact qL|rfl) (by first|exact ba_one _ _|exact wa_one _ _|exact one_V _|decide|exact one_app (wa_one _ _) (by simp [Value.oneCell'])) ?_
 refine .nil (.code (.seq (.seq ?_)))
 refine wk_rv tk1 (by omega) ?_; intro bRW cRW evRW lcRW; subst evRW
 refine rq1 rfl rfl (aS rfl rfl (.nil (.code (.block ?_))))
 refine Wk.lop (α:=Nat×(Nat→W)) (fun gh=>[(7,true,.int .i64 (gh.1:Int))]) (fun gh=>[.blk b6 (cl (wa 8 gh.2) 166)])
  (fun gh Gl=>(gh.1≤64)∧(gh.2=rnds (sched (fun i=>xs.getD i 0) 48) s gh.1)) (fun gh=>64-gh.1) (0,s) [(2,true,_),(4,true,_),(5,true,_),(6,true,_)] [_,_,_]
  (esC rfl (by first|rfl|exact evi (by omega)) (esD rfl (esD rfl (esD rfl (esD rfl eZ)))))
  (mS .here rfl (mS .here rfl (mS .here rfl (mS .here rfl mN)))) ?_ ?_
 ·refine ⟨?_,?_⟩
  ·(try dsimp only)<;>(first|omega|rfl|assumption|(simp; done))
  (try dsimp only)<;>(first|omega|rfl|assumption|(simp; done))
 intro gh N0 Gl0 hN0 hGl0 hF0
 obtain ⟨k,x⟩:=gh; dsimp only at hF0 hN0 ⊢
 obtain ⟨hk,ex⟩:=hF0
 have hR:=hR.mono hGl0
 refine .seq (.seq (rq2 rfl rfl (mV rfl rfl (cp rfl .no (.u rfl) (.u rfl) rfl (.nil (.code (.cond rfl (fun c1=>?_) (fun c1=>?_))))))))
 ·have c1k:=c1
  try simp only [qcA,qcB] at c1
  refine .skip (.code (.seq (.block (.seq (Wk.draw (mc:=⟨false,false⟩) [0,1,2,3,5,6,9,10,14,15,16,17,18,19,20,21,22,23,24,25,27,28,29,31,32,33,34,4,7,8,11,12,13,26,30,35,36] Fx.mix (by kernel_rfl) ?_)))))
  refine iA rfl .no Fx.ar166 (.u rfl) (.u rfl) (fun _=>by decide) (fun _=>by decide) ?_
  refine ld rfl .no Fx.ag139 (.u rfl) (fun _=>Rd.own .here (by first|exact wa_at1 (7) (by omega) (by omega)|exact ba_at1 (7) (by omega) (by omega)|exact wap_at1 (7) (by omega) (by omega)|rfl)) ?_
  refine iA rfl .no Fx.ar166 (.u rfl) (.u rfl) (fun _=>by decide) (fun _=>by decide) ?_
  refine ld rfl .no Fx.ag139 (.u rfl) (fun _=>Rd.own .here (by first|exact wa_at1 (4) (by omega) (by omega)|exact ba_at1 (4) (by omega) (by omega)|exact wap_at1 (4) (by omega) (by omega)|rfl)) ?_
  refine iA rfl .no Fx.ar166 (.u rfl) (.u rfl) (fun _=>by decide) (fun _=>by decide) ?_
  refine ld rfl .no Fx.ag139 (.u rfl) (fun _=>Rd.own .here (by first|exact wa_at1 (4) (by omega) (by omega)|exact ba_at1 (4) (by omega) (by omega)|exact wap_at1 (4) (by omega) (by omega)|rfl)) ?_
  refine iA rfl .no Fx.ar166 (.u rfl) (.u rfl) (fun _=>by decide) (fun _=>by decide) ?_
  refine ld rfl .no Fx.ag139 (.u rfl) (fun _=>Rd.own .here (by first|exact wa_at1 (4) (by omega) (by omega)|exact ba_at1 (4) (by omega) (by omega)|exact wap_at1 (4) (by omega) (by omega)|rfl)) ?_
  refine iA rfl .no Fx.ar166 (.u rfl) (.u rfl) (fun _=>by decide) (fun _=>by decide) ?_
  refine ld rfl .no Fx.ag139 (.u rfl) (fun _=>Rd.own .here (by first|exact wa_at1 (4) (by omega) (by omega)|exact ba_at1 (4) (by omega) (by omega)|exact wap_at1 (4) (by omega) (by omega)|rfl)) ?_
  refine iA rfl .no Fx.ar166 (.u rfl) (.u rfl) (fun _=>by decide) (fun _=>by decide) ?_
  refine ld rfl .no Fx.ag139 (.u rfl) (fun _=>Rd.own .here (by first|exact wa_at1 (5) (by omega) (by omega)|exact ba_at1 (5) (by omega) (by omega)|exact wap_at1 (5) (by omega) (by omega)|rfl)) ?_
  refine bw (k:=.u32) rfl .no rfl (.u rfl) (.u rfl) rfl (iA rfl .no Fx.ar166 (.u rfl) (.u rfl) (fun _=>by decide) (fun _=>by decide) ?_)
  refine ld rfl .no Fx.ag139 (.u rfl) (fun _=>Rd.own .here (by first|exact wa_at1 (4) (by omega) (by omega)|exact ba_at1 (4) (by omega) (by omega)|exact wap_at1 (4) (by omega) (by omega)|rfl)) ?_
  refine xw (k:=.u32) rfl .no rfl (.u rfl) ?_
  refine iA rfl .no Fx.ar166 (.u rfl) (.u rfl) (fun _=>by decide) (fun _=>by decide) ?_
  refine ld rfl .no Fx.ag139 (.u rfl) (fun _=>Rd.own .here (by first|exact wa_at1 (6) (by omega) (by omega)|exact ba_at1 (6) (by omega) (by omega)|exact wap_at1 (6) (by omega) (by omega)|rfl)) ?_
  refine bw (k:=.u32) rfl .no rfl (.u rfl) (.u rfl) rfl (bw (k:=.u32) rfl .no rfl (.u rfl) (.u rfl) rfl (mV rfl rfl (iA rfl .no Fx.ar192 (.u rfl) (.u rfl) (fun _=>by omega) (fun _=>by omega) ?_)))
  refine ld rfl .no Fx.ag139 (.u rfl) (fun _=>(hR.wat (k) (by omega) (by omega)).rd) ?_
  refine mV rfl rfl (mV rfl rfl (ia rfl .no Fx.se137 (.u rfl) (.u rfl) (fun _=>by omega) (fun _=>by omega) ?_))
  refine ld rfl .no Fx.ag139 (.u rfl) (fun _=>Rd.row tk1 (by first|exact map_at1 (k) (by omega) (by omega)|exact wa_at1 (k) (by omega) (by omega))) ?_
  refine kv rfl .no Fx.go142 (Evc rfl (Evc rfl Evn)) (fun _=>rturn_ok _ 6 _ (by decide)) ?_
  refine kv rfl .no Fx.go142 (Evc rfl (Evc rfl Evn)) (fun _=>rturn_ok _ 11 _ (by decide)) ?_
  refine bw (k:=.u32) rfl .no rfl (.u rfl) (.u rfl) rfl (kv rfl .no Fx.go142 (Evc rfl (Evc rfl Evn)) (fun _=>rturn_ok _ 25 _ (by decide)) ?_)
  refine bw (k:=.u32) rfl .no rfl (.u rfl) (.u rfl) rfl (bw (k:=.u32) rfl .no rfl (.u rfl) (.u rfl) rfl (bw (k:=.u32) rfl .no rfl (.u rfl) (.u rfl) rfl (bw (k:=.u32) rfl .no rfl (.u rfl) (.u rfl) rfl (bw (k:=.u32) rfl .no rfl (.u rfl) (.u rfl) rfl (aS rfl rfl (.nil (.code (.seq (Wk.draw (mc:=⟨false,false⟩) [0,1,3,4,7,8,11,12,13,14,15,16,17,18,19,20,21,22,23,24,25,26,27,2,5,6,9,10,28,29] Fx.mix (by kernel_rfl) ?_)))))))))
  refine iA rfl .no Fx.ar166 (.u rfl) (.u rfl) (fun _=>by decide) (fun _=>by decide) ?_
  refine ld rfl .no Fx.ag139 (.u rfl) (fun _=>Rd.own .here (by first|exact wa_at1 (0) (by omega) (by omega)|exact ba_at1 (0) (by omega) (by omega)|exact wap_at1 (0) (by omega) (by omega)|rfl)) ?_
  refine iA rfl .no Fx.ar166 (.u rfl) (.u rfl) (fun _=>by decide) (fun _=>by decide) ?_
  refine ld rfl .no Fx.ag139 (.u rfl) (fun _=>Rd.own .here (by first|exact wa_at1 (0) (by omega) (by omega)|exact ba_at1 (0) (by omega) (by omega)|exact wap_at1 (0) (by omega) (by omega)|rfl)) ?_
  refine iA rfl .no Fx.ar166 (.u rfl) (.u rfl) (fun _=>by decide) (fun _=>by decide) ?_
  refine ld rfl .no Fx.ag139 (.u rfl) (fun _=>Rd.own .here (by first|exact wa_at1 (0) (by omega) (by omega)|exact ba_at1 (0) (by omega) (by omega)|exact wap_at1 (0) (by omega) (by omega)|rfl)) ?_
  refine iA rfl .no Fx.ar166 (.u rfl) (.u rfl) (fun _=>by decide) (fun _=>by decide) ?_
  refine ld rfl .no Fx.ag139 (.u rfl) (fun _=>Rd.own .here (by first|exact wa_at1 (0) (by omega) (by omega)|exact ba_at1 (0) (by omega) (by omega)|exact wap_at1 (0) (by omega) (by omega)|rfl)) ?_
  refine iA rfl .no Fx.ar166 (.u rfl) (.u rfl) (fun _=>by decide) (fun _=>by decide) ?_
  refine ld rfl .no Fx.ag139 (.u rfl) (fun _=>Rd.own .here (by first|exact wa_at1 (1) (by omega) (by omega)|exact ba_at1 (1) (by omega) (by omega)|exact wap_at1 (1) (by omega) (by omega)|rfl)) ?_
  refine bw (k:=.u32) rfl .no rfl (.u rfl) (.u rfl) rfl (iA rfl .no Fx.ar166 (.u rfl) (.u rfl) (fun _=>by decide) (fun _=>by decide) ?_)
  refine ld rfl .no Fx.ag139 (.u rfl) (fun _=>Rd.own .here (by first|exact wa_at1 (0) (by omega) (by omega)|exact ba_at1 (0) (by omega) (by omega)|exact wap_at1 (0) (by omega) (by omega)|rfl)) ?_
  refine iA rfl .no Fx.ar166 (.u rfl) (.u rfl) (fun _=>by decide) (fun _=>by decide) ?_
  refine ld rfl .no Fx.ag139 (.u rfl) (fun _=>Rd.own .here (by first|exact wa_at1 (2) (by omega) (by omega)|exact ba_at1 (2) (by omega) (by omega)|exact wap_at1 (2) (by omega) (by omega)|rfl)) ?_
  refine bw (k:=.u32) rfl .no rfl (.u rfl) (.u rfl) rfl (bw (k:=.u32) rfl .no rfl (.u rfl) (.u rfl) rfl (iA rfl .no Fx.ar166 (.u rfl) (.u rfl) (fun _=>by decide) (fun _=>by decide) ?_))
  refine ld rfl .no Fx.ag139 (.u rfl) (fun _=>Rd.own .here (by first|exact wa_at1 (1) (by omega) (by omega)|exact ba_at1 (1) (by omega) (by omega)|exact wap_at1 (1) (by omega) (by omega)|rfl)) ?_
  refine iA rfl .no Fx.ar166 (.u rfl) (.u rfl) (fun _=>by decide) (fun _=>by decide) ?_
  refine ld rfl .no Fx.ag139 (.u rfl) (fun _=>Rd.own .here (by first|exact wa_at1 (2) (by omega) (by omega)|exact ba_at1 (2) (by omega) (by omega)|exact wap_at1 (2) (by omega) (by omega)|rfl)) ?_
  refine bw (k:=.u32) rfl .no rfl (.u rfl) (.u rfl) rfl (bw (k:=.u32) rfl .no rfl (.u rfl) (.u rfl) rfl (kv rfl .no Fx.go142 (Evc rfl (Evc rfl Evn)) (fun _=>rturn_ok _ 2 _ (by decide)) ?_))
  refine kv rfl .no Fx.go142 (Evc rfl (Evc rfl Evn)) (fun _=>rturn_ok _ 13 _ (by decide)) ?_
  refine bw (k:=.u32) rfl .no rfl (.u rfl) (.u rfl) rfl (kv rfl .no Fx.go142 (Evc rfl (Evc rfl Evn)) (fun _=>rturn_ok _ 22 _ (by decide)) ?_)
  refine bw (k:=.u32) rfl .no rfl (.u rfl) (.u rfl) rfl (bw (k:=.u32) rfl .no rfl (.u rfl) (.u rfl) rfl (aS rfl rfl (.nil (.code (Wk.rg [0,1,2,3,4,5,6,7,8,9,10,11,12,13,14,15,16,17,18,19,20] rfl rfl (mV rfl rfl (mV rfl rfl (bw (k:=.u32) rfl .no rfl (.u rfl) (.u rfl) rfl (iA rfl .no Fx.ar166 (.u rfl) (.u rfl) (fun _=>by decide) (fun _=>by decide) ?_)))))))))
  refine ld rfl .no Fx.ag139 (.u rfl) (fun _=>Rd.own .here (by first|exact wa_at1 (0) (by omega) (by omega)|exact ba_at1 (0) (by omega) (by omega)|exact wap_at1 (0) (by omega) (by omega)|rfl)) ?_
  refine iA rfl .no Fx.ar166 (.u rfl) (.u rfl) (fun _=>by decide) (fun _=>by decide) ?_
  refine ld rfl .no Fx.ag139 (.u rfl) (fun _=>Rd.own .here (by first|exact wa_at1 (1) (by omega) (by omega)|exact ba_at1 (1) (by omega) (by omega)|exact wap_at1 (1) (by omega) (by omega)|rfl)) ?_
  refine iA rfl .no Fx.ar166 (.u rfl) (.u rfl) (fun _=>by decide) (fun _=>by decide) ?_
  refine ld rfl .no Fx.ag139 (.u rfl) (fun _=>Rd.own .here (by first|exact wa_at1 (2) (by omega) (by omega)|exact ba_at1 (2) (by omega) (by omega)|exact wap_at1 (2) (by omega) (by omega)|rfl)) ?_
  refine iA rfl .no Fx.ar166 (.u rfl) (.u rfl) (fun _=>by decide) (fun _=>by decide) ?_
  refine ld rfl .no Fx.ag139 (.u rfl) (fun _=>Rd.own .here (by first|exact wa_at1 (3) (by omega) (by omega)|exact ba_at1 (3) (by omega) (by omega)|exact wap_at1 (3) (by omega) (by omega)|rfl)) ?_
  refine mV rfl rfl (bw (k:=.u32) rfl .no rfl (.u rfl) (.u rfl) rfl (iA rfl .no Fx.ar166 (.u rfl) (.u rfl) (fun _=>by decide) (fun _=>by decide) ?_))
  refine ld rfl .no Fx.ag139 (.u rfl) (fun _=>Rd.own .here (by first|exact wa_at1 (4) (by omega) (by omega)|exact ba_at1 (4) (by omega) (by omega)|exact wap_at1 (4) (by omega) (by omega)|rfl)) ?_
  refine iA rfl .no Fx.ar166 (.u rfl) (.u rfl) (fun _=>by decide) (fun _=>by decide) ?_
  refine ld rfl .no Fx.ag139 (.u rfl) (fun _=>Rd.own .here (by first|exact wa_at1 (5) (by omega) (by omega)|exact ba_at1 (5) (by omega) (by omega)|exact wap_at1 (5) (by omega) (by omega)|rfl)) ?_
  refine iA rfl .no Fx.ar166 (.u rfl) (.u rfl) (fun _=>by decide) (fun _=>by decide) ?_
  refine ld rfl .no Fx.ag139 (.u rfl) (fun _=>Rd.own .here (by first|exact wa_at1 (6) (by omega) (by omega)|exact ba_at1 (6) (by omega) (by omega)|exact wap_at1 (6) (by omega) (by omega)|rfl)) ?_
  refine bCe (wa 8 (rndW x (kW k) (sched (fun i=>xs.getD i 0) 48 k))) rfl .no Fx.bp166_0_1_2_3_4_5_6_7 (.cons (.u rfl) rfl (.cons (.u rfl) rfl (.cons (.u rfl) rfl (.cons (.u rfl) rfl (.cons (.u rfl) rfl (.cons (.u rfl) rfl (.cons (.u rfl) rfl (.cons (.u rfl) rfl .nil)))))))) rfl (rnd_b (y:=sched (fun i=>xs.getD i 0) 48) rfl _ _ (rnd_a x _ _) (rnd_e x _ _)) ?_
  refine sw rfl (.u rfl) (.u rfl) rfl Fx.sz166 .here (by first|exact qE|exact qL|rfl) (by first|exact ba_one _ _|exact wa_one _ _|exact one_V _|decide|exact one_app (wa_one _ _) (by simp [Value.oneCell'])) ?_
  refine .nil (.blk (.code (rq3 rfl rfl (mV rfl rfl (arn (((k+1):Nat):Int) rfl .no (.u rfl) (.u rfl) rfl (fun _=>by omega) (fun _=>wrap_i64 (by omega) (by omega)) ?_)))))
  refine aS rfl rfl (.nil (We.lpo (k+1,rndW x (kW k) (sched (fun i=>xs.getD i 0) 48 k)) ?_ ?_ ?_ ?_ ?_))
  ·exact (esC rfl (by first|rfl|exact evi (by omega)) (esD rfl (esD rfl (esD rfl (esD rfl eZ)))))
  ·exact (mS .here rfl (mS .here rfl (mS .here rfl (mS .here rfl mN))))
  ·first|omega|(dsimp only; omega)
  ·exact hGl0
  refine ⟨?_,?_⟩
  ·(try dsimp only)<;>(first|omega|rfl|assumption|(simp; done))
  (try dsimp only)<;>(rw [ex]; rfl)
 have c1k:=c1
 try simp only [qcA,qcB] at c1
 refine .exit (.xcode (.xlp (.xblk (.code (.seq (.seq (rq1 rfl rfl (aS rfl rfl (.nil (.code (.block ?_)))))))))))
 obtain rfl:k=64:=by omega
 refine Wk.lop (α:=Nat×(Nat→W)) (fun gh=>[(10,true,.int .i64 (gh.1:Int))]) (fun gh=>[.blk b6 (cl (wa 8 gh.2) 166)])
  (fun gh Gl=>(gh.1≤8)∧(gh.2=fun i=>if i<gh.1 then s i+x i else x i)) (fun gh=>8-gh.1) (0,x) [(2,true,_),(4,true,_),(6,true,_)] [_,_,_]
  (esC rfl (by first|rfl|exact evi (by omega)) (esD rfl (esD rfl (esD rfl eZ))))
  (mS .here rfl (mS .here rfl (mS .here rfl (mS .here rfl mN)))) ?_ ?_
 ·refine ⟨?_,?_⟩
  ·(try dsimp only)<;>(first|omega|rfl|assumption|(simp; done))
  (try dsimp only)<;>(funext i; simp)
 intro gh N1 Gl1 hN1 hGl1 hF1
 obtain ⟨q,z⟩:=gh; dsimp only at hF1 hN1 ⊢
 obtain ⟨hq,ez⟩:=hF1
 refine .seq (.seq (rq2 rfl rfl (mV rfl rfl (cp rfl .no (.u rfl) (.u rfl) rfl (.nil (.code (.cond rfl (fun c2=>?_) (fun c2=>?_))))))))
 ·have c2k:=c2
  try simp only [qcA,qcB] at c2
  refine .skip (.code (.seq (.block (Wk.draw (mc:=⟨false,false⟩) [0,1,2,3,4,5,6,7,8,9] Fx.mix (by kernel_rfl) ?_))))
  refine mV rfl rfl (mV rfl rfl (iA rfl .no Fx.ar166 (.u rfl) (.u rfl) (fun _=>by omega) (fun _=>by omega) ?_))
  refine ld rfl .no Fx.ag139 (.u rfl) (fun _=>Rd.own .here (by first|exact wa_at1 (q) (by omega) (by omega)|exact ba_at1 (q) (by omega) (by omega)|exact wap_at1 (q) (by omega) (by omega)|rfl)) ?_
  refine mV rfl rfl (iA rfl .no Fx.ar166 (.u rfl) (.u rfl) (fun _=>by omega) (fun _=>by omega) ?_)
  refine ld rfl .no Fx.ag139 (.u rfl) (fun _=>Rd.own tk3 (by first|exact wa_at1 (q) (by omega) (by omega)|exact ba_at1 (q) (by omega) (by omega)|exact wap_at1 (q) (by omega) (by omega)|rfl)) ?_
  refine bw (k:=.u32) rfl .no rfl (.u rfl) (.u rfl) rfl (iA rfl .no Fx.ar166 (.u rfl) (.u rfl) (fun _=>by omega) (fun _=>by omega) ?_)
  refine s1 rfl (.u rfl) (.u rfl) rfl Fx.sz139 .here (by first|decide|(simp only [wa_len,ba_len,qlA]; omega)) (by first|exact wa_set1 (q) (by omega)|exact ba_set1 (q) (by omega)|exact wap_set1 (q) (by omega) (by omega)|rfl) ?_
  refine .nil (.blk (.code (rq3 rfl rfl (mV rfl rfl (arn (((q+1):Nat):Int) rfl .no (.u rfl) (.u rfl) rfl (fun _=>by omega) (fun _=>wrap_i64 (by omega) (by omega)) ?_)))))
  refine aS rfl rfl (.nil (We.lpo (q+1,upd z q (z q+s q)) ?_ ?_ ?_ ?_ ?_))
  ·exact (esC rfl (by first|rfl|exact evi (by omega)) (esD rfl (esD rfl (esD rfl eZ))))
  ·exact (mS .here rfl (mS .here rfl (mS .here rfl (mS .here rfl mN))))
  ·first|omega|(dsimp only; omega)
  ·exact hGl1
  refine ⟨?_,?_⟩
  ·(try dsimp only)<;>(first|omega|rfl|assumption|(simp; done))
  (try dsimp only)<;>(rw [ez]; exact upd_if2)
 have c2k:=c2
 try simp only [qcA,qcB] at c2
 refine .exit (.xcode (.xlp (.xblk (.code (.seq (rq2 rfl rfl (lA rfl .no Fx.ag166 (.u rfl) (fun _=>RdN.own .here) (fun _=>(by first|exact qE|exact qL|rfl)) ?_)))))))
 refine sw rfl (.u rfl) (.u rfl) rfl Fx.sz166 tk2 (by first|exact qE|exact qL|rfl) (by first|exact ba_one _ _|exact wa_one _ _|exact one_V _|decide|exact one_app (wa_one _ _) (by simp [Value.oneCell'])) ?_
 refine .nil (.code (.ret (We.fin0 Tryz.results121 (.cell rfl (fun w hw=>run_loadVarN Fx.ag166 (RdN.own .here) ((by first|exact qE|exact qL|rfl)) hw) .nil) ?_)))
 obtain rfl:q=8:=by omega
 exact ⟨rfl,by rw [ez,ex,wa_congr (f:=fun i=>if i<8 then s i+rnds (sched (fun i=>xs.getD i 0) 48) s 64 i else rnds (sched (fun i=>xs.getD i 0) 48) s 64 i) (f':=shaC s (fun i=>xs.getD i 0)) (fun i hi=>by rw [if_pos hi]; rfl)]; rfl⟩
theorem padded_ok (xs:List Y) (h:Sh) (G:PM) (hs:SlR G 1 encY h xs) (hl:xs.length≤1000000000000):Ct Tryz.prog 120 ([h.val xs.length]:List Value).toArray G [] (PR 5 (fun L=>L=padL xs)):=by
 refine Ct.of Tryz.func120 rfl Tryz.ntmps120 rfl fun w0 hs0=>?_
 have hz:zeros xs.length=(119-xs.length%64)%64:=rfl
 refine .seq (rq1 rfl rfl (aS rfl rfl (.nil (.code (.seq (rq4 rfl rfl ?_))))))
 refine b0B rfl Fx.se34 ?_; intro b6
 refine mV rfl rfl (apY0 rfl Fx.se34 Fx.zv5 (.u rfl) (.u rfl) .here hs.sc (by (try simp only [qlA,yl_len]); omega) ?_)
 intro v8 L8 _ ov8 eL8
 have lL8:L8.length=xs.length:=by rw [eL8]
 refine aS rfl rfl (.nil (.code (.seq (rq4 rfl rfl (mV rfl rfl ?_)))))
 refine Go.Tan.b1 rfl Fx.se34 Fx.zv5 (.u rfl) rfl rfl (by decide) ?_; intro b10
 refine apY rfl Fx.se34 Fx.zv5 (.u rfl) (.u rfl) tk1 (Sc.one (y:=128#8) .here) (by show _+1≤_; omega) ?_
 intro v11 L11 ov11 eL11
 have lL11:L11.length=L8.length+1:=by rw [eL11,List.length_append]; first|rfl | simp [yl_len]
 refine aS rfl rfl (.nil (.code (.seq (.block ?_))))
 refine Wk.lop (α:=Nat×Value×List Y) (fun gh=>[(3,true,gh.2.1)]) (fun gh=>[rB gh.2.1 5 gh.2.2])
  (fun gh Gl=>(gh.1≤zeros xs.length)∧(gh.2.2=xs++128#8 :: List.replicate gh.1 0#8)) (fun gh=>zeros xs.length-gh.1) (0,_,_) [(0,true,_)] [_]
  (esD rfl (esD rfl eZ))
  (mS .here rfl (mS .here rfl mN)) ?_ ?_
 ·refine ⟨?_,?_⟩
  ·(try dsimp only)<;>(exact Nat.zero_le _)
  (try dsimp only)<;>(rw [eL11,eL8]; rfl)
 intro gh N0 Gl0 hN0 hGl0 hF0
 obtain ⟨j,v,L⟩:=gh; dsimp only at hF0 hN0 ⊢
 obtain ⟨hj,eL⟩:=hF0
 have lL:L.length=xs.length+1+j:=by rw [eL]; simp; omega
 refine .seq (.seq (rq4 rfl rfl (mV rfl rfl (lr rfl .no Fx.sn34 (.u rfl) .here ?_))))
 refine rmn (L.length) (64) rfl .no (.u rfl) (.u rfl) (fun _=>by omega) (fun _=>by omega) (fun _=>by first|decide|omega) ?_
 refine cp rfl .no (.u rfl) (.u rfl) rfl (.nil (.code (.cond rfl (fun c1=>?_) (fun c1=>?_))))
 ·have c1k:=c1
  try simp only [qcA,qcB] at c1
  refine .skip (.code (.block (rq4 rfl rfl (mV rfl rfl ?_))))
  refine Go.Tan.b1 rfl Fx.se34 Fx.zv5 (.u rfl) rfl rfl (by decide) ?_; intro b17
  refine apY rfl Fx.se34 Fx.zv5 (.u rfl) (.u rfl) tk1 (Sc.one (y:=0#8) .here) (by show _+1≤_; omega) ?_
  intro v18 L18 ov18 eL18
  have lL18:L18.length=L.length+1:=by rw [eL18,List.length_append]; first|rfl | simp [yl_len]
  refine aS rfl rfl (.nil (.blk (We.lpo (j+1,v18,L18) ?_ ?_ ?_ ?_ ?_)))
  ·exact (esD rfl (esD rfl eZ))
  ·exact (mS .here rfl (mS tk1 rfl mN))
  ·(try dsimp only); omega
  ·exact hGl0
  refine ⟨?_,?_⟩
  ·(try dsimp only)<;>(omega)
  (try dsimp only)<;>(rw [eL18,eL,List.append_assoc,List.cons_append,←List.replicate_succ'])
 have c1k:=c1
 try simp only [qcA,qcB] at c1
 refine .exit (.xcode (.xlp (.xblk (.code (.seq (rq5 rfl rfl (mV rfl rfl (ln rfl .no Fx.sn34 (.u rfl) (ci rfl .no rfl Fx.cv3_24 (.u rfl) ?_)))))))))
 refine bw (k:=.u64) (b:=8#64) rfl .no rfl (.u rfl) (.u rfl) rfl (aS rfl rfl (.nil (.code (.seq (.seq (rq1 rfl rfl (aS rfl rfl (.nil (.code (.block ?_))))))))))
 refine Wk.lop (α:=Nat×Value×List Y) (fun gh=>[(3,true,gh.2.1),(5,true,.int .i64 (7-(gh.1:Int)))]) (fun gh=>[rB gh.2.1 5 gh.2.2])
  (fun gh Gl=>(gh.1≤8)∧(gh.2.2=xs++(128#8 :: List.replicate (zeros xs.length) 0#8++lenB xs.length gh.1))) (fun gh=>8-gh.1) (0,_,_) [(4,true,_)] [_]
  (esD rfl (esC rfl (by first|rfl|exact evi (by omega)) (esD rfl eZ)))
  (mS .here rfl (mS .here rfl mN)) ?_ ?_
 ·refine ⟨?_,?_⟩
  ·(try dsimp only)<;>(first|omega|rfl|assumption|(simp; done))
  (try dsimp only)<;>(rw [eL,show j=zeros xs.length by omega]; simp [lenB])
 intro gh N1 Gl1 hN1 hGl1 hF1
 obtain ⟨q,v,L⟩:=gh; dsimp only at hF1 hN1 ⊢
 obtain ⟨hq,eL⟩:=hF1
 have lL:L.length=xs.length+zeros xs.length+1+q:=by rw [eL]; simp [lenB_len]; omega
 refine .seq (.seq (rq2 rfl rfl (mV rfl rfl (cp rfl .no (.u rfl) (.u rfl) rfl (.nil (.code (.cond rfl (fun c2=>?_) (fun c2=>?_))))))))
 ·have c2k:=c2
  try simp only [qcA,qcB] at c2
  refine .skip (.code (.seq (.block (rq9 rfl rfl (mV rfl rfl (mV rfl rfl (mV rfl rfl (arn (((8*(7-q)):Nat):Int) rfl .no (.u rfl) (.u rfl) rfl (fun _=>by omega) (fun _=>wrap_i64 (by omega) (by omega)) ?_))))))))
  refine rw' (k:=.u64) rfl .no (.u rfl) (.u rfl) (fun _=>by omega) ?_
  refine cu (k:=.u64) rfl .no rfl Fx.cv24_5 (.u rfl) ?_
  refine Go.Tan.b1 rfl Fx.se34 Fx.zv5 (.u rfl) rfl rfl (by decide) ?_; intro b33
  refine apY rfl Fx.se34 Fx.zv5 (.u rfl) (.u rfl) tk1 (Sc.one .here) (by show _+1≤_; omega) ?_
  intro v34 L34 ov34 eL34
  have lL34:L34.length=L.length+1:=by rw [eL34,List.length_append]; first|rfl | simp [yl_len]
  refine aS rfl rfl (.nil (.blk (.code (rq3 rfl rfl (mV rfl rfl (ar rfl .no (.u rfl) (.u rfl) rfl (fun _=>wrap_i64 (by omega) (by omega)) ?_))))))
  refine aS rfl rfl (.nil (We.lpo (q+1,v34,L34) ?_ ?_ ?_ ?_ ?_))
  ·exact (esD rfl (esC rfl (by first|rfl|exact evi (by omega)) (esD rfl eZ)))
  ·exact (mS .here rfl (mS tk1 rfl mN))
  ·first|omega|(dsimp only; omega)
  ·exact hGl1
  refine ⟨?_,?_⟩
  ·(try dsimp only)<;>(first|omega|rfl|assumption|(simp; done))
  (try dsimp only)<;>(rw [eL34,eL,lenB_snoc,List.append_assoc,List.append_assoc,lenF_nat (by omega)]; rfl)
 have c2k:=c2
 try simp only [qcA,qcB] at c2
 refine .exit (.xcode (.xlp (.xblk (.code (.seq (rq2 rfl rfl (mV rfl rfl (aS rfl rfl (.nil (.code (.ret (We.fin Tryz.results120 (.tmp rfl .nil) (mS .here rfl mN) ?_))))))))))))
 obtain rfl:q=8:=by omega
 exact ⟨L,eL,rfl⟩
theorem rSum_ok (xs:List Y) (h:Sh) (G:PM) (hs:SlR G 1 encY h xs) (hR:RdNP G 0 0 (wa 64 kW)) (hl:xs.length≤1000000000000):Ct Tryz.prog 86 ([h.val xs.length]:List Value).toArray G [] (fun _ μ' u=>μ'=[]∧u=.agg (ba 32 (shaD xs)).toArray):=by
 refine Ct.of Tryz.func86 rfl Tryz.ntmps86 rfl fun w0 hs0=>?_
 refine .seq (rq1 rfl rfl ?_)
 refine al rfl Fx.zq23 ?_; intro b2
 refine .nil (.code (.seq (rq3 rfl rfl (mV rfl rfl (kc rfl Fx.go120 (Evc rfl Evn) (Ct.rowc (padded_ok xs h _ hs hl)) ?_)))))
 rintro v9 G9 μ9 hG9 ⟨L9,ov9,eL9,rfl⟩
 have hR:=hR.mono hG9
 refine aS rfl rfl (.nil (.code (.seq ?_)))
 refine wk_fb .here (by first|(intro b hb; cases hb; done) | simp [keys,Res.keys]) ?_; intro GfR9 hR9 hleR9 evR9 hsR9; subst evR9
 have hR:=hR.mono hleR9
 subst eL9
 have lp:=pad_len xs
 have lt:=tail_len xs.length
 have hz:zeros xs.length=(119-xs.length%64)%64:=rfl
 have lp2:(padL xs).length=xs.length+(zeros xs.length+9):=by rw [padL,List.length_append,lt]
 refine rq3 rfl rfl (bCe (wa 8 ivW) rfl .no Fx.bp166_0_1_2_3_4_5_6_7 (.cons (.u rfl) rfl (.cons (.u rfl) rfl (.cons (.u rfl) rfl (.cons (.u rfl) rfl (.cons (.u rfl) rfl (.cons (.u rfl) rfl (.cons (.u rfl) rfl (.cons (.u rfl) rfl .nil)))))))) rfl (by rfl) ?_)
 refine al rfl Fx.zr166 ?_; intro b4
 refine sw rfl (.u rfl) (.u rfl) rfl Fx.sz166 .here (by first|exact qE|exact qL|rfl) (by first|exact ba_one _ _|exact wa_one _ _|exact one_V _|decide|exact one_app (wa_one _ _) (by simp [Value.oneCell'])) ?_
 refine .nil (.code (.seq (.seq (rq1 rfl rfl (aS rfl rfl (.nil (.code (.block ?_))))))))
 refine Wk.lop (α:=Nat) (fun j=>[(5,true,.int .i64 ((64*j:Nat):Int))]) (fun j=>[.blk b4 (cl (wa 8 (shaW (padL xs) j)) 166)])
  (fun j Gl=>(64*j≤(padL xs).length)) (fun j=>(padL xs).length-64*j) 0 [(2,true,_),(3,true,_),(4,true,_)] [_]
  (esC rfl (by first|rfl|exact evi (by omega)) (esD rfl (esD rfl (esD rfl eZ))))
  (mS .here rfl (mS .here rfl mN)) ?_ ?_
 ·(try dsimp only)<;>(first|omega|rfl|assumption|(simp; done))
 intro j N0 Gl0 hN0 hGl0 hF0
 try dsimp only at hF0 hN0 ⊢
 have hj:=hF0
 have hR:=hR.mono hGl0
 have hsR9:=hsR9.mono hGl0
 refine .seq (.seq (rq4 rfl rfl (mV rfl rfl (mV rfl rfl (ln rfl .no Fx.sn34 (.u rfl) (cp rfl .no (.u rfl) (.u rfl) rfl (.nil (.code (.cond rfl (fun c1=>?_) (fun c1=>?_))))))))))
 ·have c1k:=c1
  try simp only [qcA,qcB] at c1
  refine .skip (.code (.seq (.block (Wk.draw (mc:=⟨false,false⟩) [0,1,2,3,4,5,6,7] Fx.mix (by kernel_rfl) ?_))))
  refine lA rfl .no Fx.ag166 (.u rfl) (fun _=>RdN.own .here) (fun _=>(by first|exact qE|exact qL|rfl)) ?_
  refine mV rfl rfl (mV rfl rfl (mV rfl rfl (arn (((((64*j:Nat))+64):Nat):Int) rfl .no (.u rfl) (.u rfl) rfl (fun _=>by omega) (fun _=>wrap_i64 (by omega) (by omega)) ?_)))
  refine kS (((64*j:Nat))) ((((64*j:Nat))+64)) rfl .no Fx.se34 hsR9 (.u rfl) (.u rfl) (.u rfl) (fun _=>by omega) (fun _=>by omega) (fun _=>by omega) (fun _=>by omega) ?_
  intro h22 L22 eL22 lL22 hs22
  have lL22:=lL22 rfl
  refine kv rfl .no Fx.go121 (Evc rfl (Evc rfl Evn)) (fun _=>rblock_ok (shaW (padL xs) j) L22 h22 _ hs22 hR (by omega)) ?_
  refine sw rfl (.u rfl) (.u rfl) rfl Fx.sz166 .here (by first|exact qE|exact qL|rfl) (by first|exact ba_one _ _|exact wa_one _ _|exact one_V _|decide|exact one_app (wa_one _ _) (by simp [Value.oneCell'])) ?_
  refine .nil (.blk (.code (rq3 rfl rfl (mV rfl rfl (arn (((((64*j:Nat))+64):Nat):Int) rfl .no (.u rfl) (.u rfl) rfl (fun _=>by omega) (fun _=>wrap_i64 (by omega) (by omega)) ?_)))))
  refine aS rfl rfl (.nil (We.lpo (j+1) ?_ ?_ ?_ ?_ ?_))
  ·exact (esC rfl (by first|rfl|exact evi (by omega)) (esD rfl (esD rfl (esD rfl eZ))))
  ·exact (mS .here (blk_step eL22) (mS .here rfl mN))
  ·first|omega|(dsimp only; omega)
  ·exact hGl0
  (try dsimp only)<;>(first|omega|rfl|assumption|(simp; done))
 have c1k:=c1
 try simp only [qcA,qcB] at c1
 refine .exit (.xcode (.xlp (.xblk (.code (.seq (rq1 rfl rfl ?_))))))
 refine al rfl Fx.zq23 ?_; intro b6
 refine .nil (.code (.seq (.seq (rq1 rfl rfl (aS rfl rfl (.nil (.code (.block ?_))))))))
 obtain rfl:j=(padL xs).length / 64:=by omega
 refine Wk.lop (α:=Nat×(Nat→Y)) (fun gh=>[(7,true,.int .i64 (gh.1:Int))]) (fun gh=>[.blk b6 (cl (ba 32 gh.2) 23)])
  (fun gh Gl=>(gh.1≤8)∧(gh.2=outs (shaD xs) (4*gh.1))) (fun gh=>8-gh.1) (0,fun _=>0#8) [(2,true,_),(4,true,_),(6,true,_)] [_,_]
  (esC rfl (by first|rfl|exact evi (by omega)) (esD rfl (esD rfl (esD rfl eZ))))
  (mS .here rfl (mS .here rfl (mS .here rfl mN))) ?_ ?_
 ·refine ⟨?_,?_⟩
  ·(try dsimp only)<;>(first|omega|rfl|assumption|(simp; done))
  (try dsimp only)<;>(first|omega|rfl|assumption|(simp; done))
 intro gh N1 Gl1 hN1 hGl1 hF1
 obtain ⟨i,f⟩:=gh; dsimp only at hF1 hN1 ⊢
 obtain ⟨hi,ef⟩:=hF1
 refine .seq (.seq (rq2 rfl rfl (mV rfl rfl (cp rfl .no (.u rfl) (.u rfl) rfl (.nil (.code (.cond rfl (fun c2=>?_) (fun c2=>?_))))))))
 ·have c2k:=c2
  try simp only [qcA,qcB] at c2
  refine .skip (.code (.seq (.block (.seq (rq9 rfl rfl (mV rfl rfl (arn (((4*i):Nat):Int) rfl .no (.u rfl) (.u rfl) rfl (fun _=>by omega) (fun _=>wrap_i64 (by omega) (by omega)) ?_)))))))
  refine mV rfl rfl (iA rfl .no Fx.ar166 (.u rfl) (.u rfl) (fun _=>by omega) (fun _=>by omega) ?_)
  refine ld rfl .no Fx.ag139 (.u rfl) (fun _=>Rd.own tk1 (by first|exact wa_at1 (i) (by omega) (by omega)|exact ba_at1 (i) (by omega) (by omega)|exact wap_at1 (i) (by omega) (by omega)|rfl)) ?_
  refine rw' (k:=.u32) rfl .no (.u rfl) (.u rfl) (fun _=>by decide) ?_
  refine cu (k:=.u32) rfl .no rfl Fx.cv139_5 (.u rfl) ?_
  refine iA rfl .no Fx.ar23 (.u rfl) (.u rfl) (fun _=>by omega) (fun _=>by omega) ?_
  refine s1 rfl (.u rfl) (.u rfl) rfl Fx.sz5 .here (by first|decide|(simp only [wa_len,ba_len,qlA]; omega)) (by first|exact wa_set1 ((4*i)) (by omega)|exact ba_set1 ((4*i)) (by omega)|exact wap_set1 ((4*i)) (by omega) (by omega)|rfl) ?_
  refine .nil (.code (.seq (rq10 rfl rfl (mV rfl rfl (arn (((4*i):Nat):Int) rfl .no (.u rfl) (.u rfl) rfl (fun _=>by omega) (fun _=>wrap_i64 (by omega) (by omega)) ?_)))))
  refine arn ((((4*i)+1):Nat):Int) rfl .no (.u rfl) (.u rfl) rfl (fun _=>by omega) (fun _=>wrap_i64 (by omega) (by omega)) ?_
  refine mV rfl rfl (iA rfl .no Fx.ar166 (.u rfl) (.u rfl) (fun _=>by omega) (fun _=>by omega) ?_)
  refine ld rfl .no Fx.ag139 (.u rfl) (fun _=>Rd.own tk1 (by first|exact wa_at1 (i) (by omega) (by omega)|exact ba_at1 (i) (by omega) (by omega)|exact wap_at1 (i) (by omega) (by omega)|rfl)) ?_
  refine rw' (k:=.u32) rfl .no (.u rfl) (.u rfl) (fun _=>by decide) ?_
  refine cu (k:=.u32) rfl .no rfl Fx.cv139_5 (.u rfl) ?_
  refine iA rfl .no Fx.ar23 (.u rfl) (.u rfl) (fun _=>by omega) (fun _=>by omega) ?_
  refine s1 rfl (.u rfl) (.u rfl) rfl Fx.sz5 .here (by first|decide|(simp only [wa_len,ba_len,qlA]; omega)) (by first|exact wa_set1 (((4*i)+1)) (by omega)|exact ba_set1 (((4*i)+1)) (by omega)|exact wap_set1 (((4*i)+1)) (by omega) (by omega)|rfl) ?_
  refine .nil (.code (.seq (rq10 rfl rfl (mV rfl rfl (arn (((4*i):Nat):Int) rfl .no (.u rfl) (.u rfl) rfl (fun _=>by omega) (fun _=>wrap_i64 (by omega) (by omega)) ?_)))))
  refine arn ((((4*i)+2):Nat):Int) rfl .no (.u rfl) (.u rfl) rfl (fun _=>by omega) (fun _=>wrap_i64 (by omega) (by omega)) ?_
  refine mV rfl rfl (iA rfl .no Fx.ar166 (.u rfl) (.u rfl) (fun _=>by omega) (fun _=>by omega) ?_)
  refine ld rfl .no Fx.ag139 (.u rfl) (fun _=>Rd.own tk1 (by first|exact wa_at1 (i) (by omega) (by omega)|exact ba_at1 (i) (by omega) (by omega)|exact wap_at1 (i) (by omega) (by omega)|rfl)) ?_
  refine rw' (k:=.u32) rfl .no (.u rfl) (.u rfl) (fun _=>by decide) ?_
  refine cu (k:=.u32) rfl .no rfl Fx.cv139_5 (.u rfl) ?_
  refine iA rfl .no Fx.ar23 (.u rfl) (.u rfl) (fun _=>by omega) (fun _=>by omega) ?_
  refine s1 rfl (.u rfl) (.u rfl) rfl Fx.sz5 .here (by first|decide|(simp only [wa_len,ba_len,qlA]; omega)) (by first|exact wa_set1 (((4*i)+2)) (by omega)|exact ba_set1 (((4*i)+2)) (by omega)|exact wap_set1 (((4*i)+2)) (by omega) (by omega)|rfl) ?_
  refine .nil (.code (rq9 rfl rfl (mV rfl rfl (arn (((4*i):Nat):Int) rfl .no (.u rfl) (.u rfl) rfl (fun _=>by omega) (fun _=>wrap_i64 (by omega) (by omega)) ?_))))
  refine arn ((((4*i)+3):Nat):Int) rfl .no (.u rfl) (.u rfl) rfl (fun _=>by omega) (fun _=>wrap_i64 (by omega) (by omega)) ?_
  refine mV rfl rfl (iA rfl .no Fx.ar166 (.u rfl) (.u rfl) (fun _=>by omega) (fun _=>by omega) ?_)
  refine ld rfl .no Fx.ag139 (.u rfl) (fun _=>Rd.own tk1 (by first|exact wa_at1 (i) (by omega) (by omega)|exact ba_at1 (i) (by omega) (by omega)|exact wap_at1 (i) (by omega) (by omega)|rfl)) ?_
  refine cu (k:=.u32) rfl .no rfl Fx.cv139_5 (.u rfl) ?_
  refine iA rfl .no Fx.ar23 (.u rfl) (.u rfl) (fun _=>by omega) (fun _=>by omega) ?_
  refine s1 rfl (.u rfl) (.u rfl) rfl Fx.sz5 .here (by first|decide|(simp only [wa_len,ba_len,qlA]; omega)) (by first|exact wa_set1 (((4*i)+3)) (by omega)|exact ba_set1 (((4*i)+3)) (by omega)|exact wap_set1 (((4*i)+3)) (by omega) (by omega)|rfl) ?_
  refine .nil (.blk (.code (rq3 rfl rfl (mV rfl rfl (arn (((i+1):Nat):Int) rfl .no (.u rfl) (.u rfl) rfl (fun _=>by omega) (fun _=>wrap_i64 (by omega) (by omega)) ?_)))))
  refine aS rfl rfl (.nil (We.lpo (i+1,upd (upd (upd (upd f (4*i) (shaD xs (4*i))) (4*i+1) (shaD xs (4*i+1))) (4*i+2) (shaD xs (4*i+2))) (4*i+3) (shaD xs (4*i+3))) ?_ ?_ ?_ ?_ ?_))
  ·exact (esC rfl (by first|rfl|exact evi (by omega)) (esD rfl (esD rfl (esD rfl eZ))))
  ·exact (mS .here (by rw [shaD0,shaD4 xs i 1 (by decide),shaD4 xs i 2 (by decide),shaD4 xs i 3 (by decide)]; rfl) (mS .here rfl (mS .here rfl mN)))
  ·first|omega|(dsimp only; omega)
  ·exact hGl1
  refine ⟨?_,?_⟩
  ·(try dsimp only)<;>(first|omega|rfl|assumption|(simp; done))
  (try dsimp only)<;>(rw [ef]; rfl)
 have c2k:=c2
 try simp only [qcA,qcB] at c2
 refine .exit (.xcode (.xlp (.xblk (.code (.seq (rq2 rfl rfl (lA rfl .no Fx.ag23 (.u rfl) (fun _=>RdN.own .here) (fun _=>(by first|exact qE|exact qL|rfl)) ?_)))))))
 refine sw rfl (.u rfl) (.u rfl) rfl Fx.sz23 tk2 (by first|exact qE|exact qL|rfl) (by first|exact ba_one _ _|exact wa_one _ _|exact one_V _|decide|exact one_app (wa_one _ _) (by simp [Value.oneCell'])) ?_
 refine .nil (.code (.ret (We.fin0 Tryz.results86 (.cell rfl (fun w hw=>run_loadVarN Fx.ag23 (RdN.own .here) ((by first|exact qE|exact qL|rfl)) hw) .nil) ?_)))
 obtain rfl:i=8:=by omega
 exact ⟨rfl,by rw [ef,ba_congr (fun i hi=>(outs_eq (shaD xs) hi).symm)]; rfl⟩
end Go.Proofs.YtbdnclpopappeaaGreatDoor
