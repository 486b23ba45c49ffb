/- Lemmas and contracts of functions, joined. -/
import Derived.Test.YtdeobooblmjlfaaGreatDoorMb3
set_option linter.unusedSimpArgs false
set_option linter.unusedVariables false
set_option linter.unusedSectionVars false
namespace Go.Tan
open Go.RowKit
def pieceN (r:List Y):Nat:=(r.getD 4 0).toNat+256*(r.getD 5 0).toNat
def wrongP (kind:Y) (n:Nat) (begun:Bool):Bool :=
 if kind=1#8 then begun else if kind=2#8 then begun||decide (n<128) else if kind=3#8 then !begun||decide (n<128) else if kind=4#8 then !begun else true
def readL (op:Nat→List Y→Option (List Y)) (tot:Nat) (r parts:List Y) (recs:List (List Y)) (used:Nat):Option (List (List Y)×Nat) :=
 if h7:r.length<7 then some (recs,used)
 else if pieceN r=0∨128<pieceN r then none
 else if h:r.length<7+pieceN r then some (recs,used)
 else if frameL (r.getD 6 0) ((r.drop 7).take (pieceN r))≠r.take 7∨wrongP (r.getD 6 0) (pieceN r) (!parts.isEmpty)=true then none
 else if r.getD 6 0=1#8∨r.getD 6 0=4#8 then
  match op recs.length (parts++(r.drop 7).take (pieceN r)) with
  | none=>none
  | some x=>readL op tot (r.drop (7+pieceN r)) [] (recs++[x]) (tot-(r.drop (7+pieceN r)).length)
 else readL op tot (r.drop (7+pieceN r)) (parts++(r.drop 7).take (pieceN r)) recs used
termination_by r.length
decreasing_by all_goals (simp only [List.length_drop]; omega)
section
variable {op:Nat→List Y→Option (List Y)} {tot:Nat} {r parts:List Y} {recs:List (List Y)} {used:Nat}
theorem rd_short (h:r.length<7):readL op tot r parts recs used=some (recs,used):=by rw [readL,dif_pos h]
theorem rd_torn (h:¬ r.length<7) (hn:¬ (pieceN r=0∨128<pieceN r)) (ht:r.length<7+pieceN r):readL op tot r parts recs used=some (recs,used):=by rw [readL,dif_neg h,if_neg hn,dif_pos ht]
theorem rd_go (h:¬ r.length<7) (hn:¬ (pieceN r=0∨128<pieceN r)) (ht:¬ r.length<7+pieceN r) (hf:¬ (frameL (r.getD 6 0) ((r.drop 7).take (pieceN r))≠r.take 7∨wrongP (r.getD 6 0) (pieceN r) (!parts.isEmpty)=true)) (hk:¬ (r.getD 6 0=1#8∨r.getD 6 0=4#8)) :
  readL op tot r parts recs used=readL op tot (r.drop (7+pieceN r)) (parts++(r.drop 7).take (pieceN r)) recs used:=by
 conv=>lhs; rw [readL,dif_neg h,if_neg hn,dif_neg ht,if_neg hf,if_neg hk]
theorem rd_rec {x:List Y} (h:¬ r.length<7) (hn:¬ (pieceN r=0∨128<pieceN r)) (ht:¬ r.length<7+pieceN r) (hf:¬ (frameL (r.getD 6 0) ((r.drop 7).take (pieceN r))≠r.take 7∨wrongP (r.getD 6 0) (pieceN r) (!parts.isEmpty)=true)) (hk:r.getD 6 0=1#8∨r.getD 6 0=4#8) (hx:op recs.length (parts++(r.drop 7).take (pieceN r))=some x) :
  readL op tot r parts recs used=readL op tot (r.drop (7+pieceN r)) [] (recs++[x]) (tot-(r.drop (7+pieceN r)).length):=by
 conv=>lhs; rw [readL,dif_neg h,if_neg hn,dif_neg ht,if_neg hf,if_pos hk,hx]
theorem fix_at {n:BitVec 64} {m j:Nat} (h:j<m):(fixL n m)[j]? = some ((n >>> (8*j)).setWidth 8):=by simp [fixL,h]
theorem frame_at4 (kind:Y) (p:List Y):(frameL kind p)[4]? = some ((BitVec.ofInt 64 (p.length:Int)).setWidth 8):=by
 unfold frameL
 rw [List.append_assoc,List.getElem?_append_right (by simp [fix_len]),fix_len,List.getElem?_append_left (by simp [fix_len]),fix_at (by decide)]; simp
theorem frame_at5 (kind:Y) (p:List Y):(frameL kind p)[5]? = some ((BitVec.ofInt 64 (p.length:Int) >>> 8).setWidth 8):=by
 unfold frameL
 rw [List.append_assoc,List.getElem?_append_right (by simp [fix_len]),fix_len,List.getElem?_append_left (by simp [fix_len]),fix_at (by decide)]
theorem frame_at6 (kind:Y) (p:List Y):(frameL kind p)[6]? = some kind:=by
 unfold frameL
 rw [List.getElem?_append_right (by simp [fix_len])]; simp [fix_len]
theorem getD_of {xs:List Y} {j:Nat} {y:Y} (h:xs[j]? = some y):xs.getD j 0=y:=by rw [List.getD_eq_getElem?_getD,h]; rfl
theorem pieceN_of {r:List Y} {kind:Y} {p:List Y} (h4:r[4]? = (frameL kind p)[4]?) (h5:r[5]? = (frameL kind p)[5]?) (hp:p.length≤128):pieceN r=p.length:=by
 unfold pieceN
 rw [frame_at4] at h4
 rw [frame_at5] at h5
 rw [getD_of h4,getD_of h5]
 have e:BitVec.ofInt 64 (p.length:Int)=BitVec.ofNat 64 p.length:=by simp
 rw [e]
 simp only [BitVec.toNat_setWidth,BitVec.toNat_ushiftRight,BitVec.toNat_ofNat,Nat.shiftRight_eq_div_pow]
 omega
theorem pieceN_app {kind:Y} {p t:List Y} (hp:p.length≤128):pieceN (frameL kind p++p++t)=p.length :=
 pieceN_of (kind:=kind) (p:=p) (by rw [List.append_assoc,List.getElem?_append_left (by rw [frame_len]; decide)]) (by rw [List.append_assoc,List.getElem?_append_left (by rw [frame_len]; decide)]) hp
theorem kind_app {kind:Y} {p t:List Y}:(frameL kind p++p++t).getD 6 0=kind :=
 getD_of (by rw [List.append_assoc,List.getElem?_append_left (by rw [frame_len]; decide),frame_at6])
theorem take_app7 {kind:Y} {p t:List Y}:(frameL kind p++p++t).take 7=frameL kind p:=by
 rw [List.append_assoc,List.take_left' (frame_len _ _)]
theorem text_app {kind:Y} {p t:List Y}:((frameL kind p++p++t).drop 7).take p.length=p:=by
 rw [List.append_assoc,List.drop_left' (frame_len _ _),List.take_left]
theorem drop_app {kind:Y} {p t:List Y}:(frameL kind p++p++t).drop (7+p.length)=t:=by
 rw [List.drop_left' (by rw [List.length_append,frame_len])]
theorem go_app {kind:Y} {p t:List Y} (hp:p.length≤128) (h0:0<p.length) (hw:wrongP kind p.length (!parts.isEmpty)=false) (hk:¬ (kind=1#8∨kind=4#8)) :
  readL op tot (frameL kind p++p++t) parts recs used=readL op tot t (parts++p) recs used:=by
 have hN:=pieceN_app (kind:=kind) (t:=t) hp
 have hl:(frameL kind p++p++t).length=7+p.length+t.length:=by rw [List.length_append,List.length_append,frame_len]
 have h:=rd_go (op:=op) (tot:=tot) (r:=frameL kind p++p++t) (parts:=parts) (recs:=recs) (used:=used) (by omega) (by omega) (by omega) (by rw [kind_app,hN,text_app,take_app7,hw]; simp) (by rw [kind_app]; exact hk)
 rw [hN,text_app,drop_app] at h
 exact h
theorem rec_app {kind:Y} {p t x:List Y} (hp:p.length≤128) (h0:0<p.length) (hw:wrongP kind p.length (!parts.isEmpty)=false) (hk:kind=1#8∨kind=4#8) (hx:op recs.length (parts++p)=some x) :
  readL op tot (frameL kind p++p++t) parts recs used=readL op tot t [] (recs++[x]) (tot-t.length):=by
 have hN:=pieceN_app (kind:=kind) (t:=t) hp
 have hl:(frameL kind p++p++t).length=7+p.length+t.length:=by rw [List.length_append,List.length_append,frame_len]
 have h:=rd_rec (op:=op) (tot:=tot) (r:=frameL kind p++p++t) (parts:=parts) (recs:=recs) (used:=used) (x:=x) (by omega) (by omega) (by omega) (by rw [kind_app,hN,text_app,take_app7,hw]; simp) (by rw [kind_app]; exact hk) (by rw [hN,text_app]; exact hx)
 rw [hN,drop_app] at h
 exact h
theorem torn_app {kind:Y} {p:List Y} {k:Nat} (hp:p.length≤128) (h0:0<p.length) (hk:k<7+p.length):readL op tot ((frameL kind p++p).take k) parts recs used=some (recs,used):=by
 have hl:((frameL kind p++p).take k).length=k:=by rw [List.length_take,List.length_append,frame_len]; omega
 by_cases h7:k<7
 ·exact rd_short (by omega)
 ·have hN:pieceN ((frameL kind p++p).take k)=p.length:=pieceN_of (kind:=kind) (p:=p)
   (by rw [List.getElem?_take,if_pos (by omega),List.getElem?_append_left (by rw [frame_len]; decide)]) (by rw [List.getElem?_take,if_pos (by omega),List.getElem?_append_left (by rw [frame_len]; decide)]) hp
  exact rd_torn (by omega) (by omega) (by omega)
end
def pcL (s:List Y) (j:Nat):List Y:=frameL (kindAt s.length j) ((s.drop (128*j)).take 128)++(s.drop (128*j)).take 128
def tlL (s:List Y):Nat→Nat→List Y
 | _,0=>[]
 | j,m+1=>pcL s j++tlL s (j+1) m
theorem out_tl (s:List Y):∀ (m j:Nat),outL s j++tlL s j m=outL s (j+m)
 | 0,j=>by simp [tlL]
 | m+1,j=>by
  have:=out_tl s m (j+1)
  rw [show j+(m+1)=j+1+m by omega,←this,tlL,pcL,outL]
  simp only [List.append_assoc]
theorem rec_tl (s:List Y):recL s=tlL s 0 ((s.length+127) / 128):=by
 have:=out_tl s ((s.length+127) / 128) 0
 rw [Nat.zero_add] at this
 unfold recL
 rw [← this]; rfl
theorem chunk_len (s:List Y) (j:Nat):((s.drop (128*j)).take 128).length=min 128 (s.length-128*j):=by rw [List.length_take,List.length_drop]
theorem pc_len (s:List Y) (j:Nat):(pcL s j).length=7+min 128 (s.length-128*j):=by rw [pcL,List.length_append,frame_len,chunk_len]
theorem chunk_app (s:List Y) (j:Nat):s.take (128*j)++(s.drop (128*j)).take 128=s.take (128*(j+1)):=by
 rw [show 128*(j+1)=128*j+128 by omega,List.take_add]
theorem begun_at {s:List Y} {j:Nat} (h:128*j<s.length):(!(s.take (128*j)).isEmpty)=decide (0<j):=by
 cases j with
 | zero=>simp
 | succ j =>
  have:(s.take (128*(j+1))).isEmpty=false:=by
   cases hq:s.take (128*(j+1)) with
   | nil =>
    have:=congrArg List.length hq
    rw [List.length_take,List.length_nil] at this
    omega
   | cons a l=>rfl
  rw [this]; simp
theorem right_at {n j m:Nat} (hj:128*j<n) (hm:m=min 128 (n-128*j)):wrongP (kindAt n j) m (decide (0<j))=false:=by
 unfold kindAt
 by_cases h0:j=0
 ·subst h0
  by_cases hn:n≤128
  ·rw [if_pos rfl,if_pos hn]; simp [wrongP]
  ·rw [if_pos rfl,if_neg hn]; simp [wrongP]; omega
 ·by_cases hn:n-128*j≤128
  ·rw [if_neg h0,if_pos hn]; simp [wrongP]; omega
  ·rw [if_neg h0,if_neg hn]; simp [wrongP]; omega
theorem kind_end {n j:Nat}:(kindAt n j=1#8∨kindAt n j=4#8)↔n-128*j≤128:=by
 unfold kindAt
 by_cases h0:j=0
 ·subst h0
  by_cases hn:n≤128
  ·rw [if_pos rfl,if_pos hn]; simp; omega
  ·rw [if_pos rfl,if_neg hn]; simp; omega
 ·by_cases hn:n-128*j≤128
  ·rw [if_neg h0,if_pos hn]; simp; omega
  ·rw [if_neg h0,if_neg hn]; simp; omega
section
variable {op:Nat→List Y→Option (List Y)} {tot:Nat} {recs:List (List Y)} {used:Nat} {s:List Y}
theorem read_tl {x t:List Y} (hx:op recs.length s=some x):∀ (m j:Nat),128*j<s.length→j+m=(s.length+127) / 128 →
  readL op tot (tlL s j m++t) (s.take (128*j)) recs used=readL op tot t [] (recs++[x]) (tot-t.length)
 | 0,j,h1,h2=>by omega
 | m+1,j,h1,h2=>by
  have hl:=chunk_len s j
  rw [tlL,pcL,List.append_assoc]
  by_cases hk:s.length-128*j≤128
  ·have hm:m=0:=by omega
   subst hm
   have:=rec_app (op:=op) (tot:=tot) (recs:=recs) (used:=used) (parts:=s.take (128*j)) (kind:=kindAt s.length j) (p:=(s.drop (128*j)).take 128) (t:=tlL s (j+1) 0++t) (x:=x)
    (by omega) (by omega) (by rw [begun_at h1]; exact right_at h1 hl) (kind_end.2 hk) (by rw [chunk_app,List.take_of_length_le (by omega)]; exact hx)
   rw [this]
   rfl
  ·have:=go_app (op:=op) (tot:=tot) (recs:=recs) (used:=used) (parts:=s.take (128*j)) (kind:=kindAt s.length j) (p:=(s.drop (128*j)).take 128) (t:=tlL s (j+1) m++t)
    (by omega) (by omega) (by rw [begun_at h1]; exact right_at h1 hl) (fun h=>hk (kind_end.1 h))
   rw [this,chunk_app]
   exact read_tl hx m (j+1) (by omega) (by omega)
theorem read_rec {x t:List Y} (h0:0<s.length) (hx:op recs.length s=some x):readL op tot (recL s++t) [] recs used=readL op tot t [] (recs++[x]) (tot-t.length):=by
 rw [rec_tl]
 have:=read_tl (op:=op) (tot:=tot) (used:=used) (t:=t) hx ((s.length+127) / 128) 0 (by omega) (by omega)
 simpa using this
theorem cut_tl:∀ (m j k:Nat),128*j<s.length→j+m=(s.length+127) / 128→k<(tlL s j m).length →
  readL op tot ((tlL s j m).take k) (s.take (128*j)) recs used=some (recs,used)
 | 0,j,k,h1,h2,h3=>by simp [tlL] at h3
 | m+1,j,k,h1,h2,h3=>by
  have hl:=chunk_len s j
  have hp:=pc_len s j
  rw [tlL,List.length_append] at h3
  rw [tlL]
  by_cases hk:k<(pcL s j).length
  ·rw [List.take_append_of_le_length (by omega),pcL]
   exact torn_app (by omega) (by omega) (by omega)
  have hm:¬ s.length-128*j≤128:=fun hc=>by
   have:m=0:=by omega
   subst this
   simp [tlL] at h3; omega
  rw [List.take_append,List.take_of_length_le (by omega),pcL]
  have:=go_app (op:=op) (tot:=tot) (recs:=recs) (used:=used) (parts:=s.take (128*j)) (kind:=kindAt s.length j) (p:=(s.drop (128*j)).take 128) (t:=(tlL s (j+1) m).take (k-(pcL s j).length))
   (by omega) (by omega) (by rw [begun_at h1]; exact right_at h1 hl) (fun h=>hm (kind_end.1 h))
  rw [pcL] at this
  rw [this,chunk_app]
  refine cut_tl m (j+1) _ (by omega) (by omega) ?_
  rw [← pcL]; omega
theorem cut_rec {k:Nat} (hk:k<(recL s).length):readL op tot ((recL s).take k) [] recs used=some (recs,used):=by
 rw [rec_tl] at hk ⊢
 have h0:0<s.length:=by
  by_cases h:s.length=0
  ·rw [h] at hk; simp [tlL] at hk
  ·omega
 have:=cut_tl (op:=op) (tot:=tot) (recs:=recs) (used:=used) ((s.length+127) / 128) 0 k (by omega) (by omega) hk
 simpa using this
end
def bodyL (sl:Nat→List Y→List Y):Nat→List (List Y)→List Y
 | _,[]=>[]
 | i,p :: ps=>recL (sl i p)++bodyL sl (i+1) ps
theorem body_app (sl:Nat→List Y→List Y):∀ (ps qs:List (List Y)) (i:Nat),bodyL sl i (ps++qs)=bodyL sl i ps++bodyL sl (i+ps.length) qs
 | [],qs,i=>by simp [bodyL]
 | p :: ps,qs,i=>by
  rw [List.cons_append,bodyL,bodyL,body_app sl ps qs (i+1),List.append_assoc,List.length_cons,show i+1+ps.length=i+(ps.length+1) by omega]
def endL (sl:Nat→List Y→List Y) (i:Nat) (rs:List (List Y)) (n:Nat):Nat:=(bodyL sl i (rs.take n)).length
theorem end_zero (sl:Nat→List Y→List Y) (i:Nat) (rs:List (List Y)):endL sl i rs 0=0:=by simp [endL,bodyL]
theorem end_cons (sl:Nat→List Y→List Y) (i:Nat) (p:List Y) (rs:List (List Y)) (n:Nat):endL sl i (p :: rs) (n+1)=(recL (sl i p)).length+endL sl (i+1) rs n:=by simp [endL,bodyL]
theorem end_all (sl:Nat→List Y→List Y) (i:Nat) (rs:List (List Y)):endL sl i rs rs.length=(bodyL sl i rs).length:=by simp [endL]
theorem end_mono (sl:Nat→List Y→List Y) (i:Nat) (rs:List (List Y)) {m n:Nat} (h:m≤n):endL sl i rs m≤endL sl i rs n:=by
 unfold endL
 have:rs.take n=rs.take m++(rs.take n).drop m:=by
  have:=List.take_append_drop m (rs.take n)
  rw [List.take_take,Nat.min_eq_left h] at this
  exact this.symm
 rw [this,body_app,List.length_append]; omega
theorem read_cut {op:Nat→List Y→Option (List Y)} {sl:Nat→List Y→List Y} {tot:Nat}:∀ (rs:List (List Y)) (recs:List (List Y)) (base k i:Nat),(∀ j p,rs[j]? = some p→op (i+j) (sl (i+j) p)=some p∧0<(sl (i+j) p).length) →
  recs.length=i→k≤(bodyL sl i rs).length→tot=base+k →
  ∃ n,n≤rs.length∧endL sl i rs n≤k∧(n<rs.length→k<endL sl i rs (n+1))∧readL op tot ((bodyL sl i rs).take k) [] recs base=some (recs++rs.take n,base+endL sl i rs n)
 | [],recs,base,k,i,_,hi,hk,ht=>by
  refine ⟨0,Nat.le_refl _,by rw [end_zero]; exact Nat.zero_le _,fun h=>absurd h (by simp),?_⟩
  rw [end_zero]
  simp only [bodyL,List.take_nil]
  rw [rd_short (by simp)]; simp
 | p :: rs,recs,base,k,i,ho,hi,hk,ht=>by
  obtain ⟨hop,hpos⟩:=ho 0 p rfl
  rw [Nat.add_zero] at hop hpos
  have hlen:(bodyL sl i (p :: rs)).length=(recL (sl i p)).length+(bodyL sl (i+1) rs).length:=by rw [bodyL,List.length_append]
  rw [bodyL]
  by_cases hlt:k<(recL (sl i p)).length
  ·refine ⟨0,Nat.zero_le _,by rw [end_zero]; exact Nat.zero_le _,fun _=>by rw [Nat.zero_add,end_cons,end_zero]; exact hlt,?_⟩
   rw [List.take_append_of_le_length (by omega),cut_rec hlt,end_zero]; simp
  rw [List.take_append,List.take_of_length_le (by omega),read_rec (x:=p) hpos (by rw [hi]; exact hop)]
  have hl2:((bodyL sl (i+1) rs).take (k-(recL (sl i p)).length)).length=k-(recL (sl i p)).length:=by rw [List.length_take]; omega
  rw [hl2]
  obtain ⟨n,h1,h2,h3,h4⟩:=read_cut (op:=op) (sl:=sl) (tot:=tot) rs (recs++[p]) (base+(recL (sl i p)).length) (k-(recL (sl i p)).length) (i+1)
   (fun j q hq=>by have:=ho (j+1) q hq; rwa [show i+(j+1)=i+1+j by omega] at this) (by simp [hi]) (by omega) (by omega)
  refine ⟨n+1,by simp; omega,by rw [end_cons]; omega,fun h=>?_,?_⟩
  ·have:=h3 (by simpa using h)
   rw [end_cons]; omega
  rw [show tot-(k-(recL (sl i p)).length)=base+(recL (sl i p)).length by omega,h4,end_cons]
  simp [List.append_assoc,Nat.add_assoc]
section
variable {op:Nat→List Y→Option (List Y)} {tot:Nat} {recs:List (List Y)} {used:Nat} {s:List Y}
end
structure LogV where
 hd:Hd
 recs:List (List Y)
 used:Nat
 torn:Bool
def openAt (root:Nat→Y) (h:Hd) (i:Nat) (s:List Y):Option (List Y):=openL (keyEnc root (headL h)) (keyMac root (headL h)) (nonceF (BitVec.ofInt 64 (i:Int))) (headL h) s
def sealAt (root:Nat→Y) (h:Hd) (i:Nat) (p:List Y):List Y:=sealL (keyEnc root (headL h)) (keyMac root (headL h)) (nonceF (BitVec.ofInt 64 (i:Int))) (headL h) p
def bodyR (root:Nat→Y) (h:Hd) (xs:List Y):Option (List (List Y)×Nat):=readL (openAt root h) xs.length (xs.drop 30) [] [] 30
def readP (root:Nat→Y) (xs:List Y):LogV×Int :=
 if xs.length<30 then (⟨Hd.zero,[],0,true⟩,0)
 else if (takeH xs).2≠0 then (⟨Hd.zero,[],0,false⟩,(takeH xs).2)
 else match bodyR root (takeH xs).1 xs with
  | none=>(⟨Hd.zero,[],0,false⟩,160)
  | some (recs,used)=>(⟨(takeH xs).1,recs,used,decide (used<xs.length)⟩,0)
theorem read_short {root:Nat→Y} {xs:List Y} (h:xs.length<30):readP root xs=(⟨Hd.zero,[],0,true⟩,0):=by unfold readP; rw [if_pos h]
theorem read_head {root:Nat→Y} {xs:List Y} (h:¬ xs.length<30) (he:(takeH xs).2≠0):readP root xs=(⟨Hd.zero,[],0,false⟩,(takeH xs).2):=by unfold readP; rw [if_neg h,if_pos he]
theorem read_some {root:Nat→Y} {xs:List Y} {recs:List (List Y)} {used:Nat} (h:¬ xs.length<30) (he:(takeH xs).2=0) (hb:bodyR root (takeH xs).1 xs=some (recs,used)):readP root xs=(⟨(takeH xs).1,recs,used,decide (used<xs.length)⟩,0):=by unfold readP; rw [if_neg h,if_neg (fun k=>k he),hb]
theorem unf_fix (n:BitVec 64) (t:List Y):unfK (fixL n 8++t) 8=n:=by
 have key:∀ k,k≤8→∀ i,i<64→(unfK (fixL n 8++t) k).getLsbD i=(decide (i<8*k)&&n.getLsbD i):=by
  intro k
  induction k with
  | zero=>intro _ i _; simp [unfK]
  | succ k ih =>
   intro hk i hi
   have hg:(fixL n 8++t).getD k 0=(n >>> (8*k)).setWidth 8:=getD_of (by rw [List.getElem?_append_left (by rw [fix_len]; omega),fix_at (by omega)])
   rw [unfK,BitVec.getLsbD_or,ih (by omega) i hi,hg]
   simp only [BitVec.getLsbD_shiftLeft,BitVec.getLsbD_setWidth,BitVec.getLsbD_ushiftRight,hi,decide_true,Bool.true_and]
   by_cases h1:i<8*k
   ·simp [h1,show i<8*(k+1) by omega]
   ·by_cases h2:i<8*(k+1)
    ·simp [h1,h2,show i-8*k<8 by omega,show i-8*k<64 by omega,show 8*k+(i-8*k)=i by omega]
    ·simp [h1,h2,show ¬ i-8*k<8 by omega]
 apply BitVec.eq_of_getLsbD_eq
 intro i hi
 rw [key 8 (Nat.le_refl _) i hi]
 simp [hi]
theorem head_back (h:Hd) (t:List Y):headOf (headL h++t)=h:=by
 have e:headL h++t=[116#8,97#8,110#8,116#8,h.kind,h.level]++(fixL h.gen 8++(fixL h.epoch 8++(fixL h.num 8++t))):=by simp [headL]
 have d6:(headL h++t).drop 6=fixL h.gen 8++(fixL h.epoch 8++(fixL h.num 8++t)):=by rw [e]; rfl
 have d14:(headL h++t).drop 14=fixL h.epoch 8++(fixL h.num 8++t):=by
  rw [show 14=6+8 by rfl,←List.drop_drop,d6,List.drop_left' (fix_len _ _)]
 have d22:(headL h++t).drop 22=fixL h.num 8++t:=by
  rw [show 22=14+8 by rfl,←List.drop_drop,d14,List.drop_left' (fix_len _ _)]
 unfold headOf
 rw [d6,d14,d22,unf_fix,unf_fix,unf_fix]
 rw [e]
 rfl
theorem take_head (h:Hd) (t:List Y):takeH (headL h++t)=if h.right=true then (h,0) else (Hd.zero,70):=by
 have hl:¬ (headL h++t).length<30:=by rw [List.length_append,head_len]; omega
 have h4:(headL h++t).take 4=[116#8,97#8,110#8,116#8]:=by simp [headL]
 unfold takeH
 rw [if_neg hl,head_back,h4]
 simp
theorem seal_at_ok (root:Nat→Y) (h:Hd) (i:Nat) (p:List Y):openAt root h i (sealAt root h i p)=some p∧0<(sealAt root h i p).length:=by
 refine ⟨open_seal _ _ _ _ _,?_⟩
 rw [sealAt,seal_len]; omega
def logL (root:Nat→Y) (h:Hd) (rs:List (List Y)):List Y:=headL h++bodyL (sealAt root h) 0 rs
theorem log_cut {root:Nat→Y} {h:Hd} (rs:List (List Y)) {k:Nat} (hr:h.right=true) (h30:30≤k) (hk:k≤(logL root h rs).length) :
  ∃ n,n≤rs.length∧30+endL (sealAt root h) 0 rs n≤k∧(n<rs.length→k<30+endL (sealAt root h) 0 rs (n+1)) ∧
   readP root ((logL root h rs).take k)=(⟨h,rs.take n,30+endL (sealAt root h) 0 rs n,decide (30+endL (sealAt root h) 0 rs n<k)⟩,0):=by
 have hlen:(logL root h rs).length=30+(bodyL (sealAt root h) 0 rs).length:=by rw [logL,List.length_append,head_len]
 have e:(logL root h rs).take k=headL h++(bodyL (sealAt root h) 0 rs).take (k-30):=by
  rw [logL,List.take_append,List.take_of_length_le (by rw [head_len]; exact h30),head_len]
 have hl:((logL root h rs).take k).length=k:=by rw [List.length_take]; omega
 obtain ⟨n,h1,h2,h3,h4⟩:=read_cut (op:=openAt root h) (sl:=sealAt root h) (tot:=k) rs [] 30 (k-30) 0 (fun j p _=>seal_at_ok root h _ p) rfl (by omega) (by omega)
 refine ⟨n,h1,by omega,fun hn=>by have:=h3 hn; omega,?_⟩
 have ht:takeH ((logL root h rs).take k)=(h,0):=by rw [e,take_head,if_pos hr]
 have hb:bodyR root (takeH ((logL root h rs).take k)).1 ((logL root h rs).take k)=some (rs.take n,30+endL (sealAt root h) 0 rs n):=by
  unfold bodyR
  rw [hl,ht,e,List.drop_left' (head_len h)]
  simpa using h4
 rw [read_some (by omega) (by rw [ht]) hb,ht,hl]
theorem log_back {root:Nat→Y} {h:Hd} (rs:List (List Y)) (hr:h.right=true):readP root (logL root h rs)=(⟨h,rs,(logL root h rs).length,false⟩,0):=by
 have hlen:(logL root h rs).length=30+(bodyL (sealAt root h) 0 rs).length:=by rw [logL,List.length_append,head_len]
 obtain ⟨n,h1,h2,h3,h4⟩:=log_cut (root:=root) (h:=h) rs (k:=(logL root h rs).length) hr (by omega) (Nat.le_refl _)
 have hn:n=rs.length:=by
  rcases Nat.lt_or_ge n rs.length with hlt | hge
  ·have:=h3 hlt
   have:=end_mono (sealAt root h) 0 rs (show n+1≤rs.length by omega)
   rw [end_all] at this
   omega
  ·omega
 rw [List.take_length,hn,List.take_length,end_all,←hlen] at h4
 rw [h4]; simp
theorem log_wrong {root:Nat→Y} {h:Hd} (rs:List (List Y)) (hr:h.right=false):readP root (logL root h rs)=(⟨Hd.zero,[],0,false⟩,70):=by
 have hlen:(logL root h rs).length=30+(bodyL (sealAt root h) 0 rs).length:=by rw [logL,List.length_append,head_len]
 have ht:takeH (logL root h rs)=(Hd.zero,70):=by rw [logL,take_head,hr]; rfl
 rw [read_head (by omega) (by rw [ht]; decide),ht]
def rdC (enc mac:Nat→Y) (va:Value) (h:Hd) (vr:Value) (used:Int) (torn:Bool) (vp:Value):List Value :=
 ba 32 enc++ba 32 mac++[va,V h.kind,V h.level,uv .u64 h.gen,uv .u64 h.epoch,uv .u64 h.num,vr,.int .i64 used,.bool torn,vp]
section
variable {enc mac:Nat→Y} {va vr vp v:Value} {h:Hd} {used u:Int} {torn b:Bool}
theorem rdc_len:(rdC enc mac va h vr used torn vp).length=74:=by simp [rdC,ba_len]
theorem k64:(ba 32 enc++ba 32 mac).length=64:=key_len enc mac
theorem rdc_used:(rdC enc mac va h vr used torn vp)[71]? = some (.int .i64 used):=by rw [rdC,List.getElem?_append_right (by rw [k64]; decide),k64]; rfl
theorem rds_torn:(rdC enc mac va h vr used torn vp).set 72 (.bool b)=rdC enc mac va h vr used b vp:=by rw [rdC,List.set_append_right _ _ (by rw [k64]; decide),k64]; rfl
theorem rdc_log:((rdC enc mac va h vr used torn vp).drop 65).take 8=[V h.kind,V h.level,uv .u64 h.gen,uv .u64 h.epoch,uv .u64 h.num,vr,.int .i64 used,.bool torn]:=by
 rw [rdC,List.drop_append,List.drop_of_length_le (by rw [k64]; decide),k64]; rfl
theorem rdc_one (h1:va.oneCell'=true) (h2:vr.oneCell'=true) (h3:vp.oneCell'=true):∀ u∈rdC enc mac va h vr used torn vp,u.oneCell'=true:=by
 intro u hu
 rcases List.mem_append.1 hu with hu | hu
 ·exact key_one _ _ u hu
 ·simp only [List.mem_cons,List.not_mem_nil,or_false] at hu
  rcases hu with rfl|rfl|rfl|rfl|rfl|rfl|rfl|rfl|rfl|rfl<;>first|assumption|rfl
end
theorem rd_build {zs A B Z:List Value} {v w:Value} (hz:zs=A++(Z++[w])) (hA:A.length=64) (hZ:Z.length=9) (f g:Nat→Y) (hB:B.length=8):put (put (put zs 0 (ba 32 f++ba 32 g)) 64 [v]) 65 B=ba 32 f++ba 32 g++(v :: B++[w]):=by
 subst hz
 have h64:(ba 32 f++ba 32 g).length=64:=key_len f g
 have e1:put (A++(Z++[w])) 0 (ba 32 f++ba 32 g)=(ba 32 f++ba 32 g)++(Z++[w]):=by
  unfold put; rw [List.take_zero,List.nil_append,h64,Nat.zero_add,List.drop_left' hA]
 rw [e1]
 generalize hK:ba 32 f++ba 32 g=K at h64 ⊢
 obtain ⟨z,Z',rfl⟩ : ∃ z Z',Z=z :: Z':=by cases Z with | nil=>cases hZ | cons z Z'=>exact ⟨z,Z',rfl⟩
 have hZ':Z'.length=8:=by simpa using hZ
 have e2:put (K++(z :: Z'++[w])) 64 [v]=K++(v :: Z'++[w]):=by
  unfold put
  rw [List.take_left' h64,List.drop_append,List.drop_of_length_le (by omega),h64]
  simp
 rw [e2]
 have e3:put (K++(v :: Z'++[w])) 65 B=K++(v :: B++[w]):=by
  unfold put
  have hv:K++(v :: Z'++[w])=(K++[v])++(Z'++[w]):=by simp
  have h65:(K++[v]).length=65:=by simp [h64]
  rw [hv,List.take_left' h65,List.drop_append,List.drop_of_length_le (by omega),h65,hB,List.drop_left' (by omega)]
  simp
 exact e3
theorem rd_built {zs A B:List Value} {v w z0 z1 z2 z3 z4 z5 z6 z7 z8:Value} (hz:zs=A++[z0,z1,z2,z3,z4,z5,z6,z7,z8,w]) (hA:A.length=64) (f g:Nat→Y) (hB:B.length=8):put (put (put zs 0 (ba 32 f++ba 32 g)) 64 [v]) 65 B=ba 32 f++ba 32 g++(v :: B++[w]) :=
 rd_build (Z:=[z0,z1,z2,z3,z4,z5,z6,z7,z8]) hz hA rfl f g hB
theorem rd_ok {zs A B:List Value} {v:Value} (hz:zs.length=74) (hA:A.length=64) (hB:B.length=8):bOk zs.length [(0,64),(64,1),(65,8)] [A,[v],B]=true:=by
 simp [bOk,hz,hA,hB]
theorem rdz_len {f g:Nat→Y} {z0 z1 z2 z3 z4 z5 z6 z7 z8 w:Value}:(ba 32 f++ba 32 g++[z0,z1,z2,z3,z4,z5,z6,z7,z8,w]).length=74:=by
 rw [List.length_append,key_len]; rfl
theorem hd_ext {a b:Hd} (h:a.kind=b.kind∧a.level=b.level∧a.gen=b.gen∧a.epoch=b.epoch∧a.num=b.num):a=b:=by
 obtain ⟨a1,a2,a3,a4,a5⟩:=a
 obtain ⟨b1,b2,b3,b4,b5⟩:=b
 obtain ⟨h1,h2,h3,h4,h5⟩:=h
 simp only at h1 h2 h3 h4 h5
 subst h1 h2 h3 h4 h5
 rfl
instance:DecidableEq Hd:=fun a b=>decidable_of_iff (a.kind=b.kind∧a.level=b.level∧a.gen=b.gen∧a.epoch=b.epoch∧a.num=b.num) ⟨hd_ext,fun h=>by subst h; exact ⟨rfl,rfl,rfl,rfl,rfl⟩⟩
def headE (s:State):Edit:=⟨s.log,s.next,s.seq,s.least,s.gens,[],[]⟩
def oneE (m:Meta):Edit:=⟨0,0,0,0,fun _=>0,[m],[]⟩
def leafE (e:Edit):Dg:=leafD (encE e)
def leavesS (s:State):List Dg:=leafE (headE s) :: (allM s 5).map fun m=>leafE (oneE m)
def rootS (s:State):Dg:=rootD (leavesS s)
theorem headE_congr {X Y:State} (h:EqS X Y):headE X=headE Y:=by unfold headE; rw [h.log,h.next,h.seq,h.least,h.gens]
theorem rootS_congr {X Y:State} (h:EqS X Y):rootS X=rootS Y:=by
 unfold rootS leavesS; rw [headE_congr h,h.all 5 (Nat.le_refl _)]
def recP (mark:BitVec 64) (x:State) (e:Edit):List Y:=fixL mark 8++yl 32 (rootS x)++encE e
theorem recP_congr {mark:BitVec 64} {X Z:State} {e:Edit} (h:EqS X Z):recP mark X e=recP mark Z e:=by unfold recP; rw [rootS_congr h]
structure Mn where
 st:State
 mark:BitVec 64
 n:Nat
def Mn.zero:Mn:=⟨State.zero,0#64,0⟩
noncomputable def stepM (m:Mn) (p:List Y):Option Mn :=
 if p.length<40 then none else (decO (p.drop 40)).bind fun e=>if unfK p 8≤m.mark then none else (applyO m.st e).bind fun x =>
  if yl 32 (rootS x)=(p.drop 8).take 32 then some ⟨x,unfK p 8,m.n+1⟩ else none
noncomputable def stepsM:List (List Y)→Mn→Option Mn
 | [],m=>some m
 | p :: ps,m=>(stepM m p).bind (stepsM ps)
section
variable {m:Mn} {p:List Y} {e:Edit} {x:State}
end
theorem AppR.right {s:State} {e:Edit} {X:State} (h:AppR s e X 0):rightS s=true∧∃ Z,applyO s e=some Z∧EqS X Z∧rightS Z=true∧rightS X=true:=by
 rcases h with ⟨_,h,_⟩ | ⟨_,_,h,_⟩ | ⟨h1,_,Z,h3,h4⟩
 ·cases h
 ·cases h
 ·obtain ⟨_,h5,_⟩:=applyO_inv h3
  exact ⟨h1,Z,h3,h4,h5,by rw [h4.right]; exact h5⟩
theorem addL_lt:∀ {ms:List Meta} {L L':Lvs},foldO addF ms L=some L'→∀ m∈ms,m.level<5
 | [],L,L',_,m,hm=>by cases hm
 | x :: ms,L,L',h,m,hm=>by
  simp only [foldO] at h
  unfold addF at h
  split at h
  ·rename_i h5
   rcases List.mem_cons.1 hm with rfl | hm
   ·exact h5
   ·exact addL_lt h m hm
  ·cases h
theorem added {s:State} {e:Edit} {Z:State} (h:applyO s e=some Z):(∀ m∈e.add,m.fits)∧e.add.length≤1024∧e.drop.length≤1024:=by
 obtain ⟨h1,h2,L1,L2,h3,h4,rfl⟩:=applyO_inv h
 refine ⟨fun m hm=>?_,(okB_bd h1).1,(okB_bd h1).2⟩
 have h5:=addL_lt h4 m hm
 have hi:m.level.toNat<5:=by omega
 have hm2:m∈L2 m.level.toNat:=by
  rw [addL_eq h4]
  exact List.mem_append_right _ (List.mem_filter.2 ⟨hm,by simp [atLv]⟩)
 have hm3:m∈(mkX e (srtL L2)).lv m.level.toNat:=srtL_mem.2 hm2
 have hg:=(((rightP_of h2).lv _ hi).1 m hm3).2
 unfold good at hg
 simp only [Bool.and_eq_true,decide_eq_true_eq] at hg
 exact ⟨by omega,by omega,by omega,by omega⟩
theorem right_fits {s:State} (h:rightS s=true) {i:Nat} (hi:i<5):∀ m∈s.lv i,m.min.size≤1024∧m.max.size≤1024:=by
 intro m hm
 have hg:=(((rightP_of h).lv _ hi).1 m hm).2
 unfold good at hg
 simp only [Bool.and_eq_true,decide_eq_true_eq] at hg
 exact ⟨by omega,by omega⟩
def LayR (root:Nat→Y) (h:Hd) (n mark:BitVec 64) (s:State) (e:Edit) (L:List Y) (X:State) (r:Int):Prop :=
 ∃ X0 r0,AppR s e X0 r0∧((r0≠0∧L=[]∧X=State.zero∧r=r0)∨(r0=0∧∃ L1 r1,(L1,r1)=layP root h n (recP mark X0 e)∧((r1≠0∧L=[]∧X=State.zero∧r=r1)∨(r1=0∧L=L1∧X=X0∧r=0))))
theorem LayR.det {root:Nat→Y} {h:Hd} {n mark:BitVec 64} {s:State} {e:Edit} {L L':List Y} {X X':State} {r r':Int} (h1:LayR root h n mark s e L X r) (h2:LayR root h n mark s e L' X' r'):L=L'∧EqS X X'∧r=r':=by
 obtain ⟨A,a,ha,k1⟩:=h1
 obtain ⟨B,b,hb,k2⟩:=h2
 obtain ⟨hE,rfl⟩:=ha.det hb
 rcases k1 with ⟨q,rfl,rfl,rfl⟩ | ⟨q,L1,r1,e1,k1⟩
 ·rcases k2 with ⟨_,rfl,rfl,rfl⟩ | ⟨q',_⟩
  ·exact ⟨rfl,EqS.refl _,rfl⟩
  ·exact absurd q' q
 ·rcases k2 with ⟨q',_⟩ | ⟨_,L2,r2,e2,k2⟩
  ·exact absurd q q'
  ·rw [recP_congr hE,←e2] at e1
   obtain ⟨rfl,rfl⟩:=Prod.mk.inj e1
   rcases k1 with ⟨q1,rfl,rfl,rfl⟩ | ⟨q1,rfl,rfl,rfl⟩
   ·rcases k2 with ⟨_,rfl,rfl,rfl⟩ | ⟨q2,_⟩
    ·exact ⟨rfl,EqS.refl _,rfl⟩
    ·exact absurd q2 q1
   ·rcases k2 with ⟨q2,_⟩ | ⟨_,rfl,rfl,rfl⟩
    ·exact absurd q1 q2
    ·exact ⟨rfl,hE,rfl⟩
theorem Tr.cutRow {G0 G:PM} {K0:List Nat} {w0 w:World} {μ:Mem} {b E sz m cap q:Nat} {xs:List Value} (h:Tr G0 K0 w0 G (.row (.slice (some ⟨b,0,none⟩) m cap) E sz m xs :: μ) w) (hq:q≤m) :
  Tr G0 K0 w0 G (.row (.slice (some ⟨b,0,none⟩) q cap) E sz q (xs.take (q*sz)) :: μ) w:=by
 have hk:keys (.row (.slice (some ⟨b,0,none⟩) q cap) E sz q (xs.take (q*sz)) :: μ)=keys (.row (.slice (some ⟨b,0,none⟩) m cap) E sz m xs :: μ):=by simp [keys,Res.keys,Value.ownBlock]
 have hrow:w.ownsRow 0 E sz (.slice (some ⟨b,0,none⟩) m cap) m xs:=h.sat.own _ (List.mem_cons_self ..)
 refine { h with sat:=⟨h.sat.sub,fun r hr=>?_,by rw [hk]; exact h.sat.apart,by rw [hk]; exact h.sat.nodup⟩,mine:=by rw [hk]; exact h.mine }
 rcases List.mem_cons.1 hr with rfl | hr
 ·have hl:=hrow.1
  have hqs:q*sz≤m*sz:=Nat.mul_le_mul_right _ hq
  rcases hrow.2 with ⟨e,_⟩ | ⟨g,cap',cur,e,h0,hg,hnc,hcm,hcs,htake⟩
  ·cases e
  simp only [Value.slice.injEq,Option.some.injEq,Addr.mk.injEq,and_true,true_and] at e
  obtain ⟨rfl,rfl⟩:=e
  refine ⟨by rw [List.length_take,hl,Nat.min_eq_left hqs],.inr ⟨b,cap,cur,rfl,h0,hg,by omega,hcm,hcs,?_⟩⟩
  rw [← htake,List.take_take,Nat.min_eq_left hqs]
 exact h.sat.own r (List.mem_cons_of_mem _ hr)
theorem wk_popS {α:Type} {enc:α→List Value} {sz:Nat} {X:Cx} {cd:Code} {k:List KI} {ρ:Env} {G:PM} {μ μ':Mem} {b cap E:Nat} {xs:List α} (A B:List α) (hsz:∀ x∈xs,(enc x).length=sz) (hm:MTake μ (rS sz enc (.slice (some ⟨b,0,none⟩) xs.length cap) E xs) μ') (e:xs=A++B)
  (h:Wk X cd k ρ G (rS sz enc (.slice (some ⟨b,0,none⟩) A.length cap) E A :: μ')):Wk X cd k ρ G μ :=
 ⟨fun a w ha ht=>h.out a w ha (by
  subst e
  have:=(ht.perm hm.perm).cutRow (q:=A.length) (by rw [List.length_append]; omega)
  rw [← flat_tk hsz,List.take_left] at this
  exact this)⟩
section
variable {dr:Bool} {mc:Md} {P:Program} {n:Nat} {l:List Oper} {K:Env→PM→Mem→Prop} {i:Nat} {σ:List Nat} {ρ:Env} {G:PM} {μ:Mem}
variable {d t:Nat} {p:String} {af:Array Edge} {g:Option (Nat×Bool)} {c:Bool}
theorem and1 (A:Nat):BitVec.ofNat 64 A &&& BitVec.ofNat 64 1=BitVec.ofNat 64 (A%2):=by
 apply BitVec.eq_of_toNat_eq
 rw [BitVec.toNat_and,BitVec.toNat_ofNat,BitVec.toNat_ofNat,BitVec.toNat_ofNat,show 1%2^64=1 from rfl,Nat.and_one_is_mod]
 omega
theorem an1 {T T':TypeId} {x y:Operand} {a1 a2:Int} (A:Nat) (ho:nth l i=some ⟨some d,.binOp .and T x y T',t,p,af,g⟩) (hg:Gd l ρ g c) (hx:Ev ρ c x (.int .i64 a1)) (hy:Ev ρ c y (.int .i64 a2)) (e1:a1=A) (e2:a2=1)
  (h:Wo dr mc P n l K σ ((d,c,.int .i64 ((A%2:Nat):Int)) :: ρ) G μ):Wo dr mc P n l K (i :: σ) ρ G μ :=
 .pure ho (.inl rfl) hg (fun hc q w ha=>by
  subst e1; subst e2
  have hb:(binOp .and T (.int .i64 (A:Int)) (.int .i64 1)).run P w=.ok (.int .i64 ((A%2:Nat):Int)) w:=by
   have e1:BitVec.ofInt 64 (A:Int)=BitVec.ofNat 64 A:=by simp
   have e2:BitVec.ofInt 64 (1:Int)=BitVec.ofNat 64 1:=rfl
   have h4:IntKind.i64.wrap ((BitVec.ofNat 64 (A%2)).toNat:Int)=((A%2:Nat):Int):=by
    rw [BitVec.toNat_ofNat,Nat.mod_eq_of_lt (by omega)]
    exact wrap_i64 (by omega) (by omega)
   have h5:(Op.intBits .and .i64 (A:Int) 1)=pure (.int .i64 (IntKind.i64.wrap ((BitVec.ofInt 64 (A:Int) &&& BitVec.ofInt 64 (1:Int)).toNat:Int))):=rfl
   have h6:binOp .and T (.int .i64 (A:Int)) (.int .i64 1)=Op.intBits .and .i64 (A:Int) 1:=rfl
   rw [h6,h5,e1,e2,and1,h4]; rfl
  simp only [execOp,hx.eval ha hc,hy.eval ha hc,Sem.run_bind,eqGuard_int,Result.andThen_ok,hb]; rfl) h
end
def stkL (S:List (Nat×Dg)):List Dg:=(S.map (·.2)).reverse
theorem stkL_cons (a:Nat) (r:Dg) (S:List (Nat×Dg)):stkL ((a,r) :: S)=stkL S++[r]:=by simp [stkL]
theorem stkL_len (S:List (Nat×Dg)):(stkL S).length=S.length:=by simp [stkL]
def zD:Dg:=fun _=>0#8
theorem stkL_last (a:Nat) (r:Dg) (S:List (Nat×Dg)):(stkL ((a,r) :: S)).getD S.length zD=r:=by
 rw [stkL_cons,List.getD_eq_getElem?_getD,List.getElem?_append_right (by rw [stkL_len]; omega),stkL_len,Nat.sub_self]; rfl
def finB (d:Dg) (L:List Dg):Nat→Dg
 | 0=>d
 | j+1=>finB (joinD (L.getD j zD) d) L j
theorem finB_app:∀ (j:Nat) (d x:Dg) (L:List Dg),j≤L.length→finB d (L++[x]) j=finB d L j
 | 0,_,_,_,_=>rfl
 | j+1,d,x,L,h=>by
  have e:(L++[x]).getD j zD=L.getD j zD:=by rw [List.getD_eq_getElem?_getD,List.getElem?_append_left (by omega),←List.getD_eq_getElem?_getD]
  simp only [finB,e]; exact finB_app j _ x L (by omega)
theorem finB_pred {j:Nat} {d:Dg} {L:List Dg} (h:0<j):finB d L j=finB (joinD (L.getD (j-1) zD) d) L (j-1):=by
 obtain ⟨i,rfl⟩ : ∃ i,j=i+1:=⟨j-1,by omega⟩
 rfl
theorem stk_top {S S3:List (Nat×Dg)} {a:Nat} {s:Dg} (h:S=(a,s) :: S3):(stkL S).getD ((stkL S).length-1) zD=s:=by
 subst h; rw [stkL_len]; exact stkL_last a s S3
theorem finB_eq:∀ (S:List (Nat×Dg)) (d:Dg),finB d (stkL S) S.length=finD d S
 | [],d=>rfl
 | (a,r) :: S,d=>by
  simp only [List.length_cons,finB,finD,stkL_last]
  rw [stkL_cons,finB_app _ _ _ _ (by rw [stkL_len]; exact Nat.le_refl _),finB_eq S]
theorem stk_done {S:List (Nat×Dg)} {L:List Dg} (h:Stk S L) (h0:0<L.length):0<(stkL S).length∧rootD L=finB ((stkL S).getD ((stkL S).length-1) zD) (stkL S) ((stkL S).length-1):=by
 rw [stkL_len]
 match S,h with
 | [],h=>cases h; cases h0
 | (a,r) :: S,h =>
  refine ⟨Nat.succ_pos _,?_⟩
  rw [h.done,←finB_eq S r]
  have e:((a,r) :: S).length-1=S.length:=rfl
  rw [e,stkL_last,stkL_cons,finB_app _ _ _ _ (by rw [stkL_len]; exact Nat.le_refl _)]
theorem pend_even {S:List (Nat×Dg)} {d:Dg} {a q:Nat} {l:List Dg} (h:Pend S d a l) (eq:q=l.length / 2^a) (he:q%2=0):∃ s S',S=(a,s) :: S'∧Pend S' (joinD s d) (a+1) l∧q / 2=l.length / 2^(a+1):=by
 subst eq; exact h.even he
theorem pend_odd {S:List (Nat×Dg)} {d:Dg} {a q:Nat} {l:List Dg} (h:Pend S d a l) (eq:q=l.length / 2^a) (he:¬ q%2=0):Stk ((a,d) :: S) l:=by
 subst eq; exact h.odd (by omega)
theorem pend_pos {S:List (Nat×Dg)} {d:Dg} {a q:Nat} {l:List Dg} (h:Pend S d a l) (eq:q=l.length / 2^a):0<q:=by
 obtain ⟨L,seg,hS,hl,hr,he',hb⟩:=h.out
 subst eq
 exact Nat.div_pos (by rw [← he',List.length_append,hl]; omega) (Nat.pow_pos (by decide))
theorem pend_len {S:List (Nat×Dg)} {d:Dg} {a:Nat} {l:List Dg} (h:Pend S d a l):S.length≤l.length:=by
 obtain ⟨L,seg,hS,hl,hr,he',hb⟩:=h.out
 have:=hS.short
 rw [← he',List.length_append]; omega
end Go.Tan
namespace Go.Proofs.YtdeobooblmjlfaaGreatDoor
open Go.Tan Go.RowKit
theorem leafS_ok {G:PM} {b7 b9 T7 T9:Nat} {kind:Y} {h:Sh} {p:List Y} (hle:PM.le G ((G.add b7 (cl [V kind] T7)).add b9 (cl [.slice (some ⟨b7,0,none⟩) 1 1,h.val p.length] T9))) (hq:PM.le (G.add b7 (cl [V kind] T7)) ((G.add b7 (cl [V kind] T7)).add b9 (cl [.slice (some ⟨b7,0,none⟩) 1 1,h.val p.length] T9))) (hs:SlR G 1 encY h p) (hK:RdNP G 1 0 (wa 64 kW)) (hl:p.length≤100000000000000) :
  Ct Tryz.prog 102 ([.slice (some ⟨b9,0,none⟩) 2 2]:List Value).toArray ((G.add b7 (cl [V kind] T7)).add b9 (cl [.slice (some ⟨b7,0,none⟩) 1 1,h.val p.length] T9)) [] (fun _ μ' u=>μ'=[]∧u=.agg (ba 32 (shaD (kind :: p))).toArray):=by
 have h1:SlR (G.add b7 (cl [V kind] T7)) 1 encY ⟨some ⟨b7,0,none⟩,1⟩ [kind]:=SlR.ofBlk (T:=T7) (PM.add_same _ _ _) (fun _ _=>rfl) (by simp)
 have hP:SlP ((G.add b7 (cl [V kind] T7)).add b9 (cl [.slice (some ⟨b7,0,none⟩) 1 1,h.val p.length] T9)) ⟨some ⟨b9,0,none⟩,2⟩ [(⟨some ⟨b7,0,none⟩,1⟩,[kind]),(h,p)] :=
  ⟨SlR.ofBlk (T:=T9) (PM.add_same _ _ _) (fun _ _=>rfl) (by simp),fun q hq'=>by
   rcases List.mem_cons.1 hq' with rfl | hq'
   ·exact h1.mono hq
   ·rw [List.mem_singleton.1 hq']; exact hs.mono hle⟩
 have hh:=shaSum_ok _ ⟨some ⟨b9,0,none⟩,2⟩ _ hP (hK.mono hle) (by simp [catL]; omega) (by simp)
 rw [show catL [((⟨some ⟨b7,0,none⟩,1⟩ : Sh),[kind]),(h,p)]=kind :: p by simp [catL]] at hh
 exact hh
theorem emptyS_ok {G:PM} {b7 b9 T7 T9:Nat} {kind:Y} (hle:PM.le G ((G.add b7 (cl [V kind] T7)).add b9 (cl [.slice (some ⟨b7,0,none⟩) 1 1] T9))) (hq:PM.le (G.add b7 (cl [V kind] T7)) ((G.add b7 (cl [V kind] T7)).add b9 (cl [.slice (some ⟨b7,0,none⟩) 1 1] T9))) (hK:RdNP G 1 0 (wa 64 kW)) :
  Ct Tryz.prog 102 ([.slice (some ⟨b9,0,none⟩) 1 1]:List Value).toArray ((G.add b7 (cl [V kind] T7)).add b9 (cl [.slice (some ⟨b7,0,none⟩) 1 1] T9)) [] (fun _ μ' u=>μ'=[]∧u=.agg (ba 32 (shaD [kind])).toArray):=by
 have h1:SlR (G.add b7 (cl [V kind] T7)) 1 encY ⟨some ⟨b7,0,none⟩,1⟩ [kind]:=SlR.ofBlk (T:=T7) (PM.add_same _ _ _) (fun _ _=>rfl) (by simp)
 have hP:SlP ((G.add b7 (cl [V kind] T7)).add b9 (cl [.slice (some ⟨b7,0,none⟩) 1 1] T9)) ⟨some ⟨b9,0,none⟩,1⟩ [(⟨some ⟨b7,0,none⟩,1⟩,[kind])] :=
  ⟨SlR.ofBlk (T:=T9) (PM.add_same _ _ _) (fun _ _=>rfl) (by simp),fun q hq'=>by rw [List.mem_singleton.1 hq']; exact h1.mono hq⟩
 have hh:=shaSum_ok _ ⟨some ⟨b9,0,none⟩,1⟩ _ hP (hK.mono hle) (by simp [catL]) (by simp)
 rw [show catL [((⟨some ⟨b7,0,none⟩,1⟩ : Sh),[kind])]=[kind] by simp [catL]] at hh
 exact hh
theorem joinS_ok {G G2 G3 G5:PM} {b2 b3 b5 b8 T2 T3 T5 T8:Nat} {a b:Nat→Y} (e2:G2=G.add b2 (cl (ba 32 a) T2)) (e3:G3=G2.add b3 (cl (ba 32 b) T3)) (e5:G5=G3.add b5 (cl [V 1#8] T5))
  (hle:PM.le G (G5.add b8 (cl [.slice (some ⟨b5,0,none⟩) 1 1,.slice (some ⟨b2,0,none⟩) 32 32,.slice (some ⟨b3,0,none⟩) 32 32] T8))) (hq:PM.le G5 (G5.add b8 (cl [.slice (some ⟨b5,0,none⟩) 1 1,.slice (some ⟨b2,0,none⟩) 32 32,.slice (some ⟨b3,0,none⟩) 32 32] T8))∧PM.le G3 G5∧PM.le G2 G3∧PM.le G G2∧True) (hK:RdNP G 1 0 (wa 64 kW)) :
  Ct Tryz.prog 102 ([.slice (some ⟨b8,0,none⟩) 3 3]:List Value).toArray (G5.add b8 (cl [.slice (some ⟨b5,0,none⟩) 1 1,.slice (some ⟨b2,0,none⟩) 32 32,.slice (some ⟨b3,0,none⟩) 32 32] T8)) [] (fun _ μ' u=>μ'=[]∧u=.agg (ba 32 (joinD a b)).toArray):=by
 have h1:SlR G5 1 encY ⟨some ⟨b5,0,none⟩,1⟩ [1#8]:=by rw [e5]; exact SlR.ofBlk (T:=T5) (PM.add_same _ _ _) (fun _ _=>rfl) (by simp)
 have h2:SlR G2 1 encY ⟨some ⟨b2,0,none⟩,32⟩ (yl 32 a):=by rw [e2]; exact ba_sl
 have h3:SlR G3 1 encY ⟨some ⟨b3,0,none⟩,32⟩ (yl 32 b):=by rw [e3]; exact ba_sl
 have l1:=yl_len 32 a
 have l2:=yl_len 32 b
 have hP:SlP (G5.add b8 (cl [.slice (some ⟨b5,0,none⟩) 1 1,.slice (some ⟨b2,0,none⟩) 32 32,.slice (some ⟨b3,0,none⟩) 32 32] T8)) ⟨some ⟨b8,0,none⟩,3⟩ [(⟨some ⟨b5,0,none⟩,1⟩,[1#8]),(⟨some ⟨b2,0,none⟩,32⟩,yl 32 a),(⟨some ⟨b3,0,none⟩,32⟩,yl 32 b)] :=
  ⟨SlR.ofBlk (T:=T8) (by simp [encP,l1,l2,Sh.val]; exact PM.add_same _ _ _) (fun _ _=>rfl) (by simp),fun q hq'=>by
   simp only [List.mem_cons,List.not_mem_nil,or_false] at hq'
   rcases hq' with rfl|rfl|rfl
   ·exact h1.mono hq.1
   ·exact h2.mono (hq.2.2.1.trans (hq.2.1.trans hq.1))
   ·exact h3.mono (hq.2.1.trans hq.1)⟩
 have hh:=shaSum_ok _ ⟨some ⟨b8,0,none⟩,3⟩ _ hP (hK.mono hle) (by simp [catL,l1,l2]) (by simp)
 rw [show catL [((⟨some ⟨b5,0,none⟩,1⟩ : Sh),[1#8]),(⟨some ⟨b2,0,none⟩,32⟩,yl 32 a),(⟨some ⟨b3,0,none⟩,32⟩,yl 32 b)]=1#8 :: (yl 32 a++yl 32 b) by simp [catL]] at hh
 exact hh
theorem leaf_ok (p:List Y) (h:Sh) (G:PM) (hs:SlR G 1 encY h p) (hK:RdNP G 1 0 (wa 64 kW)) (hl:p.length≤100000000000000):Ct Tryz.prog 65 ([h.val p.length]:List Value).toArray G [] (fun _ μ' u=>μ'=[]∧u=.agg (ba 32 (leafD p)).toArray):=by
 refine Ct.of Tryz.func65 rfl Tryz.ntmps65 rfl fun w0 hs0=>?_
 refine .seq (rq1 rfl rfl ?_)
 refine al rfl Fx.zq23 ?_; intro b2
 refine .nil (.code (.seq (rq5 rfl rfl ?_)))
 refine Go.Tan.b1 rfl Fx.se24 Fx.zv5 (.u rfl) rfl rfl (by decide) ?_; intro b3
 refine mV rfl rfl ?_
 refine Go.Tan.bN rfl Fx.se54 Fx.zv24 (Evp.cons (.u rfl) (Evp.cons (.u rfl) Evp.nil)) rfl (by decide) (by simp [Value.oneCell',Sh.val]) ?_; intro b5
 refine kp rfl .no Fx.go102 (Evc rfl Evn) (Gp.add .here (Gp.add .here Gp.nil)) (fun _ hle hq=>leafS_ok (kind:=0#8) hle hq.1 hs hK hl) ?_
 refine sw rfl (.u rfl) (.u rfl) rfl Fx.sz23 tk2 (by first|exact qE|exact qL|rfl) (by first|exact ba_one _ _|exact wa_one _ _|exact one_V _|decide|exact one_app (wa_one _ _) (by simp [Value.oneCell'])) ?_
 refine .nil (.code (.ret (We.fin0 Tryz.results65 (.cell rfl (fun w hw=>run_loadVarN Fx.ag23 (RdN.own .here) ((by first|exact qE|exact qL|rfl)) hw) .nil) ?_)))
 exact ⟨rfl,rfl⟩
theorem join_ok (a b:Dg) (G:PM) (hK:RdNP G 1 0 (wa 64 kW)):Ct Tryz.prog 103 ([.agg (ba 32 a).toArray,.agg (ba 32 b).toArray]:List Value).toArray G [] (fun _ μ' u=>μ'=[]∧u=.agg (ba 32 (joinD a b)).toArray):=by
 refine Ct.of Tryz.func103 rfl Tryz.ntmps103 rfl fun w0 hs0=>?_
 refine .seq (rq3 rfl rfl ?_)
 refine bx rfl (.u rfl) rfl ?_; intro b2
 refine bx rfl (.u rfl) rfl ?_; intro b3
 refine al rfl Fx.zq23 ?_; intro b4
 refine .nil (.code (.seq (Wk.draw (mc:=⟨false,false⟩) [1,2,0,3,4,5] Fx.mix (by kernel_rfl) ?_)))
 refine sa0 rfl .no Fx.ar23 (.u rfl) (sa0 rfl .no Fx.ar23 (.u rfl) ?_)
 refine Go.Tan.b1 rfl Fx.se24 Fx.zv5 (.u rfl) rfl rfl (by decide) ?_; intro b5
 refine Go.Tan.bN rfl Fx.se54 Fx.zv24 (Evp.cons (.u rfl) (Evp.cons (.u rfl) (Evp.cons (.u rfl) Evp.nil))) rfl (by decide) (by simp [Value.oneCell',Sh.val]) ?_; intro b8
 refine kp rfl .no Fx.go102 (Evc rfl Evn) (Gp.add .here (Gp.add .here (Gp.add tk1 (Gp.add tk1 Gp.nil)))) (fun _ hle hq=>joinS_ok rfl rfl rfl hle hq hK) ?_
 refine sw rfl (.u rfl) (.u rfl) rfl Fx.sz23 tk2 (by first|exact qE|exact qL|rfl) (by first|exact ba_one _ _|exact wa_one _ _|exact one_V _|decide|exact one_app (wa_one _ _) (by simp [Value.oneCell'])) ?_
 refine .nil (.code (.ret (We.fin0 Tryz.results103 (.cell rfl (fun w hw=>run_loadVarN Fx.ag23 (RdN.own .here) ((by first|exact qE|exact qL|rfl)) hw) .nil) ?_)))
 exact ⟨rfl,rfl⟩
namespace Fx
theorem se120:slE Tryz.prog 120=some (23,32,32):=by kernel_rfl
theorem sn120:(slE Tryz.prog 120).isSome=true:=by kernel_rfl
theorem go103:goFn Tryz.prog 103=true:=by kernel_rfl
theorem zw23:(Tryz.prog.info? 23).bind (·.zero)=some (.agg (ba 32 (fun _=>0#8)).toArray):=by kernel_rfl
end Fx
theorem root_ok (ds:List Dg) (h:Sh) (G:PM) (hs:SlR G 32 (ba 32) h ds) (hK:RdNP G 1 0 (wa 64 kW)) (hl:ds.length≤1000000):Ct Tryz.prog 66 ([h.val ds.length]:List Value).toArray G [] (fun _ μ' u=>μ'=[]∧u=.agg (ba 32 (rootD ds)).toArray):=by
 refine Ct.of Tryz.func66 rfl Tryz.ntmps66 rfl fun w0 hs0=>?_
 refine .seq (rq1 rfl rfl ?_)
 refine al rfl Fx.zq23 ?_; intro b2
 refine .nil (.code (.seq (.seq (rq3 rfl rfl (mV rfl rfl (ln rfl .no Fx.sn120 (.u rfl) (cp rfl .no (.u rfl) (.u rfl) rfl (.nil (.code (.cond rfl (fun c1=>?_) (fun c1=>?_)))))))))))
 ·have c1k:=c1
  try simp only [qcA,qcC,qcB] at c1
  refine .seq (rq4 rfl rfl ?_)
  refine Go.Tan.b1 rfl Fx.se24 Fx.zv5 (.u rfl) rfl rfl (by decide) ?_; intro b12
  refine Go.Tan.b1 rfl Fx.se54 Fx.zv24 (.u rfl) rfl rfl (by decide) ?_; intro b13
  refine kp rfl .no Fx.go102 (Evc rfl Evn) (Gp.add .here (Gp.add .here Gp.nil)) (fun _ hle hq=>emptyS_ok (kind:=2#8) hle hq.1 hK) ?_
  refine sw rfl (.u rfl) (.u rfl) rfl Fx.sz23 tk2 (by first|exact qE|exact qL|rfl) (by first|exact ba_one _ _|exact wa_one _ _|exact one_V _|decide|exact one_app (wa_one _ _) (by simp [Value.oneCell'])) ?_
  refine .nil (.code (.ret (We.fin0 Tryz.results66 (.cell rfl (fun w hw=>run_loadVarN Fx.ag23 (RdN.own .here) ((by first|exact qE|exact qL|rfl)) hw) .nil) ?_)))
  obtain rfl:ds=[]:=List.eq_nil_of_length_eq_zero (by omega)
  exact ⟨rfl,by rw [root_nil]; rfl⟩
 have c1k:=c1
 try simp only [qcA,qcC,qcB] at c1
 refine .skip (.code (.seq (rq1 rfl rfl (aS rfl rfl (.nil (.code (.seq (.seq (wk_nilS 32 (ba 32) 23 ?_)))))))))
 refine rq3 rfl rfl (mV rfl rfl (ln rfl .no Fx.sn120 (.u rfl) (mV rfl rfl (.nil (.code (.block ?_))))))
 refine Wk.lop (α:=Nat×List (Nat×Dg)×Value) (fun gh=>[(3,true,gh.2.2),(17,true,.int .i64 (gh.1:Int))]) (fun gh=>[rS 32 (ba 32) gh.2.2 23 (stkL gh.2.1)])
  (fun gh Gl=>(gh.1≤ds.length)∧(Stk gh.2.1 (ds.take gh.1))) (fun gh=>ds.length-gh.1) (0,[],.slice none 0 0) [(2,true,_),(15,true,_),(16,true,_)] [_]
  (esD rfl (esC rfl (by first|rfl|exact evi (by omega)) (esD rfl (esD rfl (esD rfl eZ)))))
  (mS .here rfl (mS .here rfl mN)) ?_ ?_
 ·refine ⟨?_,?_⟩
  ·(try dsimp only)<;>(first|omega|rfl|assumption|(simp; done))
  (try dsimp only)<;>(exact Stk.nil)
 intro gh N0 Gl0 hN0 hGl0 hF0
 obtain ⟨k,S,v⟩:=gh; dsimp only at hF0 hN0 ⊢
 obtain ⟨hk,hS⟩:=hF0
 have hs:=hs.mono hGl0
 have hK:=hK.mono hGl0
 refine .seq (rq1 rfl rfl (cp rfl .no (.u rfl) (.u rfl) rfl (.nil (.code (.seq (.cond rfl (fun c2=>?_) (fun c2=>?_)))))))
 ·have c2k:=c2
  try simp only [qcA,qcC,qcB] at c2
  refine .skip (.code (.seq (.block (.seq (rq6 rfl rfl (mV rfl rfl ?_))))))
  obtain ⟨x,ex⟩:=getx (k:=k) (xs:=ds) (by omega)
  refine ih rfl .no Fx.se120 (.u rfl) (.u rfl) (fun _=>by omega) (fun _=>by omega) (fun _=>hs.nn (k:=k) (by first|omega|(simp only [Bool.and_eq_true,decide_eq_true_eq] at hc; omega)|(simp only [List.length_cons,List.length_nil]; omega))) ?_
  refine lA rfl .no Fx.ag23 (.u rfl) (fun _=>(hs.at (by omega) ex).rd) (fun _=>ba_len _ _) ?_
  refine al rfl Fx.zq23 ?_; intro b5
  refine aS rfl rfl (sw rfl (.u rfl) (.u rfl) rfl Fx.sz23 .here rfl (ba_one _ _) ?_)
  refine .nil (.code (.seq (.seq (rq3 rfl rfl (mV rfl rfl (arn (((k+1):Nat):Int) rfl .no (.u rfl) (.u rfl) rfl (fun _=>by omega) (fun _=>wrap_i64 (by omega) (by omega)) ?_))))))
  refine aS rfl rfl (.nil (.code (.block ?_)))
  refine Wk.lop (α:=Nat×Nat×List (Nat×Dg)×Dg×Value) (fun gh=>[(3,true,gh.2.2.2.2),(6,true,.int .i64 (gh.1:Int))]) (fun gh=>[.blk b5 (cl (ba 32 gh.2.2.2.1) 23),rS 32 (ba 32) gh.2.2.2.2 23 (stkL gh.2.2.1)])
   (fun gh Gl=>(Pend gh.2.2.1 gh.2.2.2.1 gh.2.1 (ds.take (k+1)))∧(gh.1=(ds.take (k+1)).length / 2^gh.2.1)∧(gh.1≤k+1)) (fun gh=>gh.1) (k+1,0,S,x,v) [(2,true,_),(5,true,_),(15,true,_),(16,true,_),(17,true,_)] [_]
   (esD rfl (esC rfl (by first|rfl|exact evi (by omega)) (esD rfl (esD rfl (esD rfl (esD rfl (esD rfl eZ)))))))
   (mS .here rfl (mS .here rfl (mS .here rfl mN))) ?_ ?_
  ·refine ⟨?_,?_,?_⟩
   ·(try dsimp only)<;>(rw [List.take_add_one,ex]; exact Pend.start hS x)
   ·(try dsimp only)<;>(rw [Nat.pow_zero,Nat.div_one,List.length_take]; omega)
   (try dsimp only)<;>(first|omega|rfl|assumption|(simp; done))
  intro gh N1 Gl1 hN1 hGl1 hF1
  obtain ⟨q,a,S2,dd,v2⟩:=gh; dsimp only at hF1 hN1 ⊢
  obtain ⟨hP,eq,hqk⟩:=hF1
  have hK:=hK.mono hGl1
  have hq0:=pend_pos hP eq
  have hl2:=pend_len hP
  rw [← stkL_len,List.length_take] at hl2
  refine .seq (.seq (rq3 rfl rfl (mV rfl rfl (an1 q rfl .no (.u rfl) (.u rfl) rfl rfl ?_))))
  refine cp rfl .no (.u rfl) (.u rfl) rfl (.nil (.code (.cond rfl (fun c3=>?_) (fun c3=>?_))))
  ·have c3k:=c3
   try simp only [qcA,qcC,qcB] at c3
   refine .skip (.code (.seq (.block (.seq ?_))))
   obtain ⟨s,S3,hS3,hP3,hq3⟩:=pend_even hP eq (by omega)
   have hl3:(stkL S2).length=(stkL S3).length+1:=by rw [hS3,stkL_cons,List.length_append]; rfl
   refine wk_rv tk1 (by omega) ?_; intro bbRS capRS evRS lcRS; subst evRS
   refine Wk.draw (mc:=⟨false,false⟩) [0,1,2,3,4,5,6,7,8] Fx.mix (by kernel_rfl) ?_
   refine mV rfl rfl (mV rfl rfl (lr rfl .no Fx.sn120 (.u rfl) tk1 ?_))
   refine arn ((((stkL S2).length-1):Nat):Int) rfl .no (.u rfl) (.u rfl) rfl (fun _=>by omega) (fun _=>wrap_i64 (by omega) (by omega)) ?_
   refine ia rfl .no Fx.se120 (.u rfl) (.u rfl) (fun _=>by omega) (fun _=>by omega) ?_
   refine lA rfl .no Fx.ag23 (.u rfl) (fun _=>RdN.rowS tk1 (fun _ _=>ba_len _ _) (gd_at (z:=zD) (k:=((stkL S2).length-1)) (by omega)) (by omega)) (fun _=>ba_len _ _) ?_
   refine lA rfl .no Fx.ag23 (.u rfl) (fun _=>RdN.own .here) (fun _=>(by first|exact qE|exact qL|rfl)) ?_
   refine kv rfl .no Fx.go103 (Evc rfl (Evc rfl Evn)) (fun _=>join_ok _ _ _ hK) ?_
   refine sw rfl (.u rfl) (.u rfl) rfl Fx.sz23 .here (by first|exact qE|exact qL|rfl) (ba_one _ _) ?_
   refine .nil (.code (rq6 rfl rfl (mV rfl rfl (mV rfl rfl (lr rfl .no Fx.sn120 (.u rfl) tk1 ?_)))))
   refine ar rfl .no (.u rfl) (.u rfl) rfl (fun _=>wrap_i64 (by omega) (by omega)) ?_
   refine srh (stkL S3).length rfl Fx.se120 (.u rfl) (.u rfl) (by omega) (by omega) ?_
   refine aS rfl rfl (.nil (.blk (.code (wk_popS (stkL S3) [s] (fun _ _=>ba_len _ _) tk1 (by rw [hS3,stkL_cons]) ?_))))
   refine rq3 rfl rfl (mV rfl rfl (sr1 (q) rfl .no (.u rfl) (.u rfl) (by first|rfl|omega) rfl (by decide) ?_))
   refine aS rfl rfl (.nil (We.lpo (q / 2,a+1,S3,joinD ((stkL S2).getD ((stkL S2).length-1) zD) dd,.slice (some ⟨bbRS,0,none⟩) (stkL S3).length capRS) ?_ ?_ ?_ ?_ ?_))
   ·exact (esD rfl (esC rfl (by first|rfl|exact evi (by omega)) (esD rfl (esD rfl (esD rfl (esD rfl (esD rfl eZ)))))))
   ·exact (mS tk1 rfl (mS .here rfl (mS .here rfl mN)))
   ·first|omega|(dsimp only; omega)
   ·exact hGl1
   refine ⟨?_,?_,?_⟩
   ·(try dsimp only)<;>(rw [stk_top hS3]; exact hP3)
   ·(try dsimp only)<;>(exact hq3)
   (try dsimp only)<;>(first|omega|rfl|assumption|(simp; done))
  have c3k:=c3
  try simp only [qcA,qcC,qcB] at c3
  refine .exit (.xcode (.xlp (.xblk (.code (rq5 rfl rfl (mV rfl rfl (lA rfl .no Fx.ag23 (.u rfl) (fun _=>RdN.own .here) (fun _=>(by first|exact qE|exact qL|rfl)) ?_)))))))
  refine Go.Tan.b1 rfl Fx.se120 Fx.zw23 (.u rfl) rfl rfl (by decide) ?_; intro b44
  refine apS (xs:=(stkL S2)) (dd) rfl Fx.se120 Fx.zw23 rfl (.u rfl) (.u rfl) tk2 .here (ba_len _ _) (ba_one _ _) (by omega) (by unfold maxLen; omega) ?_; intro v45 ov45
  refine aS rfl rfl (.nil (.blk (.code (rq2 rfl rfl (arn (((k+1):Nat):Int) rfl .no (.u rfl) (.u rfl) rfl (fun _=>by omega) (fun _=>wrap_i64 (by omega) (by omega)) ?_)))))
  refine mV rfl rfl (.nil (We.lpo (k+1,(a,dd) :: S2,v45) ?_ ?_ ?_ ?_ ?_))
  ·exact (esD rfl (esC rfl (by first|rfl|exact evi (by omega)) (esD rfl (esD rfl (esD rfl eZ)))))
  ·exact (mS .here (by rw [stkL_cons]) (mS tk2 rfl mN))
  ·first|omega|(dsimp only; omega)
  ·exact (hGl0).trans hGl1
  refine ⟨?_,?_⟩
  ·(try dsimp only)<;>(first|omega|rfl|assumption|(simp; done))
  (try dsimp only)<;>(exact pend_odd hP eq (by omega))
 have c2k:=c2
 try simp only [qcA,qcC,qcB] at c2
 refine .exit (.xcode (.xlp (.xblk (.code (.seq ?_)))))
 obtain rfl:k=ds.length:=by omega
 rw [List.take_length] at hS
 obtain ⟨hs0,hroot⟩:=stk_done hS (by omega)
 have hsl:=hS.short
 rw [← stkL_len] at hsl
 refine wk_rv .here (by omega) ?_; intro bbRS capRS evRS lcRS; subst evRS
 refine rq8 rfl rfl (mV rfl rfl (mV rfl rfl (lr rfl .no Fx.sn120 (.u rfl) .here ?_)))
 refine arn ((((stkL S).length-1):Nat):Int) rfl .no (.u rfl) (.u rfl) rfl (fun _=>by omega) (fun _=>wrap_i64 (by omega) (by omega)) ?_
 refine ia rfl .no Fx.se120 (.u rfl) (.u rfl) (fun _=>by omega) (fun _=>by omega) ?_
 refine lA rfl .no Fx.ag23 (.u rfl) (fun _=>RdN.rowS .here (fun _ _=>ba_len _ _) (gd_at (z:=zD) (k:=((stkL S).length-1)) (by omega)) (by omega)) (fun _=>ba_len _ _) ?_
 refine al rfl Fx.zq23 ?_; intro b7
 refine sw rfl (.u rfl) (.u rfl) rfl Fx.sz23 .here rfl (ba_one _ _) ?_
 refine .nil (.code (.seq (.seq (rq4 rfl rfl (mV rfl rfl (lr rfl .no Fx.sn120 (.u rfl) tk1 ?_))))))
 refine ar rfl .no (.u rfl) (.u rfl) rfl (fun _=>wrap_i64 (by omega) (by omega)) ?_
 refine aS rfl rfl (.nil (.code (.block ?_)))
 refine Wk.lop (α:=Nat×Dg) (fun gh=>[(8,true,.int .i64 ((gh.1:Int)-1))]) (fun gh=>[.blk b7 (cl (ba 32 gh.2) 23)])
  (fun gh Gl=>(gh.1≤(stkL S).length-1)∧(rootD ds=finB gh.2 (stkL S) gh.1)) (fun gh=>gh.1) ((stkL S).length-1,(stkL S).getD ((stkL S).length-1) zD) [(2,true,_),(3,true,_),(7,true,_)] [_,_]
  (esC rfl (evi (by omega)) (esD rfl (esD rfl (esD rfl eZ))))
  (mS .here rfl (mS .here rfl (mS .here rfl mN))) ?_ ?_
 ·refine ⟨?_,?_⟩
  ·(try dsimp only)<;>(first|omega|rfl|assumption|(simp; done))
  (try dsimp only)<;>(exact hroot)
 intro gh N2 Gl2 hN2 hGl2 hF2
 obtain ⟨j,d⟩:=gh; dsimp only at hF2 hN2 ⊢
 obtain ⟨hj,hd⟩:=hF2
 have hK:=hK.mono hGl2
 refine .seq (.seq (rq2 rfl rfl (mV rfl rfl (cp rfl .no (.u rfl) (.u rfl) rfl (.nil (.code (.cond rfl (fun c4=>?_) (fun c4=>?_))))))))
 ·have c4k:=c4
  try simp only [qcA,qcC,qcB] at c4
  refine .skip (.code (.seq (.block (Wk.draw (mc:=⟨false,false⟩) [0,1,2,3,4,5,6] Fx.mix (by kernel_rfl) ?_))))
  refine mV rfl rfl (mV rfl rfl (ia rfl .no Fx.se120 (.u rfl) (.u rfl) (fun _=>by omega) (fun _=>by omega) ?_))
  refine lA rfl .no Fx.ag23 (.u rfl) (fun _=>RdN.rowS tk1 (fun _ _=>ba_len _ _) (gd_at (z:=zD) (k:=(j-1)) (by omega)) (by omega)) (fun _=>ba_len _ _) ?_
  refine lA rfl .no Fx.ag23 (.u rfl) (fun _=>RdN.own .here) (fun _=>(by first|exact qE|exact qL|rfl)) ?_
  refine kv rfl .no Fx.go103 (Evc rfl (Evc rfl Evn)) (fun _=>join_ok _ _ _ hK) ?_
  refine sw rfl (.u rfl) (.u rfl) rfl Fx.sz23 .here (by first|exact qE|exact qL|rfl) (ba_one _ _) ?_
  refine .nil (.blk (.code (rq3 rfl rfl (mV rfl rfl (ar rfl .no (.u rfl) (.u rfl) rfl (fun _=>wrap_i64 (by omega) (by omega)) ?_)))))
  refine aS rfl rfl (.nil (We.lpo (j-1,joinD ((stkL S).getD (j-1) zD) d) ?_ ?_ ?_ ?_ ?_))
  ·exact (esC rfl (evi (by omega)) (esD rfl (esD rfl (esD rfl eZ))))
  ·exact (mS .here rfl (mS .here rfl (mS .here rfl mN)))
  ·first|omega|(dsimp only; omega)
  ·exact hGl2
  refine ⟨?_,?_⟩
  ·(try dsimp only)<;>(first|omega|rfl|assumption|(simp; done))
  (try dsimp only)<;>(rw [hd,finB_pred (by omega)])
 have c4k:=c4
 try simp only [qcA,qcC,qcB] at c4
 refine .exit (.xcode (.xlp (.xblk (.code (.seq (rq2 rfl rfl (lA rfl .no Fx.ag23 (.u rfl) (fun _=>RdN.own .here) (fun _=>(by first|exact qE|exact qL|rfl)) ?_)))))))
 refine sw rfl (.u rfl) (.u rfl) rfl Fx.sz23 tk2 rfl (ba_one _ _) ?_
 refine .nil (.code (.ret (We.fin0 Tryz.results66 (.cell rfl (fun w hw=>run_loadVarN Fx.ag23 (RdN.own .here) ((by first|exact qE|exact qL|rfl)) hw) .nil) ?_)))
 obtain rfl:j=0:=by omega
 exact ⟨rfl,by rw [hd]; rfl⟩
end Go.Proofs.YtdeobooblmjlfaaGreatDoor
namespace Go.Tan
open Go.RowKit
section
variable {dr:Bool} {mc:Md} {P:Program} {n:Nat} {l:List Oper} {K:Env→PM→Mem→Prop} {i:Nat} {σ:List Nat} {ρ:Env} {G:PM} {μ:Mem}
variable {d t:Nat} {p:String} {af:Array Edge} {g:Option (Nat×Bool)} {c:Bool}
theorem kaf {f:FuncId} {fv:Operand} {xs:List Operand} {tys:Array TypeId} {vs vc:List Value} {μ₁ μ₂:Mem} {post:PM→Mem→Value→Prop} {dd:Option Nat} (ho:nth l i=some ⟨dd,.call { callee:=.value fv,args:=xs.toArray,argTypes:=tys },t,p,af,none⟩) (hm:mc.c=true∨dr=false) (hfv:Ev ρ true fv (.func (.func f) #[] vc.toArray)) (hf:goFn P f=true)
  (hv:∀ a,Ag n ρ a→true=true→xs.map a.eval=vs) (hp:μ.Perm (μ₁++μ₂)) (hk:Ct P f (vs++vc).toArray G μ₁ post) (h:∀ v G' μ',PM.le G G'→post G' μ' v→Wo dr mc P n l K σ (lay ρ dd true v) G' (μ'++μ₂)):Wo dr mc P n l K (i :: σ) ρ G μ :=
 .act ho (by rcases hm with h|rfl<;>simp_all [kindOf]) .no hp (fun a w ha _=>.inr ⟨f,_,by
  have h1:=hv a ha rfl
  simp [execOp,resolve,Deferred.ofValue,hfv.eval ha rfl,invoke,run_callFunc hf]
  rw [← h1],hk⟩) h
end
theorem SlR.one1 {α:Type} {enc:α→List Value} {sz:Nat} {G:PM} {b:Nat} {x:α} {T:TypeId}:SlR (G.add b (cl (enc x) T)) sz enc ⟨some ⟨b,0,none⟩,1⟩ [x]:=by
 refine ⟨fun _=>rfl,Nat.le_refl _,fun i y hy j v hj=>?_⟩
 cases i with
 | succ i=>simp at hy
 | zero =>
  simp only [List.getElem?_cons_zero,Option.some.injEq] at hy
  subst hy
  rw [Nat.zero_mul,Nat.add_zero]
  exact RdP.blk (PM.add_same _ _ _) (by show (enc x)[0+j]? = _; rw [Nat.zero_add]; exact hj)
structure StN (s:State):Prop where
 log:u64 s.log
 next:u64 s.next
 seq:u64 s.seq
 least:u64 s.least
 gens:∀ i,i<5→u64 (s.gens i)
theorem headE_wf {s:State} (h:StN s):(headE s).wf:=⟨h.log,h.next,h.seq,h.least,h.gens,(fun m hm=>absurd hm List.not_mem_nil),(fun g hg=>absurd hg List.not_mem_nil)⟩
theorem oneE_wf {m:Meta} (h:m.wf):(oneE m).wf:=by
 have z:u64 0:=⟨by decide,by decide⟩
 refine ⟨z,z,z,z,fun _ _=>z,fun x hx=>?_,(fun g hg=>absurd hg List.not_mem_nil)⟩
 rw [show x=m from List.mem_singleton.1 hx]; exact h
theorem oneE_len {m:Meta} (h:m.wf):((oneE m).add.flatMap encM).length≤m.min.size+m.max.size+112:=by
 show ([m].flatMap encM).length≤_
 rw [List.flatMap_cons,List.flatMap_nil,List.append_nil]; exact encM_len h
theorem oneE_enc {m:Meta} (h:m.wf):(encE (oneE m)).length≤m.min.size+m.max.size+222:=by
 have h1:=encE_len (oneE_wf h) (by show 1≤_; decide) (by show 0≤_; decide)
 have h2:=oneE_len h
 have h3:(oneE m).drop.length=0:=rfl
 omega
theorem headE_enc {s:State} (h:StN s):(encE (headE s)).length≤110:=encE_len (headE_wf h) (by show 0≤_; decide) (by show 0≤_; decide)
theorem headE_len {s:State}:((headE s).add.flatMap encM).length≤10:=by show ([]:List Y).length≤_; decide
def leavesT (s:State) (k j:Nat):List Dg:=leafE (headE s) :: ((allM s k++(s.lv k).take j).map fun m=>leafE (oneE m))
theorem leavesT_0 (s:State):leavesT s 0 0=[]++[leafE (headE s)]:=by simp [leavesT,allM]
theorem leavesT_snoc {s:State} {k j:Nat} {m:Meta} (h:(s.lv k)[j]? = some m):leavesT s k j++[leafE (oneE m)]=leavesT s k (j+1):=by
 unfold leavesT; rw [List.take_add_one,h]; simp
theorem leavesT_next {s:State} {k j:Nat} (h:(s.lv k).length≤j):leavesT s k j=leavesT s (k+1) 0:=by
 unfold leavesT; rw [List.take_of_length_le h]; simp [allM]
theorem leavesT_5 (s:State):leavesT s 5 0=leavesS s:=by unfold leavesT leavesS; simp
theorem leavesT_len (s:State) (k j:Nat):((leavesT s k j).length:Int)≤1+tot s k+(s.lv k).length:=by
 have h1:=allM_len s k
 unfold leavesT
 simp only [List.length_cons,List.length_map,List.length_append,List.length_take]
 omega
theorem tot_lt {s:State} {k:Nat} (h:k<5):tot s k+(s.lv k).length≤tot s 5:=tot_mono s (show k+1≤5 by omega)
theorem lvs_at (s:State) (hd:Nat→Sh) {k:Nat} {j:Int} (h:k<5) (e:j.toNat=k):((List.range 5).map fun i=>(hd i).val (s.lv i).length)[j.toNat]? = some ((hd k).val (s.lv k).length):=by
 rw [e]
 match k,h with
 | 0,_=>rfl | 1,_=>rfl | 2,_=>rfl | 3,_=>rfl | 4,_=>rfl
theorem leavesS_len (s:State):((leavesS s).length:Int)=1+tot s 5:=by
 have h1:=allM_len s 5
 unfold leavesS
 simp only [List.length_cons,List.length_map]
 omega
theorem wk_brS {α:Type} {enc:α→List Value} {sz:Nat} {ρ:Env} {G:PM} {μ:Mem} {X:Cx} {cd:Code} {k:List KI} {b E:Nat} {μ':Mem} (x:α) (hm:MTake μ (.blk b (cl (enc x) E)) μ') (hl:(enc x).length=sz)
  (h:Wk X cd k ρ G (rS sz enc (.slice (some ⟨b,0,none⟩) 1 1) E [x] :: μ')):Wk X cd k ρ G μ :=
 ⟨fun a w ha ht=>by
  have e1 : [x].flatMap enc=enc x:=by simp
  refine h.out a w ha ?_
  show Tr _ _ _ _ (.row _ E sz [x].length ([x].flatMap enc) :: μ') w
  rw [e1]
  exact (ht.perm hm.perm).asRow (m:=1) (cap:=1) (sz:=sz) (by rw [hl,Nat.one_mul]) (Nat.le_refl _) (by unfold maxLen; omega) (by simp [hl]) (by rw [Nat.one_mul,←hl]; exact List.take_of_length_le (by simp))⟩
theorem partL_go {k n f:Nat} (h1:1≤k) (h:k+k<n) (hf:n≤k+f):partL k n f=partL (k*2) n (f-1)∧n≤k*2+(f-1):=by
 obtain ⟨g,rfl⟩ : ∃ g,f=g+1:=⟨f-1,by omega⟩
 refine ⟨?_,by omega⟩
 rw [partL,if_pos h]; rfl
theorem partL_end {k n f:Nat} (h:¬ k+k<n):partL k n f=k:=by
 cases f with
 | zero=>rfl
 | succ f=>rw [partL,if_neg h]
def lightP (s:State) (e:Edit):Bool:=decide (tot s 5≤200)&&(decide ((e.add.length:Int)≤200)&&decide ((e.drop.length:Int)≤200))
theorem light_no {s:State} {e:Edit} (h:200<tot s 5):lightP s e=false:=by unfold lightP; rw [decide_eq_false (by omega)]; rfl
theorem light_yes {s:State} {e:Edit} (h:tot s 5≤200):lightP s e=(decide ((e.add.length:Int)≤200)&&decide ((e.drop.length:Int)≤200)):=by unfold lightP; rw [decide_eq_true h]; rfl
structure StL (s:State):Prop where
 few:tot s 5≤100000
 short:∀ i,i<5→∀ m∈s.lv i,m.min.size+m.max.size≤900000000000
end Go.Tan
namespace Go.Proofs.YtdeobooblmjlfaaGreatDoor
open Go.Tan Go.RowKit
namespace FxVerP
theorem ag5:aggN Tryz.prog 5=some none:=by kernel_rfl
theorem ag26:aggN Tryz.prog 26=some none:=by kernel_rfl
theorem ag3:aggN Tryz.prog 3=some none:=by kernel_rfl
theorem mix:Tryz.prog.follows .mixedOrders=true:=by kernel_rfl
end FxVerP
namespace Fx
theorem fo98_0:fOff Tryz.prog 98 0=some 0:=by kernel_rfl
theorem fo98_3:fOff Tryz.prog 98 3=some 3:=by kernel_rfl
theorem fo98_7:fOff Tryz.prog 98 7=some 7:=by kernel_rfl
theorem ag9:aggN Tryz.prog 9=some none:=by kernel_rfl
theorem fo98_6:fOff Tryz.prog 98 6=some 6:=by kernel_rfl
theorem st9:strT Tryz.prog 9=true:=by kernel_rfl
theorem fo98_5:fOff Tryz.prog 98 5=some 5:=by kernel_rfl
theorem fo98_4:fOff Tryz.prog 98 4=some 4:=by kernel_rfl
theorem fo33_2:fOff Tryz.prog 33 2=some 6:=by kernel_rfl
theorem fo98_1:fOff Tryz.prog 98 1=some 1:=by kernel_rfl
theorem fo33_5:fOff Tryz.prog 33 5=some 9:=by kernel_rfl
theorem ar31:arE Tryz.prog 31=some (5,26,1):=by kernel_rfl
theorem fo33_0:fOff Tryz.prog 33 0=some 0:=by kernel_rfl
theorem ar30:arE Tryz.prog 30=some (5,29,1):=by kernel_rfl
theorem ag29:aggN Tryz.prog 29=some none:=by kernel_rfl
theorem se29:slE Tryz.prog 29=some (98,40,112):=by kernel_rfl
theorem sn29:(slE Tryz.prog 29).isSome=true:=by kernel_rfl
theorem zw98:(Tryz.prog.info? 98).bind (·.zero)=some (.agg (Meta.zero.cells).toArray):=by kernel_rfl
end Fx
theorem stands_ok (a b:Meta) (G:PM) (h0:0≤a.level):Ct Tryz.prog 98 ([a.val,b.val]:List Value).toArray G [] (fun _ μ' u=>μ'=[]∧u=.bool (pairOk a.level a b)):=by
 refine Ct.of Tryz.func98 rfl Tryz.ntmps98 rfl fun w0 hs0=>?_
 refine .seq (rq3 rfl rfl ?_)
 refine bx rfl (.u rfl) rfl ?_; intro b2
 refine bx rfl (.u rfl) rfl ?_; intro b3
 refine aS rfl rfl (.nil (.code (.seq (.seq (rq3 rfl rfl (fz rfl .no Fx.fo98_0 (.u rfl) (ld rfl .no FxVerP.ag5 (.u rfl) (fun _=>Rd.own tk1 rfl) ?_)))))))
 refine cp rfl .no (.u rfl) (.u rfl) rfl (.nil (.code (.cond rfl (fun c1=>?_) (fun c1=>?_))))
 ·have c1k:=c1
  try simp only [qcA] at c1
  refine .seq (rq6 rfl rfl (fz rfl .no Fx.fo98_3 (.u rfl) (ld rfl .no FxVerP.ag26 (.u rfl) (fun _=>Rd.own tk1 rfl) ?_)))
  refine fz rfl .no Fx.fo98_3 (.u rfl) (ld rfl .no FxVerP.ag26 (.u rfl) (fun _=>Rd.own .here rfl) ?_)
  refine cp rfl .no (.u rfl) (.u rfl) rfl (aS rfl rfl (.nil (.code (.ret (We.fin0 Tryz.results98 (.tmp rfl .nil) ?_)))))
  exact ⟨rfl,congrArg Value.bool (by rw [← stands_eq a b h0,if_pos c1k])⟩
 have c1k:=c1
 try simp only [qcA] at c1
 refine .skip (.code (.seq (rq6 rfl rfl (fz rfl .no Fx.fo98_7 (.u rfl) (ld rfl .no Fx.ag9 (.u rfl) (fun _=>Rd.own tk1 rfl) ?_)))))
 refine fz rfl .no Fx.fo98_6 (.u rfl) (ld rfl .no Fx.ag9 (.u rfl) (fun _=>Rd.own .here rfl) ?_)
 refine cs rfl .no (.u rfl) (.u rfl) rfl (aS rfl rfl (.nil (.code (.ret (We.fin0 Tryz.results98 (.tmp rfl .nil) ?_)))))
 exact ⟨rfl,congrArg Value.bool (by rw [← stands_eq a b h0,if_neg (by rw [c1k]; simp)]; rfl)⟩
theorem fits_ok (s:State) (hd:Nat→Sh) (m:Meta) (b:Nat) (G:PM) (hp:RdNP G b 0 (s.cells hd)) (h0:0≤m.level):Ct Tryz.prog 97 ([.pointer (some ⟨b,0,none⟩),m.val]:List Value).toArray G [] (fun _ μ' u=>μ'=[]∧u=.bool (good s m)):=by
 refine Ct.of Tryz.func97 rfl Tryz.ntmps97 rfl fun w0 hs0=>?_
 refine .seq (rq2 rfl rfl ?_)
 refine bx rfl (.u rfl) rfl ?_; intro b3
 refine aS rfl rfl (.nil (.code (.seq (.block (.seq (.seq (rq4 rfl rfl (fz rfl .no Fx.fo98_0 (.u rfl) (ld rfl .no FxVerP.ag5 (.u rfl) (fun _=>Rd.own .here rfl) ?_)))))))))
 refine cp rfl .no (.u rfl) (.u rfl) rfl (aS rfl rfl (.nil (.code (.cond rfl (fun c1=>?_) (fun c1=>?_)))))
 ·have c1k:=c1
  try simp only [qcA] at c1
  refine .skip (.code (Wk.condT rfl c1k ?_))
  refine .seq (rq1 rfl rfl (aS rfl rfl (.nil (.code (.ret (We.fin0 Tryz.results97 (.tmp rfl .nil) ?_))))))
  exact ⟨rfl,by simp [tup,good]; omega⟩
 have c1k:=c1
 try simp only [qcA] at c1
 refine .seq (rq6 rfl rfl (fz rfl .no Fx.fo98_6 (.u rfl) (ld rfl .no Fx.ag9 (.u rfl) (fun _=>Rd.own .here rfl) ?_)))
 refine fz rfl .no Fx.fo98_7 (.u rfl) (ld rfl .no Fx.ag9 (.u rfl) (fun _=>Rd.own .here rfl) ?_)
 refine cs rfl .no (.u rfl) (.u rfl) rfl (aS rfl rfl (.nil (.code (.cond rfl (fun c2=>?_) (fun c2=>?_)))))
 ·have c2k:=c2
  try simp only [qcA] at c2
  refine .skip (.code (Wk.condT rfl c2k ?_))
  refine .seq (rq1 rfl rfl (aS rfl rfl (.nil (.code (.ret (We.fin0 Tryz.results97 (.tmp rfl .nil) ?_))))))
  exact ⟨rfl,by have h:le m.min m.max=false:=(by simpa [le] using c2k); simp [tup,good,h]⟩
 have c2k:=c2
 try simp only [qcA] at c2
 refine .seq (rq9 rfl rfl (fz rfl .no Fx.fo98_6 (.u rfl) (ld rfl .no Fx.ag9 (.u rfl) (fun _=>Rd.own .here rfl) ?_)))
 refine ls rfl .no Fx.st9 (.u rfl) (fz rfl .no Fx.fo98_7 (.u rfl) (ld rfl .no Fx.ag9 (.u rfl) (fun _=>Rd.own .here rfl) ?_))
 refine ls rfl .no Fx.st9 (.u rfl) (mA rfl .no (.u rfl) (.u rfl) ?_)
 refine cp rfl .no (.u rfl) (.u rfl) rfl (aS rfl rfl (.nil (.code (.cond rfl (fun c3=>?_) (fun c3=>?_)))))
 ·have c3k:=c3
  try simp only [qcA] at c3
  refine .skip (.code (Wk.condT rfl c3k ?_))
  refine .seq (rq1 rfl rfl (aS rfl rfl (.nil (.code (.ret (We.fin0 Tryz.results97 (.tmp rfl .nil) ?_))))))
  exact ⟨rfl,by simp [tup,good]; omega⟩
 have c3k:=c3
 try simp only [qcA] at c3
 refine .seq (rq4 rfl rfl (fz rfl .no Fx.fo98_5 (.u rfl) (ld rfl .no FxVerP.ag3 (.u rfl) (fun _=>Rd.own .here rfl) ?_)))
 refine cp rfl .no (.u rfl) (.u rfl) rfl (aS rfl rfl (.nil (.code (.cond rfl (fun c4=>?_) (fun c4=>?_)))))
 ·have c4k:=c4
  try simp only [qcA] at c4
  refine .skip (.code (Wk.condT rfl c4k ?_))
  refine .seq (rq1 rfl rfl (aS rfl rfl (.nil (.code (.ret (We.fin0 Tryz.results97 (.tmp rfl .nil) ?_))))))
  exact ⟨rfl,by simp [tup,good]; omega⟩
 have c4k:=c4
 try simp only [qcA] at c4
 refine rq4 rfl rfl (fz rfl .no Fx.fo98_4 (.u rfl) (ld rfl .no FxVerP.ag3 (.u rfl) (fun _=>Rd.own .here rfl) ?_))
 refine cp rfl .no (.u rfl) (.u rfl) rfl (aS rfl rfl (.nil (.code (.cond rfl (fun c5=>?_) (fun c5=>?_)))))
 ·have c5k:=c5
  try simp only [qcA] at c5
  refine .seq (rq1 rfl rfl (aS rfl rfl (.nil (.code (.ret (We.fin0 Tryz.results97 (.tmp rfl .nil) ?_))))))
  exact ⟨rfl,by simp [tup,good]; omega⟩
 have c5k:=c5
 try simp only [qcA] at c5
 refine .skip (.blk (.code (.seq (Wk.draw (mc:=⟨false,false⟩) [0,1,2,3,4,5,6,7,8,9,10,11,12,13,14,15,16,17,18,19] FxVerP.mix (by kernel_rfl) ?_))))
 refine fz rfl .no Fx.fo98_3 (.u rfl) (ld rfl .no FxVerP.ag26 (.u rfl) (fun _=>Rd.own .here rfl) ?_)
 refine mV rfl rfl (nc rfl .no (.u rfl) (fz rfl .no Fx.fo33_2 (.u rfl) (ld rfl .no FxVerP.ag26 (.u rfl) (fun _=>(hp.z rfl).rd) ?_)))
 refine cp rfl .no (.u rfl) (.u rfl) rfl (mV rfl rfl (fz rfl (.t rfl rfl) Fx.fo98_1 (.u rfl) (ld rfl (.t rfl rfl) FxVerP.ag26 (.s rfl) (fun _=>Rd.own .here rfl) ?_)))
 refine mv rfl (.t rfl rfl) (.u rfl) (fz rfl (.t rfl rfl) Fx.fo98_0 (.u rfl) (ld rfl (.t rfl rfl) FxVerP.ag5 (.s rfl) (fun _=>Rd.own .here rfl) ?_))
 refine nc rfl (.t rfl rfl) (.s rfl) (fz rfl (.t rfl rfl) Fx.fo33_5 (.s rfl) (iA rfl (.t rfl rfl) Fx.ar31 (.s rfl) (.s rfl) (fun hc=>by omega) (fun hc=>by omega) ?_))
 refine ld rfl (.t rfl rfl) FxVerP.ag26 (.s rfl) (fun hc=>(hp.z (s.cell_gen hd (by omega))).rd) ?_
 refine cp rfl (.t rfl rfl) (.s rfl) (.s rfl) rfl (pkA rfl .no (.u rfl) (.s rfl) (aS rfl rfl (.nil (.code (.ret (We.fin0 Tryz.results97 (.tmp rfl .nil) ?_))))))
 exact ⟨rfl,fits_fin c1 c2k c3 c4 c5⟩
theorem good_ok (s:State) (hd:Nat→Sh) (G:PM) (hs:StR G s hd) (m:Meta) (h0:0≤m.level):Ct Tryz.prog 91 ([s.val hd,m.val]:List Value).toArray G [] (fun _ μ' u=>μ'=[]∧u=.bool (good s m)):=by
 refine Ct.of Tryz.func91 rfl Tryz.ntmps91 rfl fun w0 hs0=>?_
 refine .seq (rq3 rfl rfl ?_)
 refine bx rfl (.u rfl) rfl ?_; intro b2
 refine bx rfl (.u rfl) rfl ?_; intro b3
 refine aS rfl rfl (.nil (.code (.seq (Wk.draw (mc:=⟨false,false⟩) [0,1,2,3,4,5,6,7,8,9,10,11,12,13,14,15,16,17,18,19,20,21,22,23,24,25,26,27,28,29,30,31,32,33,34,35,36,37,38,39,40,41,42,43,44,45,46,47,48,49] FxVerP.mix (by kernel_rfl) ?_))))
 refine fz rfl .no Fx.fo98_0 (.u rfl) (ld rfl .no FxVerP.ag5 (.u rfl) (fun _=>Rd.own .here rfl) ?_)
 refine cp rfl .no (.u rfl) (.u rfl) rfl (mV rfl rfl (fz rfl (.t rfl rfl) Fx.fo98_6 (.u rfl) (ld rfl (.t rfl rfl) Fx.ag9 (.s rfl) (fun _=>Rd.own .here rfl) ?_)))
 refine fz rfl (.t rfl rfl) Fx.fo98_7 (.u rfl) (ld rfl (.t rfl rfl) Fx.ag9 (.s rfl) (fun _=>Rd.own .here rfl) ?_)
 refine cs rfl (.t rfl rfl) (.s rfl) (.s rfl) rfl (pkA rfl .no (.u rfl) (.s rfl) (mV rfl rfl (fz rfl (.t rfl rfl) Fx.fo98_6 (.u rfl) (ld rfl (.t rfl rfl) Fx.ag9 (.s rfl) (fun _=>Rd.own .here rfl) ?_))))
 refine ls rfl (.t rfl rfl) Fx.st9 (.s rfl) (cp rfl (.t rfl rfl) (.s rfl) (.u rfl) rfl (pkA rfl .no (.u rfl) (.s rfl) (mV rfl rfl (fz rfl (.t rfl rfl) Fx.fo98_7 (.u rfl) (ld rfl (.t rfl rfl) Fx.ag9 (.s rfl) (fun _=>Rd.own .here rfl) ?_)))))
 refine ls rfl (.t rfl rfl) Fx.st9 (.s rfl) (cp rfl (.t rfl rfl) (.s rfl) (.u rfl) rfl (pkA rfl .no (.u rfl) (.s rfl) (mV rfl rfl (fz rfl (.t rfl rfl) Fx.fo98_5 (.u rfl) (ld rfl (.t rfl rfl) FxVerP.ag3 (.s rfl) (fun _=>Rd.own .here rfl) ?_)))))
 refine cp rfl (.t rfl rfl) (.s rfl) (.u rfl) rfl (pkA rfl .no (.u rfl) (.s rfl) (mV rfl rfl (fz rfl (.t rfl rfl) Fx.fo98_4 (.u rfl) (ld rfl (.t rfl rfl) FxVerP.ag3 (.s rfl) (fun _=>Rd.own .here rfl) ?_))))
 refine cp rfl (.t rfl rfl) (.s rfl) (.u rfl) rfl (pkA rfl .no (.u rfl) (.s rfl) (mV rfl rfl (fz rfl (.t rfl rfl) Fx.fo98_3 (.u rfl) (ld rfl (.t rfl rfl) FxVerP.ag26 (.s rfl) (fun _=>Rd.own .here rfl) ?_))))
 refine fz rfl (.t rfl rfl) Fx.fo33_2 (.u rfl) (ld rfl (.t rfl rfl) FxVerP.ag26 (.s rfl) (fun _=>Rd.own tk1 rfl) ?_)
 refine cp rfl (.t rfl rfl) (.s rfl) (.s rfl) rfl (pkA rfl .no (.u rfl) (.s rfl) (mV rfl rfl (fz rfl (.t rfl rfl) Fx.fo98_1 (.u rfl) (ld rfl (.t rfl rfl) FxVerP.ag26 (.s rfl) (fun _=>Rd.own .here rfl) ?_))))
 refine fz rfl (.t rfl rfl) Fx.fo98_0 (.u rfl) (ld rfl (.t rfl rfl) FxVerP.ag5 (.s rfl) (fun _=>Rd.own .here rfl) ?_)
 refine fz rfl (.t rfl rfl) Fx.fo33_5 (.u rfl) (iA rfl (.t rfl rfl) Fx.ar31 (.s rfl) (.s rfl) (fun hc=>by omega) (fun hc=>by simp only [Bool.and_eq_true,decide_eq_true_eq] at hc; omega) ?_)
 refine ld rfl (.t rfl rfl) FxVerP.ag26 (.s rfl) (fun hc=>Rd.own tk1 (s.cell_gen hd (by simp only [Bool.and_eq_true,decide_eq_true_eq] at hc; omega))) ?_
 refine cp rfl (.t rfl rfl) (.s rfl) (.s rfl) rfl (pkA rfl .no (.u rfl) (.s rfl) (aS rfl rfl (.nil (.code (.ret (We.fin0 Tryz.results91 (.tmp rfl .nil) ?_))))))
 exact ⟨rfl,rfl⟩
theorem many_ok (s:State) (hd:Nat→Sh) (G:PM) (hs:StR G s hd):Ct Tryz.prog 89 ([s.val hd]:List Value).toArray G [] (fun _ μ' u=>μ'=[]∧u=.bool (decide (1024<tot s 5))):=by
 refine Ct.of Tryz.func89 rfl Tryz.ntmps89 rfl fun w0 hs0=>?_
 refine .seq (rq2 rfl rfl ?_)
 refine bx rfl (.u rfl) rfl ?_; intro b1
 refine aS rfl rfl (.nil (.code (.seq (rq1 rfl rfl (aS rfl rfl (.nil (.code (.seq (.seq (rq1 rfl rfl (aS rfl rfl (.nil (.code (.block ?_))))))))))))))
 refine Wk.lop (α:=Nat) (fun k=>[(3,true,.int .i64 (1024-tot s k)),(4,true,.int .i64 (k:Int))]) (fun _=>[])
  (fun k Gl=>k≤5∧tot s k≤1024) (fun k=>5-k) 0 [(1,true,_)] [.blk b1 _]
  (esD rfl (esD rfl (esD rfl eZ)))
  (mS .here rfl mN) ?_ ?_
 ·exact ⟨by omega,by simp [tot]⟩
 intro k N0 Gl0 hN0 hGl0 hF0
 try dsimp only at hF0 hN0 ⊢
 obtain ⟨hk,ht⟩:=hF0; have hn:=tot_nonneg s k
 refine .seq (.seq (rq2 rfl rfl (mV rfl rfl (cp rfl .no (.u rfl) (.u rfl) rfl (.nil (.code (.cond rfl (fun c1=>?_) (fun c1=>?_))))))))
 ·have c1k:=c1
  try simp only [qcA] at c1
  refine .skip (.code (.seq (.block (.seq (.seq (rq7 rfl rfl (mV rfl rfl (fz rfl .no Fx.fo33_0 (.u rfl) (iA rfl .no Fx.ar30 (.u rfl) (.u rfl) (fun _=>by omega) (fun _=>by omega) ?_)))))))))
  refine ld rfl .no Fx.ag29 (.u rfl) (fun _=>Rd.own .here (s.cell_lv hd (k:=k) (by omega))) ?_
  refine ln rfl .no Fx.sn29 (.u rfl) (mV rfl rfl (cp rfl .no (.u rfl) (.u rfl) rfl (.nil (.code (.cond rfl (fun c2=>?_) (fun c2=>?_))))))
  ·have c2k:=c2
   try simp only [qcA] at c2
   refine .seq (rq1 rfl rfl (aS rfl rfl (.nil (.code (.ret (We.fin0 Tryz.results89 (.tmp rfl .nil) ?_))))))
   exact ⟨rfl,by have:=tot_mono s (show k+1≤5 by omega); rw [show tot s (k+1)=tot s k+(s.lv k).length from rfl] at this; simp only [tup,Value.bool.injEq]; symm; rw [decide_eq_true_eq]; omega⟩
  have c2k:=c2
  try simp only [qcA] at c2
  refine .skip (.code (rq8 rfl rfl (mV rfl rfl (mV rfl rfl (fz rfl .no Fx.fo33_0 (.u rfl) (iA rfl .no Fx.ar30 (.u rfl) (.u rfl) (fun _=>by omega) (fun _=>by omega) ?_))))))
  refine ld rfl .no Fx.ag29 (.u rfl) (fun _=>Rd.own .here (s.cell_lv hd (k:=k) (by omega))) ?_
  refine ln rfl .no Fx.sn29 (.u rfl) (ar rfl .no (.u rfl) (.u rfl) rfl (fun _=>wrap_i64 (by omega) (by omega)) ?_)
  refine aS rfl rfl (.nil (.blk (.code (rq3 rfl rfl (mV rfl rfl (ar rfl .no (.u rfl) (.u rfl) rfl (fun _=>wrap_i64 (by omega) (by omega)) ?_))))))
  refine aS rfl rfl (.nil (We.lpo (k+1) ?_ ?_ ?_ ?_ ?_))
  ·exact (esC rfl (congrArg _ (by simp only [tot]; omega)) (esD rfl (esD rfl eZ)))
  ·exact (mS .here rfl mN)
  ·first|omega|(dsimp only; omega)
  ·exact hGl0
  exact ⟨by omega,by simp only [tot]; omega⟩
 have c1k:=c1
 try simp only [qcA] at c1
 refine .exit (.xcode (.xlp (.xblk (.code (.seq (rq1 rfl rfl (aS rfl rfl (.nil (.code (.ret (We.fin0 Tryz.results89 (.tmp rfl .nil) ?_)))))))))))
 exact ⟨rfl,by (obtain rfl:k=5:=by omega); simp only [tup,Value.bool.injEq]; symm; rw [decide_eq_false_iff_not]; omega⟩
theorem order_ok (level:Int) (h:Sh) (l:List Meta) (G:PM) (hs:SlR G 40 Meta.cells h l) (h0:0≤level) (hl:l.length*112≤140737488351232):Ct Tryz.prog 90 ([.int .i64 level,h.val l.length]:List Value).toArray G [] (fun _ μ' u=>μ'=[]∧u=.bool (ordB level l)):=by
 refine Ct.of Tryz.func90 rfl Tryz.ntmps90 rfl fun w0 hs0=>?_
 refine .seq (rq1 rfl rfl (aS rfl rfl (.nil (.code (.seq (.seq (rq1 rfl rfl (aS rfl rfl (.nil (.code (.block ?_)))))))))))
 refine Wk.lop (α:=Nat) (fun k=>[(5,true,.int .i64 (k:Int))]) (fun _=>[])
  (fun k Gl=>1≤k∧(k≤l.length∨l.length=0∧k=1)∧∀ j,j+1<k→pairOk level (l.getD j Meta.zero) (l.getD (j+1) Meta.zero)=true) (fun k=>l.length-k) 1 [(0,true,_),(1,true,_)] []
  (esD rfl (esD rfl (esD rfl eZ)))
  mN ?_ ?_
 ·exact ⟨by omega,by omega,fun j hj=>by omega⟩
 intro k N0 Gl0 hN0 hGl0 hF0
 try dsimp only at hF0 hN0 ⊢
 obtain ⟨hk,hk2,hall⟩:=hF0
 refine .seq (.seq (rq4 rfl rfl (mV rfl rfl (mV rfl rfl (ln rfl .no Fx.sn29 (.u rfl) (cp rfl .no (.u rfl) (.u rfl) rfl (.nil (.code (.cond rfl (fun c1=>?_) (fun c1=>?_))))))))))
 ·have c1k:=c1
  try simp only [qcA] at c1
  refine .skip (.code (.seq (.block (.seq (Wk.draw (mc:=⟨false,false⟩) [0,1,2,3,4,5,6,7,8,9,10,11,12,13,14,15,16,17,18,19,20,21,22,23,24,25,26,27,28,29,30,31,32,33] FxVerP.mix (by kernel_rfl) ?_)))))
  refine mV rfl rfl (cp rfl .no (.u rfl) (.u rfl) rfl (mV rfl rfl (mv rfl (.t rfl rfl) (.u rfl) (mv rfl (.t rfl rfl) (.u rfl) (ar rfl (.t rfl rfl) (.s rfl) (.u rfl) rfl (fun hc=>wrap_i64 (by omega) (by omega)) ?_)))))
  refine ih rfl (.t rfl rfl) Fx.se29 (.s rfl) (.s rfl) (fun hc=>by omega) (fun hc=>by omega) (fun hc=>hs.nn (k:=k) (by omega)) ?_
  refine fa rfl (.t rfl rfl) Fx.fo98_3 (.s rfl) (ld rfl (.t rfl rfl) FxVerP.ag26 (.s rfl) (fun hc=>((hs.mono hGl0).gat (k-1) (by omega) (by omega) 3 _ rfl).rd) ?_)
  refine mv rfl (.t rfl rfl) (.u rfl) (mv rfl (.t rfl rfl) (.u rfl) (ih rfl (.t rfl rfl) Fx.se29 (.s rfl) (.s rfl) (fun hc=>by omega) (fun hc=>by omega) (fun hc=>hs.nn (k:=k) (by omega)) ?_))
  refine fa rfl (.t rfl rfl) Fx.fo98_3 (.s rfl) (ld rfl (.t rfl rfl) FxVerP.ag26 (.s rfl) (fun hc=>((hs.mono hGl0).gat k (by omega) (by omega) 3 _ rfl).rd) ?_)
  refine cp rfl (.t rfl rfl) (.s rfl) (.s rfl) rfl (pkA rfl .no (.u rfl) (.s rfl) (mV rfl rfl (mv rfl (.f rfl rfl) (.u rfl) (cp rfl (.f rfl rfl) (.s rfl) (.u rfl) rfl (mv rfl (.f rfl rfl) (.s rfl) (mv rfl (.tc rfl rfl) (.u rfl) (mv rfl (.tc rfl rfl) (.u rfl) (ar rfl (.tc rfl rfl) (.s rfl) (.u rfl) rfl (fun hc=>wrap_i64 (by omega) (by omega)) ?_))))))))
  refine ih rfl (.tc rfl rfl) Fx.se29 (.s rfl) (.s rfl) (fun hc=>by omega) (fun hc=>by omega) (fun hc=>hs.nn (k:=k) (by omega)) ?_
  refine fa rfl (.tc rfl rfl) Fx.fo98_7 (.s rfl) (ld rfl (.tc rfl rfl) Fx.ag9 (.s rfl) (fun hc=>((hs.mono hGl0).gat (k-1) (by omega) (by omega) 7 _ rfl).rd) ?_)
  refine mv rfl (.tc rfl rfl) (.u rfl) (mv rfl (.tc rfl rfl) (.u rfl) (ih rfl (.tc rfl rfl) Fx.se29 (.s rfl) (.s rfl) (fun hc=>by omega) (fun hc=>by omega) (fun hc=>hs.nn (k:=k) (by omega)) ?_))
  refine fa rfl (.tc rfl rfl) Fx.fo98_6 (.s rfl) (ld rfl (.tc rfl rfl) Fx.ag9 (.s rfl) (fun hc=>((hs.mono hGl0).gat k (by omega) (by omega) 6 _ rfl).rd) ?_)
  refine cs rfl (.tc rfl rfl) (.s rfl) (.s rfl) rfl (pkA rfl (.f rfl rfl) (.s rfl) (.s rfl) (pkO rfl .no (.u rfl) (.s rfl) (.nil (.code (.cond rfl (fun c2=>?_) (fun c2=>?_))))))
  ·have c2k:=c2
   try simp only [qcA] at c2
   refine .seq (rq1 rfl rfl (aS rfl rfl (.nil (.code (.ret (We.fin0 Tryz.results90 (.tmp rfl .nil) ?_))))))
   exact ⟨rfl,ord_false hk (by omega) (by simpa using wrong_of h0 c2k)⟩
  have c2k:=c2
  try simp only [qcA] at c2
  refine .skip (.blk (.code (rq3 rfl rfl (mV rfl rfl (ar rfl .no (.u rfl) (.u rfl) rfl (fun _=>wrap_i64 (by omega) (by omega)) ?_)))))
  refine aS rfl rfl (.nil (We.lpo (k+1) ?_ ?_ ?_ ?_ ?_))
  ·exact (esD rfl (esD rfl (esD rfl eZ)))
  ·exact mN
  ·first|omega|(dsimp only; omega)
  ·exact hGl0
  exact ⟨by omega,by omega,ord_step hall hk (by simpa using wrong_of h0 c2k)⟩
 have c1k:=c1
 try simp only [qcA] at c1
 refine .exit (.xcode (.xlp (.xblk (.code (.seq (rq1 rfl rfl (aS rfl rfl (.nil (.code (.ret (We.fin0 Tryz.results90 (.tmp rfl .nil) ?_)))))))))))
 exact ⟨rfl,ord_true (by omega) hall⟩
theorem all_ok (s:State) (hd:Nat→Sh) (G:PM) (hs:StR G s hd) (hf:tot s 5≤1024):Ct Tryz.prog 92 ([s.val hd]:List Value).toArray G [] (fun G' μ' u=>μ'=[]∧∃ h:Sh,u=h.val (allM s 5).length∧SlR G' 40 Meta.cells h (allM s 5)):=by
 refine Ct.of Tryz.func92 rfl Tryz.ntmps92 rfl fun w0 hs0=>?_
 refine .seq (rq2 rfl rfl ?_)
 refine bx rfl (.u rfl) rfl ?_; intro b1
 refine aS rfl rfl (.nil (.code (.seq (rq1 rfl rfl (aS rfl rfl (.nil (.code (.seq (.seq (rq1 rfl rfl (aS rfl rfl (.nil (.code (.block (wk_nilRow 98 40 ?_)))))))))))))))
 refine Wk.lop (α:=Nat×Value) (fun gh=>[(3,true,gh.2),(4,true,.int .i64 (gh.1:Int))]) (fun gh=>[.row gh.2 98 40 (allM s gh.1).length ((allM s gh.1).flatMap Meta.cells)])
  (fun gh Gl=>gh.1≤5) (fun gh=>5-gh.1) (0,.slice none 0 0) [(1,true,_)] [.blk b1 _]
  (esD rfl (esD rfl (esD rfl eZ)))
  (mS .here rfl (mS .here rfl mN)) ?_ ?_
 ·show 0≤5; omega
 intro gh N0 Gl0 hN0 hGl0 hF0
 obtain ⟨k,v⟩:=gh; dsimp only at hF0 hN0 ⊢
 have hk:k≤5:=hF0; have hn:=tot_mono s (show k≤5 by omega); have hal:=allM_len s k
 refine .seq (.seq (rq2 rfl rfl (mV rfl rfl (cp rfl .no (.u rfl) (.u rfl) rfl (.nil (.code (.cond rfl (fun c1=>?_) (fun c1=>?_))))))))
 ·have c1k:=c1
  try simp only [qcA] at c1
  refine .skip (.code (.seq (.block (rq7 rfl rfl ?_))))
  have hn1:=tot_mono s (show k+1≤5 by omega); rw [show tot s (k+1)=tot s k+(s.lv k).length from rfl] at hn1
  refine mV rfl rfl (mV rfl rfl (fz rfl .no Fx.fo33_0 (.u rfl) (iA rfl .no Fx.ar30 (.u rfl) (.u rfl) (fun _=>by omega) (fun _=>by omega) ?_)))
  refine ld rfl .no Fx.ag29 (.u rfl) (fun _=>Rd.own tk1 (s.cell_lv hd (k:=k) (by omega))) ?_
  refine ap rfl Fx.se29 Fx.zw98 rfl (.u rfl) (.u rfl) .here (flat_len (metas_len _)) (fun h=>⟨_,_,(hs.lv k (by omega)).nn h,((hs.lv k (by omega)).mono hGl0 |>.flat (metas_len _)).rd⟩) (metas_one _) (by omega) (by unfold maxLen; omega) ?_; intro v14
  refine aS rfl rfl (.nil (.blk (.code (rq3 rfl rfl (mV rfl rfl (ar rfl .no (.u rfl) (.u rfl) rfl (fun _=>wrap_i64 (by omega) (by omega)) ?_))))))
  refine aS rfl rfl (.nil (We.lpo (k+1,v14) ?_ ?_ ?_ ?_ ?_))
  ·exact (esD rfl (esD rfl (esD rfl eZ)))
  ·exact (mS .here (allM_row s k _ _) (mS .here rfl mN))
  ·first|omega|(dsimp only; omega)
  ·exact hGl0
  show k+1≤5; omega
 have c1k:=c1
 try simp only [qcA] at c1
 refine .exit (.xcode (.xlp (.xblk (.code (.seq (rq2 rfl rfl (mV rfl rfl (aS rfl rfl (.nil (.code (.ret (we_fr .here (fun b hb=>by cases hb) ?_))))))))))))
 intro Gf hh hlef hv hcap hnn hrd; subst hv
 refine We.fin0 Tryz.results92 (.tmp rfl .nil) ?_
 obtain rfl:k=5:=by omega
 exact ⟨rfl,hh,rfl,SlR.ofRow (metas_len _) hcap hnn hrd⟩
namespace FxVerQ
theorem cv5_3:cvK Tryz.prog 5 3=some .i64:=by kernel_rfl
end FxVerQ
namespace Fx
theorem fo33_3:fOff Tryz.prog 33 3=some 7:=by kernel_rfl
theorem fo33_4:fOff Tryz.prog 33 4=some 8:=by kernel_rfl
theorem fo33_1:fOff Tryz.prog 33 1=some 5:=by kernel_rfl
theorem ag33:aggN Tryz.prog 33=some (some 14):=by kernel_rfl
theorem go89:goFn Tryz.prog 89=true:=by kernel_rfl
theorem go90:goFn Tryz.prog 90=true:=by kernel_rfl
theorem ag98:aggN Tryz.prog 98=some (some 40):=by kernel_rfl
theorem go91:goFn Tryz.prog 91=true:=by kernel_rfl
theorem go92:goFn Tryz.prog 92=true:=by kernel_rfl
theorem ag30:aggN Tryz.prog 30=some (some 5):=by kernel_rfl
theorem zq98:zrL Tryz.prog 98=some (Meta.zero.cells):=by kernel_rfl
theorem sz98:szT Tryz.prog 98=some 40:=by kernel_rfl
theorem mp154:mpE Tryz.prog 154=some (.u64,3):=by kernel_rfl
theorem zv3:(Tryz.prog.info? 3).bind (·.zero)=some (.int .i64 0):=by kernel_rfl
theorem go97:goFn Tryz.prog 97=true:=by kernel_rfl
theorem go98:goFn Tryz.prog 98=true:=by kernel_rfl
end Fx
set_option maxHeartbeats 1000000 in
theorem rRight_ok (s:State) (hd:Nat→Sh) (G:PM) (hs:StR G s hd):Ct Tryz.prog 48 ([s.val hd]:List Value).toArray G [] (fun _ μ' u=>μ'=[]∧u=.bool (rightS s)):=by
 refine Ct.of Tryz.func48 rfl Tryz.ntmps48 rfl fun w0 hs0=>?_
 refine .seq (rq2 rfl rfl ?_)
 refine bx rfl (.u rfl) rfl ?_; intro b1
 refine aS rfl rfl (.nil (.code (.seq (.seq (Wk.rg [0,1,2,3,4,5,6,7,8,9,10,11,12,13,14,15,16,17,18] rfl rfl (fz rfl .no Fx.fo33_3 (.u rfl) (ld rfl .no FxVerP.ag26 (.u rfl) (fun _=>Rd.own .here rfl) ?_)))))))
 refine cp rfl .no (.u rfl) (.u rfl) rfl (mV rfl rfl (fz rfl (.f rfl rfl) Fx.fo33_4 (.u rfl) (ld rfl (.f rfl rfl) FxVerP.ag26 (.s rfl) (fun _=>Rd.own .here rfl) ?_)))
 refine cp rfl (.f rfl rfl) (.s rfl) (.u rfl) rfl (pkO rfl .no (.u rfl) (.s rfl) (mV rfl rfl (fz rfl (.f rfl rfl) Fx.fo33_1 (.u rfl) (ld rfl (.f rfl rfl) FxVerP.ag26 (.s rfl) (fun _=>Rd.own .here rfl) ?_))))
 refine fz rfl (.f rfl rfl) Fx.fo33_2 (.u rfl) (ld rfl (.f rfl rfl) FxVerP.ag26 (.s rfl) (fun _=>Rd.own .here rfl) ?_)
 refine cp rfl (.f rfl rfl) (.s rfl) (.s rfl) rfl (pkO rfl .no (.u rfl) (.s rfl) (mV rfl rfl (lA rfl (.f rfl rfl) Fx.ag33 (.u rfl) (fun _=>RdN.own .here) (fun _=>rfl) ?_)))
 refine kv rfl (.f rfl rfl) Fx.go89 (Eva.cons (.s rfl) Evn) (fun hc=>many_ok _ _ _ (by assumption)) ?_
 refine pkO rfl .no (.u rfl) (.s rfl) (.nil (.code (.cond rfl (fun c1=>?_) (fun c1=>?_))))
 ·have c1k:=c1
  try simp only [qcA] at c1
  refine .seq (rq1 rfl rfl (aS rfl rfl (.nil (.code (.ret (We.fin0 Tryz.results48 (.tmp rfl .nil) ?_))))))
  exact ⟨rfl,fin_false (rs_head c1)⟩
 have c1k:=c1
 try simp only [qcA] at c1
 refine .skip (.code (.seq (.seq (rq1 rfl rfl (aS rfl rfl (.nil (.code (.block ?_))))))))
 refine Wk.lop (α:=Nat) (fun i=>[(3,true,.int .i64 (i:Int))]) (fun _=>[])
  (fun i Gl=>i≤5∧∀ j,j<i→LvOk s j (s.lv j)) (fun i=>5-i) 0 [(1,true,_)] [.blk b1 _]
  (esD rfl (esD rfl eZ))
  (mS .here rfl mN) ?_ ?_
 ·exact ⟨by omega,fun j hj=>by omega⟩
 intro i N0 Gl0 hN0 hGl0 hF0
 try dsimp only at hF0 hN0 ⊢
 obtain ⟨hi,hall⟩:=hF0
 refine .seq (.seq (rq2 rfl rfl (mV rfl rfl (cp rfl .no (.u rfl) (.u rfl) rfl (.nil (.code (.cond rfl (fun c2=>?_) (fun c2=>?_))))))))
 ·have c2k:=c2
  try simp only [qcA] at c2
  refine .skip (.code (.seq (.block (.seq (.seq (rq7 rfl rfl ?_))))))
  have hli:=hs.len i (by omega)
  refine mV rfl rfl (mV rfl rfl (fz rfl .no Fx.fo33_0 (.u rfl) (iA rfl .no Fx.ar30 (.u rfl) (.u rfl) (fun _=>by omega) (fun _=>by omega) ?_)))
  refine ld rfl .no Fx.ag29 (.u rfl) (fun _=>Rd.own .here (s.cell_lv hd (k:=i) (by omega))) ?_
  refine kv rfl .no Fx.go90 (Evc rfl (Evc rfl Evn)) (fun _=>order_ok _ _ _ _ ((hs.mono hGl0).lv i (by omega)) (by omega) hli) ?_
  refine nt rfl .no (.u rfl) (.nil (.code (.cond rfl (fun c3=>?_) (fun c3=>?_))))
  ·have c3k:=c3
   try simp only [qcA] at c3
   refine .seq (rq1 rfl rfl (aS rfl rfl (.nil (.code (.ret (We.fin0 Tryz.results48 (.tmp rfl .nil) ?_))))))
   exact ⟨rfl,fin_false (rs_ord (by omega) c3)⟩
  have c3k:=c3
  try simp only [qcA] at c3
  refine .skip (.code (.seq (rq1 rfl rfl (aS rfl rfl (.nil (.code (.block ?_)))))))
  refine Wk.lop (α:=Nat) (fun k=>[(4,true,.int .i64 (k:Int))]) (fun _=>[])
   (fun k Gl=>k≤(s.lv i).length∧∀ j,j<k→((s.lv i).getD j Meta.zero).level=i∧good s ((s.lv i).getD j Meta.zero)=true) (fun k=>(s.lv i).length-k) 0 [(1,true,_),(3,true,_)] [.blk b1 _]
   (esD rfl (esD rfl (esD rfl eZ)))
   (mS .here rfl mN) ?_ ?_
  ·exact ⟨by omega,fun j hj=>by omega⟩
  intro k N1 Gl1 hN1 hGl1 hF1
  try dsimp only at hF1 hN1 ⊢
  obtain ⟨hk,hgood⟩:=hF1
  refine .seq (.seq (rq7 rfl rfl (mV rfl rfl (mV rfl rfl (fz rfl .no Fx.fo33_0 (.u rfl) (iA rfl .no Fx.ar30 (.u rfl) (.u rfl) (fun _=>by omega) (fun _=>by omega) ?_))))))
  refine ld rfl .no Fx.ag29 (.u rfl) (fun _=>Rd.own .here (s.cell_lv hd (k:=i) (by omega))) ?_
  refine ln rfl .no Fx.sn29 (.u rfl) (cp rfl .no (.u rfl) (.u rfl) rfl (.nil (.code (.cond rfl (fun c4=>?_) (fun c4=>?_)))))
  ·have c4k:=c4
   try simp only [qcA] at c4
   refine .skip (.code (.seq (.block (.seq (Wk.draw (mc:=⟨false,false⟩) [0,1,2,3,4,5,6,7,8,9,10,11,12,13,14,15,16,17,18,19,20,21,22] FxVerP.mix (by kernel_rfl) ?_)))))
   have hwf:=(hs.wf i (by omega) _ (getD_mem (k:=k) (by omega))).level
   refine mV rfl rfl (fz rfl .no Fx.fo33_0 (.u rfl) (iA rfl .no Fx.ar30 (.u rfl) (.u rfl) (fun _=>by omega) (fun _=>by omega) ?_))
   refine ld rfl .no Fx.ag29 (.u rfl) (fun _=>Rd.own .here (s.cell_lv hd (k:=i) (by omega))) ?_
   refine mV rfl rfl (ih rfl .no Fx.se29 (.u rfl) (.u rfl) (fun _=>by omega) (fun _=>by omega) (fun _=>(hs.lv i (by omega)).nn (k:=k) (by omega)) ?_)
   refine fa rfl .no Fx.fo98_0 (.u rfl) (ld rfl .no FxVerP.ag5 (.u rfl) (fun _=>((((hs.mono hGl0).mono hGl1).lv i (by omega)).gat k (by omega) (by omega) 0 _ rfl).rd) ?_)
   refine cw rfl .no FxVerQ.cv5_3 (.u rfl) (fun _=>wrap_i64 (by omega) (by omega)) ?_
   refine mV rfl rfl (cp rfl .no (.u rfl) (.u rfl) rfl (mV rfl rfl (lA rfl (.f rfl rfl) Fx.ag33 (.u rfl) (fun _=>RdN.own .here) (fun _=>rfl) ?_)))
   refine mv rfl (.f rfl rfl) (.u rfl) (fz rfl (.f rfl rfl) Fx.fo33_0 (.u rfl) (iA rfl (.f rfl rfl) Fx.ar30 (.s rfl) (.s rfl) (fun hc=>by omega) (fun hc=>by omega) ?_))
   refine ld rfl (.f rfl rfl) Fx.ag29 (.s rfl) (fun hc=>Rd.own .here (s.cell_lv hd (k:=i) (by omega))) ?_
   refine mv rfl (.f rfl rfl) (.u rfl) (ih rfl (.f rfl rfl) Fx.se29 (.s rfl) (.s rfl) (fun hc=>by omega) (fun hc=>by omega) (fun hc=>(hs.lv i (by omega)).nn (k:=k) (by omega)) ?_)
   refine lA rfl (.f rfl rfl) Fx.ag98 (.s rfl) (fun hc=>((((hs.mono hGl0).mono hGl1).lv i (by omega)).gat k (by omega) (by omega)).rd) (fun _=>rfl) ?_
   refine kv rfl (.f rfl rfl) Fx.go91 (Eva.cons (.s rfl) (Eva.cons (.s rfl) Evn)) (fun hc=>good_ok _ _ _ ((hs.mono hGl0).mono hGl1) _ hwf.1) ?_
   refine nt rfl (.f rfl rfl) (.s rfl) (pkO rfl .no (.u rfl) (.s rfl) (.nil (.code (.cond rfl (fun c5=>?_) (fun c5=>?_)))))
   ·have c5k:=c5
    try simp only [qcA] at c5
    refine .seq (rq1 rfl rfl (aS rfl rfl (.nil (.code (.ret (We.fin0 Tryz.results48 (.tmp rfl .nil) ?_))))))
    exact ⟨rfl,fin_false (rs_good (by omega) (by omega) c5)⟩
   have c5k:=c5
   try simp only [qcA] at c5
   refine .skip (.blk (.code (rq3 rfl rfl (mV rfl rfl (ar rfl .no (.u rfl) (.u rfl) rfl (fun _=>wrap_i64 (by omega) (by omega)) ?_)))))
   refine aS rfl rfl (.nil (We.lpo (k+1) ?_ ?_ ?_ ?_ ?_))
   ·exact (esD rfl (esD rfl (esD rfl eZ)))
   ·exact (mS .here rfl mN)
   ·first|omega|(dsimp only; omega)
   ·exact hGl1
   exact ⟨by omega,good_step hgood c5⟩
  have c4k:=c4
  try simp only [qcA] at c4
  refine .exit (.xcode (.xlp (.xblk (.blk (.code (rq3 rfl rfl (mV rfl rfl (ar rfl .no (.u rfl) (.u rfl) rfl (fun _=>wrap_i64 (by omega) (by omega)) ?_))))))))
  refine aS rfl rfl (.nil (We.lpo (i+1) ?_ ?_ ?_ ?_ ?_))
  ·exact (esD rfl (esD rfl eZ))
  ·exact (mS .here rfl mN)
  ·first|omega|(dsimp only; omega)
  ·exact hGl0.trans hGl1
  exact ⟨by omega,lv_step hall c3 (by omega) hgood⟩
 have c2k:=c2
 try simp only [qcA] at c2
 refine .exit (.xcode (.xlp (.xblk (.code (.seq (rq3 rfl rfl (lA rfl .no Fx.ag33 (.u rfl) (fun _=>RdN.own .here) (fun _=>rfl) ?_)))))))
 refine kc rfl Fx.go92 (Evc rfl Evn) (all_ok _ _ _ (hs.mono hGl0) c1.2) ?_
 rintro v Ga μa hGa ⟨rfl,ha,rfl,hsa⟩
 refine aS rfl rfl (.nil (.code (.seq (.seq (rq1 rfl rfl ?_)))))
 have hal:=allM_len s 5
 refine aS rfl rfl (.nil (.code (.block ?_)))
 refine Wk.lop (α:=Nat) (fun p=>[(6,true,.int .i64 (p:Int))]) (fun _=>[])
  (fun p Gl=>p≤(allM s 5).length∧∀ a b,a<p→b<a→((allM s 5).getD a Meta.zero).number≠((allM s 5).getD b Meta.zero).number) (fun p=>(allM s 5).length-p) 0 [(5,true,_)] [.blk b1 _]
  (esD rfl (esD rfl eZ))
  (mS .here rfl mN) ?_ ?_
 ·exact ⟨by omega,fun a b ha hb=>by omega⟩
 intro p N2 Gl2 hN2 hGl2 hF2
 try dsimp only at hF2 hN2 ⊢
 obtain ⟨hp,hpn⟩:=hF2
 refine .seq (.seq (rq4 rfl rfl (mV rfl rfl (mV rfl rfl (ln rfl .no Fx.sn29 (.u rfl) (cp rfl .no (.u rfl) (.u rfl) rfl (.nil (.code (.cond rfl (fun c6=>?_) (fun c6=>?_))))))))))
 ·have c6k:=c6
  try simp only [qcA] at c6
  refine .skip (.code (.seq (.block (.seq (rq1 rfl rfl (aS rfl rfl (.nil (.code (.block ?_)))))))))
  refine Wk.lop (α:=Nat) (fun q=>[(7,true,.int .i64 (q:Int))]) (fun _=>[])
   (fun q Gl=>q≤p∧∀ b,b<q→((allM s 5).getD p Meta.zero).number≠((allM s 5).getD b Meta.zero).number) (fun q=>p-q) 0 [(5,true,_),(6,true,_)] [.blk b1 _]
   (esD rfl (esD rfl (esD rfl eZ)))
   (mS .here rfl mN) ?_ ?_
  ·exact ⟨by omega,fun b hb=>by omega⟩
  intro q N3 Gl3 hN3 hGl3 hF3
  try dsimp only at hF3 hN3 ⊢
  obtain ⟨hq,hqn⟩:=hF3
  refine .seq (.seq (rq3 rfl rfl (mV rfl rfl (mV rfl rfl (cp rfl .no (.u rfl) (.u rfl) rfl (.nil (.code (.cond rfl (fun c7=>?_) (fun c7=>?_)))))))))
  ·have c7k:=c7
   try simp only [qcA] at c7
   refine .skip (.code (.seq (.block (.seq (Wk.draw (mc:=⟨false,false⟩) [0,1,2,3,4,5,6,7,8,9,10] FxVerP.mix (by kernel_rfl) ?_)))))
   refine mV rfl rfl (mV rfl rfl (ih rfl .no Fx.se29 (.u rfl) (.u rfl) (fun _=>by omega) (fun _=>by omega) (fun _=>hsa.nn (k:=p) (by omega)) ?_))
   refine fa rfl .no Fx.fo98_3 (.u rfl) (ld rfl .no FxVerP.ag26 (.u rfl) (fun _=>(((hsa.mono hGl2).mono hGl3).gat p (by omega) (by omega) 3 _ rfl).rd) ?_)
   refine mV rfl rfl (mV rfl rfl (ih rfl .no Fx.se29 (.u rfl) (.u rfl) (fun _=>by omega) (fun _=>by omega) (fun _=>hsa.nn (k:=q) (by omega)) ?_))
   refine fa rfl .no Fx.fo98_3 (.u rfl) (ld rfl .no FxVerP.ag26 (.u rfl) (fun _=>(((hsa.mono hGl2).mono hGl3).gat q (by omega) (by omega) 3 _ rfl).rd) ?_)
   refine cp rfl .no (.u rfl) (.u rfl) rfl (.nil (.code (.cond rfl (fun c8=>?_) (fun c8=>?_))))
   ·have c8k:=c8
    try simp only [qcA] at c8
    refine .seq (rq1 rfl rfl (aS rfl rfl (.nil (.code (.ret (We.fin0 Tryz.results48 (.tmp rfl .nil) ?_))))))
    exact ⟨rfl,fin_false (rs_num (by omega) (by omega) c8k)⟩
   have c8k:=c8
   try simp only [qcA] at c8
   refine .skip (.blk (.code (rq3 rfl rfl (mV rfl rfl (ar rfl .no (.u rfl) (.u rfl) rfl (fun _=>wrap_i64 (by omega) (by omega)) ?_)))))
   refine aS rfl rfl (.nil (We.lpo (q+1) ?_ ?_ ?_ ?_ ?_))
   ·exact (esD rfl (esD rfl (esD rfl eZ)))
   ·exact (mS .here rfl mN)
   ·first|omega|(dsimp only; omega)
   ·exact hGl3
   exact ⟨by omega,num_step1 hqn c8k⟩
  have c7k:=c7
  try simp only [qcA] at c7
  refine .exit (.xcode (.xlp (.xblk (.blk (.code (rq3 rfl rfl (mV rfl rfl (ar rfl .no (.u rfl) (.u rfl) rfl (fun _=>wrap_i64 (by omega) (by omega)) ?_))))))))
  refine aS rfl rfl (.nil (We.lpo (p+1) ?_ ?_ ?_ ?_ ?_))
  ·exact (esD rfl (esD rfl eZ))
  ·exact (mS .here rfl mN)
  ·first|omega|(dsimp only; omega)
  ·exact hGl2.trans hGl3
  exact ⟨by omega,num_step hpn (by omega) hqn⟩
 have c6k:=c6
 try simp only [qcA] at c6
 refine .exit (.xcode (.xlp (.xblk (.code (.seq (rq1 rfl rfl (aS rfl rfl (.nil (.code (.ret (We.fin0 Tryz.results48 (.tmp rfl .nil) ?_)))))))))))
 exact ⟨rfl,fin_true (rs_all c1 (by omega) hall (by omega) hpn)⟩
set_option maxHeartbeats 1000000 in
theorem vRight_ok (s:State) (hd:Nat→Sh) (G:PM) (hs:StR G s hd):Ct Tryz.prog 54 ([s.val hd]:List Value).toArray G [] (fun _ μ' u=>μ'=[]∧u=.bool (rightS s)):=by
 refine Ct.of Tryz.func54 rfl Tryz.ntmps54 rfl fun w0 hs0=>?_
 refine .seq (rq2 rfl rfl ?_)
 refine bx rfl (.u rfl) rfl ?_; intro b1
 refine aS rfl rfl (.nil (.code (.seq (.seq (Wk.rg [0,1,2,3,4,5,6,7,8,9,10,11,12] rfl rfl (fz rfl .no Fx.fo33_3 (.u rfl) (ld rfl .no FxVerP.ag26 (.u rfl) (fun _=>Rd.own .here rfl) ?_)))))))
 refine fz rfl .no Fx.fo33_4 (.u rfl) (ld rfl .no FxVerP.ag26 (.u rfl) (fun _=>Rd.own .here rfl) ?_)
 refine mA rfl .no (.u rfl) (.u rfl) ?_
 refine cp rfl .no (.u rfl) (.u rfl) rfl (mV rfl rfl (fz rfl (.f rfl rfl) Fx.fo33_1 (.u rfl) (ld rfl (.f rfl rfl) FxVerP.ag26 (.s rfl) (fun _=>Rd.own .here rfl) ?_)))
 refine fz rfl (.f rfl rfl) Fx.fo33_2 (.u rfl) (ld rfl (.f rfl rfl) FxVerP.ag26 (.s rfl) (fun _=>Rd.own .here rfl) ?_)
 refine cp rfl (.f rfl rfl) (.s rfl) (.s rfl) rfl (pkO rfl .no (.u rfl) (.s rfl) (.nil (.code (.cond rfl (fun c1=>?_) (fun c1=>?_)))))
 ·have c1k:=c1
  try simp only [qcA] at c1
  refine .seq (rq1 rfl rfl (aS rfl rfl (.nil (.code (.ret (We.fin0 Tryz.results54 (.tmp rfl .nil) ?_))))))
  exact ⟨rfl,fin_false (rs_max c1)⟩
 have c1k:=c1
 try simp only [qcA] at c1
 refine .skip (.code (.seq (rq2 rfl rfl ?_)))
 refine mk rfl .u64 ?_; intro b22
 refine aS rfl rfl (.nil (.code (.seq (rq1 rfl rfl (aS rfl rfl (.nil (.code (.seq (.seq (rq3 rfl rfl (fz rfl .no Fx.fo33_0 (.u rfl) (lA rfl .no Fx.ag30 (.u rfl) (fun _=>RdN.part (n:=5) tk1 rfl) (fun _=>rfl) ?_))))))))))))
 refine mV rfl rfl (.nil (.code (.block ?_)))
 refine Wk.lop (α:=Nat) (fun i=>[(4,true,.int .i64 (1024-tot s i)),(25,true,.int .i64 (i:Int))]) (fun i=>[.mp b22 .u64 (cntM (nums (allM s i)))])
  (fun i Gl=>i≤5∧tot s i≤1024∧(∀ j,j<i→LvOk s j (s.lv j))∧Dist (allM s i)) (fun i=>5-i) 0 [(1,true,_),(3,true,_),(24,true,_)] [.blk b1 _]
  (esD rfl (esD rfl (esD rfl (esD rfl (esD rfl eZ)))))
  (mS .here rfl (mS .here rfl mN)) ?_ ?_
 ·exact ⟨by omega,by simp [tot],fun j hj=>by omega,dist_nil⟩
 intro i N0 Gl0 hN0 hGl0 hF0
 try dsimp only at hF0 hN0 ⊢
 obtain ⟨hi,ht,hall,hdi⟩:=hF0
 refine .seq (rq1 rfl rfl (cp rfl .no (.u rfl) (.u rfl) rfl (.nil (.code (.seq (.cond rfl (fun c2=>?_) (fun c2=>?_)))))))
 ·have c2k:=c2
  try simp only [qcA] at c2
  refine .skip (.code (.seq (.block (.seq (rq4 rfl rfl ?_)))))
  have hli:=hs.len i (by omega); have htn:=tot_nonneg s i
  refine mV rfl rfl (ix rfl .no Fx.ar30 Fx.ag29 (.u rfl) (.u rfl) (fun _=>by omega) (fun _=>by omega) (fun _=>(s.arr_lv hd (k:=i) (by omega))) ?_)
  refine aS rfl rfl (aS rfl rfl (.nil (.code (.seq (.seq (rq4 rfl rfl (mV rfl rfl (ln rfl .no Fx.sn29 (.u rfl) (mV rfl rfl (cp rfl .no (.u rfl) (.u rfl) rfl (.nil (.code (.cond rfl (fun c3=>?_) (fun c3=>?_))))))))))))))
  ·have c3k:=c3
   try simp only [qcA] at c3
   refine .seq (rq1 rfl rfl (aS rfl rfl (.nil (.code (.ret (We.fin0 Tryz.results54 (.tmp rfl .nil) ?_))))))
   exact ⟨rfl,fin_false (rs_few (by omega) c3)⟩
  have c3k:=c3
  try simp only [qcA] at c3
  refine .skip (.code (.seq (rq5 rfl rfl (mV rfl rfl (mV rfl rfl (ln rfl .no Fx.sn29 (.u rfl) (ar rfl .no (.u rfl) (.u rfl) rfl (fun _=>wrap_i64 (by omega) (by omega)) ?_)))))))
  refine aS rfl rfl (.nil (.code (.seq (rq3 rfl rfl (mV rfl rfl (ln rfl .no Fx.sn29 (.u rfl) (mV rfl rfl (.nil (.code (.block ?_))))))))))
  refine Wk.lop (α:=Nat) (fun k=>[(39,true,.int .i64 (k:Int))]) (fun k=>[.mp b22 .u64 (cntM (nums (allM s i++(s.lv i).take k)))])
   (fun k Gl=>Part s i k) (fun k=>(s.lv i).length-k) 0 [(1,true,_),(3,true,_),(4,true,_),(5,true,_),(6,true,_),(24,true,_),(25,true,_),(37,true,_),(38,true,_)] [.blk b1 _]
   (esD rfl (esD rfl (esD rfl (esD rfl (esD rfl (esD rfl (esD rfl (esD rfl (esD rfl (esD rfl eZ))))))))))
   (mS .here (cnt_zero s i _) (mS .here rfl mN)) ?_ ?_
  ·exact Part.zero hdi
  intro k N1 Gl1 hN1 hGl1 hF1
  try dsimp only at hF1 hN1 ⊢
  have hP:Part s i k:=hF1; have hkl:=hP.le
  refine .seq (rq1 rfl rfl (cp rfl .no (.u rfl) (.u rfl) rfl (.nil (.code (.seq (.cond rfl (fun c4=>?_) (fun c4=>?_)))))))
  ·have c4k:=c4
   try simp only [qcA] at c4
   refine .skip (.code (.seq (.block (.seq (rq6 rfl rfl ?_)))))
   have hwf:=(hs.wf i (by omega) _ (getD_mem (k:=k) (by omega))).level; have hcb:=cnt_bd (nums (allM s i++(s.lv i).take k)) ((s.lv i).getD k Meta.zero).number
   refine mV rfl rfl (ih rfl .no Fx.se29 (.u rfl) (.u rfl) (fun _=>by omega) (fun _=>by omega) (fun _=>(hs.lv i (by omega)).nn (k:=k) (by omega)) ?_)
   refine lA rfl .no Fx.ag98 (.u rfl) (fun _=>((((hs.mono hGl0).mono hGl1).lv i (by omega)).gat k (by omega) (by omega)).rd) (fun _=>rfl) ?_
   refine al rfl Fx.zq98 ?_; intro b8
   refine aS rfl rfl (sw rfl (.u rfl) (.u rfl) rfl Fx.sz98 .here rfl (Meta.one _) ?_)
   refine .nil (.code (.seq (rq6 rfl rfl (mV rfl rfl (fz rfl .no Fx.fo98_3 (.u rfl) (ld rfl .no FxVerP.ag26 (.u rfl) (fun _=>Rd.own .here rfl) ?_))))))
   refine lk rfl .no Fx.mp154 Fx.zv3 (.u rfl) (.u rfl) tk1 (cnt_get _ _) ?_
   refine ar rfl .no (.u rfl) (.u rfl) rfl (fun _=>wrap_i64 (by omega) (by omega)) ?_
   refine mu rfl Fx.mp154 (.u rfl) (.u rfl) (.u rfl) tk1 ?_
   refine .nil (.code (.seq (Wk.draw (mc:=⟨false,false⟩) [0,1,2,3,4,5,6,7,8,9,10,11,12,13,14,15,16,17,18,19,20,21,22,23,24,25,26,27,28,29,30] FxVerP.mix (by kernel_rfl) ?_)))
   refine fz rfl .no Fx.fo98_0 (.u rfl) (ld rfl .no FxVerP.ag5 (.u rfl) (fun _=>Rd.own tk1 rfl) ?_)
   refine cw rfl .no FxVerQ.cv5_3 (.u rfl) (fun _=>wrap_i64 (by omega) (by omega)) ?_
   refine mV rfl rfl (cp rfl .no (.u rfl) (.u rfl) rfl (mV rfl rfl (lA rfl (.f rfl rfl) Fx.ag98 (.u rfl) (fun _=>RdN.own tk1) (fun _=>rfl) ?_)))
   refine kp rfl (.f rfl rfl) Fx.go97 (Evc rfl (Eva.cons (.s rfl) Evn)) (Gp.add tk2 Gp.nil) (fun hc hle hq=>fits_ok s hd _ b1 _ RdNP.add hwf.1) ?_
   refine nt rfl (.f rfl rfl) (.s rfl) (pkO rfl .no (.u rfl) (.s rfl) (mV rfl rfl (mv rfl (.f rfl rfl) (.u rfl) (fz rfl (.f rfl rfl) Fx.fo98_3 (.u rfl) (ld rfl (.f rfl rfl) FxVerP.ag26 (.s rfl) (fun _=>Rd.own tk1 rfl) ?_)))))
   refine lk rfl (.f rfl rfl) Fx.mp154 Fx.zv3 (.s rfl) (.s rfl) .here (cnt_upd _ _ _ _) ?_
   refine cp rfl (.f rfl rfl) (.s rfl) (.u rfl) rfl (pkO rfl .no (.u rfl) (.s rfl) (mV rfl rfl (mv rfl (.f rfl rfl) (.u rfl) (cp rfl (.f rfl rfl) (.s rfl) (.u rfl) rfl (mv rfl (.f rfl rfl) (.s rfl) (mv rfl (.tc rfl rfl) (.u rfl) (mv rfl (.tc rfl rfl) (.u rfl) (ar rfl (.tc rfl rfl) (.s rfl) (.u rfl) rfl (fun hc=>wrap_i64 (by omega) (by omega)) ?_))))))))
   refine ih rfl (.tc rfl rfl) Fx.se29 (.s rfl) (.s rfl) (fun hc=>by simp only [Bool.and_eq_true,decide_eq_true_eq] at hc; omega) (fun hc=>by simp only [Bool.and_eq_true,decide_eq_true_eq] at hc; omega) (fun hc=>(hs.lv i (by omega)).nn (k:=k) (by omega)) ?_
   refine lA rfl (.tc rfl rfl) Fx.ag98 (.s rfl) (fun hc=>((((hs.mono hGl0).mono hGl1).lv i (by omega)).gat (k-1) (by simp only [Bool.and_eq_true,decide_eq_true_eq] at hc; omega) (by omega)).rd) (fun _=>rfl) ?_
   refine lA rfl (.tc rfl rfl) Fx.ag98 (.u rfl) (fun _=>RdN.own tk1) (fun _=>rfl) ?_
   refine kv rfl (.tc rfl rfl) Fx.go98 (Eva.cons (.s rfl) (Eva.cons (.s rfl) Evn)) (fun hc=>stands_ok _ _ _ (hs.wf i (by omega) _ (getD_mem (by simp only [Bool.and_eq_true,decide_eq_true_eq] at hc; omega))).level.1) ?_
   refine nt rfl (.tc rfl rfl) (.s rfl) (pkA rfl (.f rfl rfl) (.s rfl) (.s rfl) (pkO rfl .no (.u rfl) (.s rfl) (.nil (.code (.cond rfl (fun c5=>?_) (fun c5=>?_))))))
   ·have c5k:=c5
    try simp only [qcA] at c5
    refine .seq (rq1 rfl rfl (aS rfl rfl (.nil (.code (.ret (We.fin0 Tryz.results54 (.tmp rfl .nil) ?_))))))
    exact ⟨rfl,fin_false (rt_bad (by omega) (by omega) hP c5k)⟩
   have c5k:=c5
   try simp only [qcA] at c5
   refine .skip (.blk (.code (rq2 rfl rfl (ar rfl .no (.u rfl) (.u rfl) rfl (fun _=>wrap_i64 (by omega) (by omega)) ?_))))
   refine mV rfl rfl (.nil ?_)
   have hst:=rt_good (by omega) hP c5k
   refine We.lpo (k+1) ?_ ?_ ?_ ?_ ?_
   ·exact (esD rfl (esD rfl (esD rfl (esD rfl (esD rfl (esD rfl (esD rfl (esD rfl (esD rfl (esD rfl eZ))))))))))
   ·exact (mS .here (cnt_step (by omega) hst.2) (mS tk1 rfl mN))
   ·first|omega|(dsimp only; omega)
   ·exact hGl1
   exact hst.1
  have c4k:=c4
  try simp only [qcA] at c4
  refine .exit (.xcode (.xlp (.xblk (.blk (.code (rq2 rfl rfl (ar rfl .no (.u rfl) (.u rfl) rfl (fun _=>wrap_i64 (by omega) (by omega)) ?_)))))))
  refine mV rfl rfl (.nil (We.lpo (i+1) ?_ ?_ ?_ ?_ ?_))
  ·exact (esC rfl (congrArg _ (by rw [show tot s (i+1)=tot s i+(s.lv i).length from rfl]; omega)) (esD rfl (esD rfl (esD rfl (esD rfl eZ)))))
  ·exact (mS .here (cnt_next (by omega)) (mS .here rfl mN))
  ·first|omega|(dsimp only; omega)
  ·exact hGl0.trans hGl1
  exact ⟨by omega,by rw [show tot s (i+1)=tot s i+(s.lv i).length from rfl]; omega,fun j hj=>(by by_cases e:j=i; (subst e; exact hP.lvOk (by omega)); exact hall j (by omega)),hP.next (by omega)⟩
 have c2k:=c2
 try simp only [qcA] at c2
 refine .exit (.xcode (.xlp (.xblk (.code (.seq (rq1 rfl rfl (aS rfl rfl (.nil (.code (.ret (We.fin0 Tryz.results54 (.tmp rfl .nil) ?_)))))))))))
 exact ⟨rfl,fin_true (rs_done c1 (by omega) ht hall hdi)⟩
theorem idx_ok (h:Sh) (l:List Meta) (G:PM) (hs:SlR G 40 Meta.cells h l) (hl:l.length*112≤140737488351232) (f:Nat) (hf:goFn Tryz.prog f=true) (vc:List Value) (p:Meta→Bool) (hc:∀ G',PM.le G G'→∀ m∈l,Ct Tryz.prog f ([m.val]++vc).toArray G' [] fun _ μ' u=>μ'=[]∧u=.bool (p m)):Ct Tryz.prog 57 ([h.val l.length,.func (.func f) #[] vc.toArray]:List Value).toArray G [] (fun _ μ' u=>μ'=[]∧u=.int .i64 (idxI p l)):=by
 refine Ct.of Tryz.func57 rfl Tryz.ntmps57 rfl fun w0 hs0=>?_
 refine .seq (rq1 rfl rfl (aS rfl rfl (.nil (.code (.seq (.seq (rq3 rfl rfl (mV rfl rfl (ln rfl .no Fx.sn29 (.u rfl) (mV rfl rfl (.nil (.code (.block ?_)))))))))))))
 refine Wk.lop (α:=Nat) (fun k=>[(8,true,.int .i64 (k:Int))]) (fun _=>[])
  (fun k Gl=>k≤l.length∧∀ j,j<k→p (l.getD j Meta.zero)=false) (fun k=>l.length-k) 0 [(0,true,_),(1,true,_),(7,true,_)] []
  (esD rfl (esD rfl (esD rfl (esD rfl eZ))))
  mN ?_ ?_
 ·exact ⟨by omega,fun j hj=>by omega⟩
 intro k N0 Gl0 hN0 hGl0 hF0
 try dsimp only at hF0 hN0 ⊢
 obtain ⟨hk,hno⟩:=hF0
 refine .seq (rq1 rfl rfl (cp rfl .no (.u rfl) (.u rfl) rfl (.nil (.code (.seq (.cond rfl (fun c1=>?_) (fun c1=>?_)))))))
 ·have c1k:=c1
  try simp only [qcA] at c1
  refine .skip (.code (.seq (.block (.seq (rq2 rfl rfl (mV rfl rfl (aS rfl rfl (.nil (.code (.seq (rq6 rfl rfl (mV rfl rfl (mV rfl rfl (mV rfl rfl (ih rfl .no Fx.se29 (.u rfl) (.u rfl) (fun _=>by omega) (fun _=>by omega) (fun _=>hs.nn (k:=k) (by omega)) ?_)))))))))))))))
  refine lA rfl .no Fx.ag98 (.u rfl) (fun _=>((hs.mono hGl0).gat k (by omega) (by omega)).rd) (fun _=>rfl) ?_
  refine kf rfl .no (.u rfl) hf (Evc rfl Evn) (fun _=>hc _ hGl0 _ (getD_mem (k:=k) (by omega))) ?_
  refine .nil (.code (.cond rfl (fun c2=>?_) (fun c2=>?_)))
  ·have c2k:=c2
   try simp only [qcA] at c2
   refine .seq (rq2 rfl rfl (mV rfl rfl (aS rfl rfl (.nil (.code (.ret (We.fin0 Tryz.results57 (.tmp rfl .nil) ?_)))))))
   exact ⟨rfl,idx_hit (by omega) hno c2k⟩
  have c2k:=c2
  try simp only [qcA] at c2
  refine .skip (.blk (.code (rq2 rfl rfl (ar rfl .no (.u rfl) (.u rfl) rfl (fun _=>wrap_i64 (by omega) (by omega)) ?_))))
  refine mV rfl rfl (.nil (We.lpo (k+1) ?_ ?_ ?_ ?_ ?_))
  ·exact (esD rfl (esD rfl (esD rfl (esD rfl eZ))))
  ·exact mN
  ·first|omega|(dsimp only; omega)
  ·exact hGl0
  exact ⟨by omega,idx_step hno c2k⟩
 have c1k:=c1
 try simp only [qcA] at c1
 refine .exit (.xcode (.xlp (.xblk (.code (.seq (rq1 rfl rfl (aS rfl rfl (.nil (.code (.ret (We.fin0 Tryz.results57 (.tmp rfl .nil) ?_)))))))))))
 exact ⟨rfl,idx_none (by omega) hno⟩
namespace FxVerR
theorem se24:slE Tryz.prog 24=some (5,1,1):=by kernel_rfl
theorem zv5:(Tryz.prog.info? 5).bind (·.zero)=some (.int .u8 0):=by kernel_rfl
theorem cv26_5:cvK Tryz.prog 26 5=some .u8:=by kernel_rfl
theorem cv3_26:cvK Tryz.prog 3 26=some .u64:=by kernel_rfl
theorem sn24:(slE Tryz.prog 24).isSome=true:=by kernel_rfl
theorem cv5_26:cvK Tryz.prog 5 26=some .u64:=by kernel_rfl
end FxVerR
namespace Fx
theorem go106:goFn Tryz.prog 106=true:=by kernel_rfl
end Fx
theorem Num_ok (xs:List Y) (h:Sh) (G:PM) (hs:SlR G 1 encY h xs) (n:BitVec 64) (hl:xs.length≤100000000000000):Ct Tryz.prog 106 ([h.val xs.length,uv .u64 n]:List Value).toArray G [] (PR 5 (fun L=>L=xs++numN n.toNat)):=by
 refine Ct.of Tryz.func106 rfl Tryz.ntmps106 rfl fun w0 hs0=>?_
 have ln:=num_len10 n.isLt
 refine .seq (rq1 rfl rfl (aS rfl rfl (.nil (.code (.seq (rq4 rfl rfl ?_))))))
 refine b0B rfl FxVerR.se24 ?_; intro b6
 refine mV rfl rfl (apY0 rfl FxVerR.se24 FxVerR.zv5 (.u rfl) (.u rfl) .here hs.sc (by (try simp only [qlA,yl_len]); omega) ?_)
 intro v8 L8 _ ov8 eL8
 have lL8:L8.length=xs.length:=by rw [eL8]
 refine aS rfl rfl (.nil (.code (.seq (.block ?_))))
 refine Wk.lop (α:=BitVec 64×Value×List Y) (fun gh=>[(1,true,uv .u64 gh.1),(5,true,gh.2.1)]) (fun gh=>[rB gh.2.1 5 gh.2.2])
  (fun gh Gl=>(gh.2.2++numN gh.1.toNat=xs++numN n.toNat)) (fun gh=>gh.1.toNat) (n,v8,L8) [] []
  (esD rfl (esD rfl eZ))
  (mS .here rfl mN) ?_ ?_
 ·(try dsimp only)<;>(rw [eL8])
 intro gh N0 Gl0 hN0 hGl0 hF0
 obtain ⟨m,v,L⟩:=gh; dsimp only at hF0 hN0 ⊢
 have eq:=hF0
 have tq:@BitVec.toNat IntKind.u64.bits m=m.toNat:=rfl
 have lq:=congrArg List.length eq
 simp only [List.length_append] at lq
 have lp:=num_pos m.toNat
 refine .seq (.seq (rq2 rfl rfl (mV rfl rfl (cp rfl .no (.u rfl) (.u rfl) rfl (.nil (.code (.cond rfl (fun c1=>?_) (fun c1=>?_))))))))
 ·have c1k:=c1
  try simp only [qcA,qcC,qcB] at c1
  refine .skip (.code (.seq (.block (rq7 rfl rfl (mV rfl rfl (mV rfl rfl (cu (k:=.u64) rfl .no rfl FxVerR.cv26_5 (.u rfl) ?_)))))))
  refine bw (k:=.u8) (b:=128#8) rfl .no rfl (.u rfl) (.u rfl) rfl ?_
  refine Go.Tan.b1 rfl FxVerR.se24 FxVerR.zv5 (.u rfl) rfl rfl (by decide) ?_; intro b17
  refine apY rfl FxVerR.se24 FxVerR.zv5 (.u rfl) (.u rfl) tk1 (Sc.one .here) (by show _+1≤_; omega) ?_
  intro v18 L18 ov18 eL18
  have lL18:L18.length=L.length+1:=by rw [eL18,List.length_append]; first|rfl | simp [yl_len]
  refine aS rfl rfl (.nil (.blk (.code (rq3 rfl rfl (mV rfl rfl (rw' (k:=.u64) rfl .no (.u rfl) (.u rfl) (fun _=>by decide) ?_))))))
  refine aS rfl rfl (.nil (We.lpo (m >>> 7,v18,L18) ?_ ?_ ?_ ?_ ?_))
  ·exact (esD rfl (esD rfl eZ))
  ·exact (mS .here rfl mN)
  ·(dsimp only; rw [shr7]; omega)
  ·exact hGl0
  (try dsimp only)<;>(rw [eL18,←eq,num_more (m:=m) (by omega),List.append_assoc]; rfl)
 have c1k:=c1
 try simp only [qcA,qcC,qcB] at c1
 refine .exit (.xcode (.xlp (.xblk (.code (.seq (rq6 rfl rfl (mV rfl rfl (mV rfl rfl (cu (k:=.u64) rfl .no rfl FxVerR.cv26_5 (.u rfl) ?_)))))))))
 refine Go.Tan.b1 rfl FxVerR.se24 FxVerR.zv5 (.u rfl) rfl rfl (by decide) ?_; intro b22
 refine apY rfl FxVerR.se24 FxVerR.zv5 (.u rfl) (.u rfl) tk1 (Sc.one .here) (by show _+1≤_; omega) ?_
 intro v23 L23 ov23 eL23
 have lL23:L23.length=L.length+1:=by rw [eL23,List.length_append]; first|rfl | simp [yl_len]
 refine aS rfl rfl (.nil (.code (.ret (We.fin Tryz.results106 (.tmp rfl .nil) (mS .here rfl mN) ?_))))
 exact ⟨L23,by rw [eL23,←eq,num_last (m:=m) (by omega)]; rfl,rfl⟩
theorem Num_i (xs:List Y) (h:Sh) (G:PM) (hs:SlR G 1 encY h xs) (x:Int) (hx:u64 x) (hl:xs.length≤100000000000000):Ct Tryz.prog 106 ([h.val xs.length,.int .u64 x]:List Value).toArray G [] (PR 5 (fun L=>L=xs++numN x.toNat)):=by
 rw [uvI hx,←ofI hx]; exact Num_ok xs h G hs _ hl
theorem Str_ok (xs:List Y) (h:Sh) (G:PM) (hs:SlR G 1 encY h xs) (s:ByteArray) (hl:xs.length+s.size≤100000000000000):Ct Tryz.prog 70 ([h.val xs.length,.string s]:List Value).toArray G [] (PR 5 (fun L=>L=xs++strL (yb s))):=by
 refine Ct.of Tryz.func70 rfl Tryz.ntmps70 rfl fun w0 hs0=>?_
 have ly:=yb_len s
 have ln:=num_len10 (n:=s.size) (by omega)
 refine .seq (rq1 rfl rfl (aS rfl rfl (.nil (.code (.seq (rq8 rfl rfl (mV rfl rfl (mV rfl rfl (ls rfl .no Fx.st9 (.u rfl) (cw rfl .no FxVerR.cv3_26 (.u rfl) (fun _=>wrap_u64 (by omega) (by omega)) ?_))))))))))
 refine kc rfl Fx.go106 (Evc rfl (Evc rfl Evn)) (Ct.rowc (Num_i xs h _ hs (s.size:Int) ⟨by omega,by omega⟩ (by omega))) ?_
 rintro v9 G9 μ9 hG9 ⟨L9,ov9,eL9,rfl⟩
 refine mV rfl rfl ?_
 have l9:L9.length=xs.length+(numN s.size).length:=by rw [eL9,List.length_append,Int.toNat_natCast]
 refine apT rfl FxVerR.se24 Fx.st9 FxVerR.zv5 (.u rfl) (.u rfl) .here (by (try simp only [List.length_append]); omega) ?_; intro v11 L11 ov11 eL11
 refine aS rfl rfl (.nil (.code (.ret (We.fin Tryz.results70 (.tmp rfl .nil) (mS .here rfl mN) ?_))))
 exact ⟨L11,by rw [eL11,eL9,strL,ly,Int.toNat_natCast,List.append_assoc],rfl⟩
namespace FxVerS
theorem bp135_0:bPl Tryz.prog 135 [0]=some ([.slice none 0 0,.int .i64 0],[(0,1)]):=by kernel_rfl
theorem pt88:ptT Tryz.prog 88=true:=by kernel_rfl
theorem fo135_1:fOff Tryz.prog 135 1=some 1:=by kernel_rfl
theorem ag36:aggN Tryz.prog 36=some none:=by kernel_rfl
theorem fo135_0:fOff Tryz.prog 135 0=some 0:=by kernel_rfl
theorem ag24:aggN Tryz.prog 24=some none:=by kernel_rfl
theorem sz24:szT Tryz.prog 24=some 1:=by kernel_rfl
theorem bs24_9:bsT Tryz.prog 24 9=true:=by kernel_rfl
end FxVerS
namespace Fx
end Fx
namespace FxVerT
theorem sz3:szT Tryz.prog 3=some 1:=by kernel_rfl
end FxVerT
namespace Fx
theorem go138:goFn Tryz.prog 138=true:=by kernel_rfl
theorem go123:goFn Tryz.prog 123=true:=by kernel_rfl
theorem sb9_24:sbT Tryz.prog 9 24=true:=by kernel_rfl
end Fx
theorem rGroups_ok (n:BitVec 64) (G:PM):Ct Tryz.prog 138 ([uv .u64 n]:List Value).toArray G [] (fun _ μ' u=>μ'=[]∧u=.int .i64 ((numN n.toNat).length:Int)):=by
 refine Ct.of Tryz.func138 rfl Tryz.ntmps138 rfl fun w0 hs0=>?_
 have ln:=num_len10 n.isLt
 refine .seq (rq1 rfl rfl (aS rfl rfl (.nil (.code (.seq (rq1 rfl rfl (aS rfl rfl (.nil (.code (.seq (.block ?_)))))))))))
 refine Wk.lop (α:=Nat×BitVec 64) (fun gh=>[(0,true,uv .u64 gh.2),(3,true,.int .i64 (gh.1:Int))]) (fun _=>[])
  (fun gh Gl=>(gh.1+(numN gh.2.toNat).length=1+(numN n.toNat).length)) (fun gh=>gh.2.toNat) (1,n) [] []
  (esD rfl (esC rfl (by first|rfl|exact evi (by omega)) eZ))
  mN ?_ ?_
 ·(try dsimp only)<;>(rfl)
 intro gh N0 Gl0 hN0 hGl0 hF0
 obtain ⟨k,m⟩:=gh; dsimp only at hF0 hN0 ⊢
 have e:=hF0
 have tq:@BitVec.toNat IntKind.u64.bits m=m.toNat:=rfl
 have lp:=num_pos m.toNat
 refine .seq (.seq (rq2 rfl rfl (mV rfl rfl (cp rfl .no (.u rfl) (.u rfl) rfl (.nil (.code (.cond rfl (fun c1=>?_) (fun c1=>?_))))))))
 ·have c1k:=c1
  try simp only [qcA,qcC,qcB] at c1
  refine .skip (.code (.block (.seq (rq3 rfl rfl (mV rfl rfl (dw (k:=.u64) (b:=128#64) rfl .no rfl (.u rfl) (.u rfl) (fun _=>show (128#64:BitVec 64)≠0#64 by decide) ?_))))))
  refine aS rfl rfl (.nil (.code (rq3 rfl rfl (mV rfl rfl (arn (((k+1):Nat):Int) rfl .no (.u rfl) (.u rfl) rfl (fun _=>by omega) (fun _=>wrap_i64 (by omega) (by omega)) ?_)))))
  refine aS rfl rfl (.nil (.blk (We.lpo (k+1,m / 128#64) ?_ ?_ ?_ ?_ ?_)))
  ·exact (esD rfl (esC rfl (by first|rfl|exact evi (by omega)) eZ))
  ·exact mN
  ·(dsimp only; rw [div1]; omega)
  ·exact hGl0
  (try dsimp only)<;>(exact grp_step e (by omega))
 have c1k:=c1
 try simp only [qcA,qcC,qcB] at c1
 refine .exit (.xcode (.xlp (.xblk (.code (.seq (rq2 rfl rfl (mV rfl rfl (aS rfl rfl (.nil (.code (.ret (We.fin0 Tryz.results138 (.tmp rfl .nil) ?_))))))))))))
 obtain rfl:=grp_end e (by omega)
 exact ⟨rfl,rfl⟩
theorem rrNum_ok (n:BitVec 64) (G:PM):Ct Tryz.prog 123 ([uv .u64 n]:List Value).toArray G [] (PR 5 (fun L=>L=numN n.toNat)):=by
 refine Ct.of Tryz.func123 rfl Tryz.ntmps123 rfl fun w0 hs0=>?_
 have ln:=num_len10 n.isLt
 refine .seq (rq1 rfl rfl (aS rfl rfl (.nil (.code (.seq (rq1 rfl rfl (aS rfl rfl (.nil (.code (.seq (wk_nilB 5 ?_)))))))))))
 refine rq3 rfl rfl (mV rfl rfl (kv rfl .no Fx.go138 (Evc rfl Evn) (fun _=>rGroups_ok n _) ?_))
 refine aS rfl rfl (.nil (.code (.seq (.seq (rq1 rfl rfl (aS rfl rfl (.nil (.code (.block ?_)))))))))
 refine Wk.lop (α:=Nat×Value×List Y×BitVec 64) (fun gh=>[(0,true,uv .u64 gh.2.2.2),(3,true,gh.2.1),(5,true,.int .i64 (gh.1:Int))]) (fun gh=>[rB gh.2.1 5 gh.2.2.1])
  (fun gh Gl=>(gh.1≤(numN n.toNat).length)∧(gh.2.2.1=(numN n.toNat).take gh.1)∧(gh.2.2.2.toNat=n.toNat / 128^gh.1)) (fun gh=>(numN n.toNat).length-gh.1) (0,.slice none 0 0,[],n) [(4,true,_)] []
  (esD rfl (esD rfl (esC rfl (by first|rfl|exact evi (by omega)) (esD rfl eZ))))
  (mS .here rfl mN) ?_ ?_
 ·refine ⟨?_,?_,?_⟩
  ·(try dsimp only)<;>(first|omega|rfl|assumption|(simp; done))
  ·(try dsimp only)<;>(rfl)
  (try dsimp only)<;>(rw [Nat.pow_zero,Nat.div_one])
 intro gh N0 Gl0 hN0 hGl0 hF0
 obtain ⟨k,v,L,m⟩:=gh; dsimp only at hF0 hN0 ⊢
 obtain ⟨hk,eL,em⟩:=hF0
 have lL:L.length=k:=by rw [eL,List.length_take]; omega
 refine .seq (.seq (rq3 rfl rfl (mV rfl rfl (mV rfl rfl (cp rfl .no (.u rfl) (.u rfl) rfl (.nil (.code (.cond rfl (fun c1=>?_) (fun c1=>?_)))))))))
 ·have c1k:=c1
  try simp only [qcA,qcC,qcB] at c1
  refine .skip (.code (.seq (.block (.seq (rq4 rfl rfl (mV rfl rfl (mw (k:=.u64) (b:=128#64) rfl .no (.u rfl) (.u rfl) (fun _=>show (128#64:BitVec 64)≠0#64 by decide) ?_)))))))
  refine cu (k:=.u64) rfl .no rfl FxVerR.cv26_5 (.u rfl) ?_
  refine aS rfl rfl (.nil (.code (.seq (.seq (rq4 rfl rfl (mV rfl rfl (arn (((k+1):Nat):Int) rfl .no (.u rfl) (.u rfl) rfl (fun _=>by omega) (fun _=>wrap_i64 (by omega) (by omega)) ?_)))))))
  refine mV rfl rfl (cp rfl .no (.u rfl) (.u rfl) rfl (.nil (.code (.cond rfl (fun c2=>?_) (fun c2=>?_)))))
  ·have c2k:=c2
   try simp only [qcA,qcC,qcB] at c2
   refine rq3 rfl rfl (mV rfl rfl (bw (k:=.u8) (b:=128#8) rfl .no rfl (.u rfl) (.u rfl) rfl (aS rfl rfl (.nil (.code (.seq (rq5 rfl rfl (mV rfl rfl (mV rfl rfl ?_)))))))))
   refine Go.Tan.b1 rfl FxVerR.se24 FxVerR.zv5 (.u rfl) rfl rfl (by decide) ?_; intro b25
   refine apY rfl FxVerR.se24 FxVerR.zv5 (.u rfl) (.u rfl) tk1 (Sc.one .here) (by show _+1≤_; omega) ?_
   intro v26 L26 ov26 eL26
   have lL26:L26.length=L.length+1:=by rw [eL26,List.length_append]; first|rfl | simp [yl_len]
   refine aS rfl rfl (.nil (.code (rq3 rfl rfl (mV rfl rfl (dw (k:=.u64) (b:=128#64) rfl .no rfl (.u rfl) (.u rfl) (fun _=>show (128#64:BitVec 64)≠0#64 by decide) ?_)))))
   refine aS rfl rfl (.nil (.blk (.code (rq3 rfl rfl (mV rfl rfl (arn (((k+1):Nat):Int) rfl .no (.u rfl) (.u rfl) rfl (fun _=>by omega) (fun _=>wrap_i64 (by omega) (by omega)) ?_))))))
   refine aS rfl rfl (.nil (We.lpo (k+1,v26,L26,m / 128#64) ?_ ?_ ?_ ?_ ?_))
   ·exact (esD rfl (esD rfl (esC rfl (by first|rfl|exact evi (by omega)) (esD rfl eZ))))
   ·exact (mS .here rfl mN)
   ·first|omega|(dsimp only; omega)
   ·exact hGl0
   refine ⟨?_,?_,?_⟩
   ·(try dsimp only)<;>(first|omega|rfl|assumption|(simp; done))
   ·(try dsimp only)<;>(rw [eL26]; exact num_grp eL em (by omega))
   (try dsimp only)<;>(exact div128 em)
  have c2k:=c2
  try simp only [qcA,qcC,qcB] at c2
  refine .skip (.code (.seq (rq5 rfl rfl (mV rfl rfl (mV rfl rfl ?_)))))
  refine Go.Tan.b1 rfl FxVerR.se24 FxVerR.zv5 (.u rfl) rfl rfl (by decide) ?_; intro b25
  refine apY rfl FxVerR.se24 FxVerR.zv5 (.u rfl) (.u rfl) tk1 (Sc.one .here) (by show _+1≤_; omega) ?_
  intro v26 L26 ov26 eL26
  have lL26:L26.length=L.length+1:=by rw [eL26,List.length_append]; first|rfl | simp [yl_len]
  refine aS rfl rfl (.nil (.code (rq3 rfl rfl (mV rfl rfl (dw (k:=.u64) (b:=128#64) rfl .no rfl (.u rfl) (.u rfl) (fun _=>show (128#64:BitVec 64)≠0#64 by decide) ?_)))))
  refine aS rfl rfl (.nil (.blk (.code (rq3 rfl rfl (mV rfl rfl (arn (((k+1):Nat):Int) rfl .no (.u rfl) (.u rfl) rfl (fun _=>by omega) (fun _=>wrap_i64 (by omega) (by omega)) ?_))))))
  refine aS rfl rfl (.nil (We.lpo (k+1,v26,L26,m / 128#64) ?_ ?_ ?_ ?_ ?_))
  ·exact (esD rfl (esD rfl (esC rfl (by first|rfl|exact evi (by omega)) (esD rfl eZ))))
  ·exact (mS .here rfl mN)
  ·first|omega|(dsimp only; omega)
  ·exact hGl0
  refine ⟨?_,?_,?_⟩
  ·(try dsimp only)<;>(first|omega|rfl|assumption|(simp; done))
  ·(try dsimp only)<;>(rw [eL26]; exact num_grp1 eL em (by omega) (by omega))
  (try dsimp only)<;>(exact div128 em)
 have c1k:=c1
 try simp only [qcA,qcC,qcB] at c1
 refine .exit (.xcode (.xlp (.xblk (.code (.seq (rq2 rfl rfl (mV rfl rfl (aS rfl rfl (.nil (.code (.ret (We.fin Tryz.results123 (.tmp rfl .nil) (mS .here rfl mN) ?_))))))))))))
 obtain rfl:k=(numN n.toNat).length:=by omega
 exact ⟨L,by rw [eL,List.take_length],rfl⟩
theorem rrNum_i (x:Int) (hx:u64 x) (G:PM):Ct Tryz.prog 123 ([.int .u64 x]:List Value).toArray G [] (PR 5 (fun L=>L=numN x.toNat)):=by
 rw [uvI hx,←ofI hx]; exact rrNum_ok _ G
theorem rrStr_ok (s:ByteArray) (G:PM) (hl:s.size≤100000000000000):Ct Tryz.prog 124 ([.string s]:List Value).toArray G [] (PR 5 (fun L=>L=strL (yb s))):=by
 refine Ct.of Tryz.func124 rfl Tryz.ntmps124 rfl fun w0 hs0=>?_
 have ly:=yb_len s
 have ln:=num_len10 (n:=s.size) (by omega)
 refine .seq (rq1 rfl rfl (aS rfl rfl (.nil (.code (.seq (rq5 rfl rfl (mV rfl rfl (ls rfl .no Fx.st9 (.u rfl) (cw rfl .no FxVerR.cv3_26 (.u rfl) (fun _=>wrap_u64 (by omega) (by omega)) ?_)))))))))
 refine kc rfl Fx.go123 (Evc rfl Evn) (Ct.rowc (rrNum_i (s.size:Int) ⟨by omega,by omega⟩ _)) ?_
 rintro v7 G7 μ7 hG7 ⟨L7,ov7,eL7,rfl⟩
 refine aS rfl rfl (.nil (.code (.seq (rq5 rfl rfl (mV rfl rfl (mV rfl rfl ?_))))))
 refine cvS rfl rfl Fx.sb9_24 (.u rfl) ?_; intro G10 h10 hG10 hs10
 have l7:L7.length=(numN s.size).length:=by rw [eL7,Int.toNat_natCast]
 refine apY rfl FxVerR.se24 FxVerR.zv5 (.u rfl) (.u rfl) .here hs10.sc (by (try simp only [qlA,yl_len]); omega) ?_
 intro v11 L11 ov11 eL11
 have lL11:L11.length=L7.length+(yb s).length:=by rw [eL11,List.length_append]
 refine aS rfl rfl (.nil (.code (.seq (rq2 rfl rfl (mV rfl rfl (aS rfl rfl (.nil (.code (.ret (We.fin Tryz.results124 (.tmp rfl .nil) (mS .here rfl mN) ?_))))))))))
 exact ⟨L11,by rw [eL11,eL7,strL,ly,Int.toNat_natCast],rfl⟩
namespace Fx
theorem se126:slE Tryz.prog 126=some (26,1,8):=by kernel_rfl
theorem sn126:(slE Tryz.prog 126).isSome=true:=by kernel_rfl
end Fx
theorem numbers_ok (xs:List Y) (h:Sh) (ns:List Int) (hn:Sh) (G:PM) (hs:SlR G 1 encY h xs) (hsn:SlR G 1 encQ hn ns) (hu:∀ x∈ns,u64 x) (hl:xs.length+10*ns.length≤100000000000000):Ct Tryz.prog 69 ([h.val xs.length,hn.val ns.length]:List Value).toArray G [] (fun G' μ' u=>∃ (s:Sh) (L:List Y),L=xs++numsL ns∧μ'=[]∧u=s.val L.length∧SlR G' 1 encY s L):=by
 refine Ct.of Tryz.func69 rfl Tryz.ntmps69 rfl fun w0 hs0=>?_
 refine .seq (rq1 rfl rfl (aS rfl rfl (.nil (.code (.seq (.seq (rq3 rfl rfl (mV rfl rfl (ln rfl .no Fx.sn126 (.u rfl) (mV rfl rfl (.nil (.code (.block ?_)))))))))))))
 refine Wk.lop (α:=Nat×Sh×List Y) (fun gh=>[(0,true,gh.2.1.val gh.2.2.length),(9,true,.int .i64 (gh.1:Int))]) (fun _=>[])
  (fun gh Gl=>(gh.1≤ns.length)∧(gh.2.2=xs++numsL (ns.take gh.1))∧(SlR Gl 1 encY gh.2.1 gh.2.2)) (fun gh=>ns.length-gh.1) (0,h,xs) [(7,true,_),(8,true,_)] []
  (esD rfl (esC rfl (by first|rfl|exact evi (by omega)) (esD rfl (esD rfl eZ))))
  mN ?_ ?_
 ·refine ⟨?_,?_,?_⟩
  ·(try dsimp only)<;>(first|omega|rfl|assumption|(simp; done))
  ·(try dsimp only)<;>(simp [numsL])
  (try dsimp only)<;>(exact hs)
 intro gh N0 Gl0 hN0 hGl0 hF0
 obtain ⟨k,h0,L⟩:=gh; dsimp only at hF0 hN0 ⊢
 obtain ⟨hk,eL,hsl⟩:=hF0
 have hsn:=hsn.mono hGl0
 have lt:=numsL_take hu k
 have lL:L.length=xs.length+(numsL (ns.take k)).length:=by rw [eL,List.length_append]
 refine .seq (rq1 rfl rfl (cp rfl .no (.u rfl) (.u rfl) rfl (.nil (.code (.seq (.cond rfl (fun c1=>?_) (fun c1=>?_)))))))
 ·have c1k:=c1
  try simp only [qcA,qcB] at c1
  refine .skip (.code (.seq (.block (.seq (rq3 rfl rfl (ih rfl .no Fx.se126 (.u rfl) (.u rfl) (fun _=>by omega) (fun _=>by omega) (fun _=>hsn.nn (k:=k) (by first|omega|(simp only [Bool.and_eq_true,decide_eq_true_eq] at hc; omega)|(simp only [List.length_cons,List.length_nil]; omega))) ?_))))))
  obtain ⟨x12,ex12⟩:=getx (k:=k) (xs:=ns) (by omega)
  refine ld rfl .no FxVerP.ag26 (.u rfl) (fun _=>(hsn.u1 k (by omega) ex12).rd) ?_
  refine aS rfl rfl (.nil (.code (rq4 rfl rfl (mV rfl rfl (mV rfl rfl (kc rfl Fx.go106 (Evc rfl (Evc rfl Evn)) (Ct.frzB (Num_i L h0 _ hsl x12 (hu x12 (List.mem_of_getElem? ex12)) (by omega))) ?_))))))
  rintro _ G15 μ15 hG15 ⟨h15,L15,eL15,rfl,rfl,hs15⟩
  have hsl:=hsl.mono hG15
  refine aS rfl rfl (.nil (.blk (.code (rq2 rfl rfl (arn (((k+1):Nat):Int) rfl .no (.u rfl) (.u rfl) rfl (fun _=>by omega) (fun _=>wrap_i64 (by omega) (by omega)) ?_)))))
  refine mV rfl rfl (.nil (We.lpo (k+1,h15,L15) ?_ ?_ ?_ ?_ ?_))
  ·exact (esD rfl (esC rfl (by first|rfl|exact evi (by omega)) (esD rfl (esD rfl eZ))))
  ·exact mN
  ·first|omega|(dsimp only; omega)
  ·exact (hGl0).trans hG15
  refine ⟨?_,?_,?_⟩
  ·(try dsimp only)<;>(first|omega|rfl|assumption|(simp; done))
  ·(try dsimp only)<;>(rw [eL15,eL,numsL_snoc ex12,List.append_assoc])
  (try dsimp only)<;>(exact hs15)
 have c1k:=c1
 try simp only [qcA,qcB] at c1
 refine .exit (.xcode (.xlp (.xblk (.code (.seq (rq2 rfl rfl (mV rfl rfl (aS rfl rfl (.nil (.code (.ret (We.fin0 Tryz.results69 (.tmp rfl .nil) ?_))))))))))))
 obtain rfl:k=ns.length:=by omega
 rw [List.take_length] at eL
 exact ⟨h0,L,eL,rfl,rfl,hsl⟩
namespace FxVerV
theorem sz4:szT Tryz.prog 4=some 1:=by kernel_rfl
end FxVerV
namespace Fx
theorem ag4:aggN Tryz.prog 4=some none:=by kernel_rfl
end Fx
namespace FxVerW
theorem sz26:szT Tryz.prog 26=some 1:=by kernel_rfl
theorem go34:goFn Tryz.prog 34=true:=by kernel_rfl
theorem ar23:arE Tryz.prog 23=some (32,5,1):=by kernel_rfl
theorem sz5:szT Tryz.prog 5=some 1:=by kernel_rfl
end FxVerW
namespace Fx
theorem fo98_2:fOff Tryz.prog 98 2=some 2:=by kernel_rfl
theorem fo98_8:fOff Tryz.prog 98 8=some 8:=by kernel_rfl
end Fx
namespace FxVeDa
theorem go33:goFn Tryz.prog 33=true:=by kernel_rfl
end FxVeDa
namespace Fx
theorem fo45_0:fOff Tryz.prog 45 0=some 0:=by kernel_rfl
theorem fo45_1:fOff Tryz.prog 45 1=some 1:=by kernel_rfl
theorem fo45_2:fOff Tryz.prog 45 2=some 2:=by kernel_rfl
theorem fo45_3:fOff Tryz.prog 45 3=some 3:=by kernel_rfl
theorem fo45_4:fOff Tryz.prog 45 4=some 4:=by kernel_rfl
theorem fo45_5:fOff Tryz.prog 45 5=some 9:=by kernel_rfl
theorem sz29:szT Tryz.prog 29=some 1:=by kernel_rfl
theorem zr104:zrL Tryz.prog 104=some ([.int .u8 0,.int .u64 0]):=by kernel_rfl
theorem sz104:szT Tryz.prog 104=some 2:=by kernel_rfl
theorem fo104_1:fOff Tryz.prog 104 1=some 1:=by kernel_rfl
theorem fo45_6:fOff Tryz.prog 45 6=some 10:=by kernel_rfl
theorem ag43:aggN Tryz.prog 43=some none:=by kernel_rfl
theorem ag104:aggN Tryz.prog 104=some (some 2):=by kernel_rfl
theorem se43:slE Tryz.prog 43=some (104,2,16):=by kernel_rfl
theorem ag45:aggN Tryz.prog 45=some (some 11):=by kernel_rfl
end Fx
namespace Fx
theorem eqt98:eqT Tryz.prog 4 98 (metaKs)=true:=by kernel_rfl
end Fx
theorem sameMetas_ok (ha hb:Sh) (a b:List Meta) (G:PM) (hsa:SlR G 40 Meta.cells ha a) (hsb:SlR G 40 Meta.cells hb b) (hwa:∀ m∈a,m.wf) (hwb:∀ m∈b,m.wf) (hla:a.length≤100000000000):Ct Tryz.prog 27 ([ha.val a.length,hb.val b.length]:List Value).toArray G [] (fun _ μ' u=>μ'=[]∧u=.bool (sameM a b)):=by
 refine Ct.of Tryz.func27 rfl Tryz.ntmps27 rfl fun w0 hs0=>?_
 refine .seq (rq1 rfl rfl (aS rfl rfl (.nil (.code (.seq (.seq (rq5 rfl rfl (mV rfl rfl (ln rfl .no Fx.sn29 (.u rfl) (mV rfl rfl (ln rfl .no Fx.sn29 (.u rfl) (cp rfl .no (.u rfl) (.u rfl) rfl (.nil (.code (.cond rfl (fun c1=>?_) (fun c1=>?_))))))))))))))))
 ·have c1k:=c1
  try simp only [qcA,qcB] at c1
  refine .seq (rq1 rfl rfl (aS rfl rfl (.nil (.code (.ret (We.fin0 Tryz.results27 (.tmp rfl .nil) ?_))))))
  exact ⟨rfl,congrArg Value.bool (sameM_len (by simp at c1k; omega)).symm⟩
 have c1k:=c1
 try simp only [qcA,qcB] at c1
 refine .skip (.code (.seq (.seq (rq1 rfl rfl (aS rfl rfl (.nil (.code (.block ?_))))))))
 refine Wk.lop (α:=Nat) (fun k=>[(5,true,.int .i64 (k:Int))]) (fun _=>[])
  (fun k Gl=>(k≤a.length)∧(∀ j,j<k→eqM (a.getD j Meta.zero) (b.getD j Meta.zero)=true)) (fun k=>a.length-k) 0 [(0,true,_),(1,true,_)] []
  (esC rfl (by first|rfl|exact evi (by omega)) (esD rfl (esD rfl eZ)))
  mN ?_ ?_
 ·refine ⟨?_,?_⟩
  ·(try dsimp only)<;>(first|omega|rfl|assumption|(simp; done))
  (try dsimp only)<;>(exact fun j hj=>by omega)
 intro k N0 Gl0 hN0 hGl0 hF0
 try dsimp only at hF0 hN0 ⊢
 obtain ⟨hk,hq⟩:=hF0
 have hsa:=hsa.mono hGl0
 have hsb:=hsb.mono hGl0
 refine .seq (.seq (rq4 rfl rfl (mV rfl rfl (mV rfl rfl (ln rfl .no Fx.sn29 (.u rfl) (cp rfl .no (.u rfl) (.u rfl) rfl (.nil (.code (.cond rfl (fun c2=>?_) (fun c2=>?_))))))))))
 ·have c2k:=c2
  try simp only [qcA,qcB] at c2
  refine .skip (.code (.seq (.block (.seq (Wk.draw (mc:=⟨false,false⟩) [0,1,2,3,4,5,6,7,8] FxVerP.mix (by kernel_rfl) ?_)))))
  refine mV rfl rfl (mV rfl rfl (ih rfl .no Fx.se29 (.u rfl) (.u rfl) (fun _=>by omega) (fun _=>by omega) (fun _=>hsa.nn (k:=k) (by first|omega|(simp only [Bool.and_eq_true,decide_eq_true_eq] at hc; omega)|(simp only [List.length_cons,List.length_nil]; omega))) ?_))
  refine lA rfl .no Fx.ag98 (.u rfl) (fun _=>(hsa.gat k (by omega) (by omega)).rd) (fun _=>Meta.len _) ?_
  refine mV rfl rfl (mV rfl rfl (ih rfl .no Fx.se29 (.u rfl) (.u rfl) (fun _=>by omega) (fun _=>by omega) (fun _=>hsb.nn (k:=k) (by first|omega|(simp only [Bool.and_eq_true,decide_eq_true_eq] at hc; omega)|(simp only [List.length_cons,List.length_nil]; omega))) ?_))
  refine lA rfl .no Fx.ag98 (.u rfl) (fun _=>(hsb.gat k (by omega) (by omega)).rd) (fun _=>Meta.len _) ?_
  refine nqC (eqM (a.getD k Meta.zero) (b.getD k Meta.zero)) rfl .no Fx.eqt98 (.u rfl) (.u rfl) (fun _=>meta_conf (hwa _ (getD_mem (by omega)))) (fun _=>meta_conf (hwb _ (getD_mem (by omega)))) (fun _=>eqM_iff) ?_
  refine .nil (.code (.cond rfl (fun c3=>?_) (fun c3=>?_)))
  ·have c3k:=c3
   try simp only [qcA,qcB] at c3
   refine .seq (rq1 rfl rfl (aS rfl rfl (.nil (.code (.ret (We.fin0 Tryz.results27 (.tmp rfl .nil) ?_))))))
   exact ⟨rfl,congrArg Value.bool (sameM_no (k:=k) (by omega) (by simp at c1k; omega) (by simpa using c3k)).symm⟩
  have c3k:=c3
  try simp only [qcA,qcB] at c3
  refine .skip (.blk (.code (rq3 rfl rfl (mV rfl rfl (arn (((k+1):Nat):Int) rfl .no (.u rfl) (.u rfl) rfl (fun _=>by omega) (fun _=>wrap_i64 (by omega) (by omega)) ?_)))))
  refine aS rfl rfl (.nil (We.lpo (k+1) ?_ ?_ ?_ ?_ ?_))
  ·exact (esC rfl (by first|rfl|exact evi (by omega)) (esD rfl (esD rfl eZ)))
  ·exact mN
  ·first|omega|(dsimp only; omega)
  ·exact hGl0
  refine ⟨?_,?_⟩
  ·(try dsimp only)<;>(first|omega|rfl|assumption|(simp; done))
  (try dsimp only)<;>(exact fun j hj=>by (by_cases e:j=k; (subst e; simpa using c3k); exact hq j (by omega)))
 have c2k:=c2
 try simp only [qcA,qcB] at c2
 refine .exit (.xcode (.xlp (.xblk (.code (.seq (rq1 rfl rfl (aS rfl rfl (.nil (.code (.ret (We.fin0 Tryz.results27 (.tmp rfl .nil) ?_)))))))))))
 exact ⟨rfl,congrArg Value.bool (sameM_yes (by simp at c1k; omega) (fun j hj=>hq j (by omega))).symm⟩
namespace FxVerZ
theorem sn126:(slE Tryz.prog 126).isSome=true:=by kernel_rfl
theorem se126:slE Tryz.prog 126=some (26,1,8):=by kernel_rfl
end FxVerZ
theorem nums_ok (ns:List Int) (hn:Sh) (G:PM) (hsn:SlR G 1 encQ hn ns) (hu:∀ x∈ns,u64 x) (hl:10*ns.length≤100000000000000):Ct Tryz.prog 95 ([hn.val ns.length]:List Value).toArray G [] (PR 5 (fun L=>L=numsL ns)):=by
 refine Ct.of Tryz.func95 rfl Tryz.ntmps95 rfl fun w0 hs0=>?_
 refine .seq (rq1 rfl rfl (aS rfl rfl (.nil (.code (.seq (rq1 rfl rfl (aS rfl rfl (.nil (.code (.seq (.seq (wk_nilB 5 ?_))))))))))))
 refine rq1 rfl rfl (aS rfl rfl (.nil (.code (.block ?_))))
 refine Wk.lop (α:=Nat×Value×List Y) (fun gh=>[(3,true,gh.2.1),(4,true,.int .i64 (gh.1:Int))]) (fun gh=>[rB gh.2.1 5 gh.2.2])
  (fun gh Gl=>(gh.1≤ns.length)∧(gh.2.2=numsL (ns.take gh.1))) (fun gh=>ns.length-gh.1) (0,.slice none 0 0,[]) [(0,true,_)] []
  (esD rfl (esC rfl (by first|rfl|exact evi (by omega)) (esD rfl eZ)))
  (mS .here rfl mN) ?_ ?_
 ·refine ⟨?_,?_⟩
  ·(try dsimp only)<;>(first|omega|rfl|assumption|(simp; done))
  (try dsimp only)<;>(rfl)
 intro gh N0 Gl0 hN0 hGl0 hF0
 obtain ⟨k,v,L⟩:=gh; dsimp only at hF0 hN0 ⊢
 obtain ⟨hk,eL⟩:=hF0
 have hsn:=hsn.mono hGl0
 have lt:=numsL_take hu k
 have lL:L.length=(numsL (ns.take k)).length:=by rw [eL]
 refine .seq (.seq (rq4 rfl rfl (mV rfl rfl (mV rfl rfl (ln rfl .no FxVerZ.sn126 (.u rfl) (cp rfl .no (.u rfl) (.u rfl) rfl (.nil (.code (.cond rfl (fun c1=>?_) (fun c1=>?_))))))))))
 ·have c1k:=c1
  try simp only [qcA,qcB] at c1
  refine .skip (.code (.seq (.block (rq8 rfl rfl (mV rfl rfl (mV rfl rfl (mV rfl rfl (ih rfl .no FxVerZ.se126 (.u rfl) (.u rfl) (fun _=>by omega) (fun _=>by omega) (fun _=>hsn.nn (k:=k) (by first|omega|(simp only [Bool.and_eq_true,decide_eq_true_eq] at hc; omega)|(simp only [List.length_cons,List.length_nil]; omega))) ?_))))))))
  obtain ⟨x15,ex15⟩:=getx (k:=k) (xs:=ns) (by omega)
  refine ld rfl .no FxVerP.ag26 (.u rfl) (fun _=>(hsn.u1 k (by omega) ex15).rd) ?_
  refine kc rfl Fx.go123 (Evc rfl Evn) (Ct.frzB (rrNum_i x15 (hu x15 (List.mem_of_getElem? ex15)) _)) ?_
  rintro _ G16 μ16 hG16 ⟨h16,L16,eL16,rfl,rfl,hs16⟩
  have l16:L16.length≤10:=by rw [eL16]; exact num_len10 (by have:=hu x15 (List.mem_of_getElem? ex15); unfold u64 at this; omega)
  refine apY rfl FxVerR.se24 FxVerR.zv5 (.u rfl) (.u rfl) .here hs16.sc (by (try simp only [qlA,yl_len]); omega) ?_
  intro v17 L17 ov17 eL17
  have lL17:L17.length=L.length+L16.length:=by rw [eL17,List.length_append]
  refine aS rfl rfl (.nil (.blk (.code (rq3 rfl rfl (mV rfl rfl (arn (((k+1):Nat):Int) rfl .no (.u rfl) (.u rfl) rfl (fun _=>by omega) (fun _=>wrap_i64 (by omega) (by omega)) ?_))))))
  refine aS rfl rfl (.nil (We.lpo (k+1,v17,L17) ?_ ?_ ?_ ?_ ?_))
  ·exact (esD rfl (esC rfl (by first|rfl|exact evi (by omega)) (esD rfl eZ)))
  ·exact (mS .here rfl mN)
  ·first|omega|(dsimp only; omega)
  ·exact (hGl0).trans hG16
  refine ⟨?_,?_⟩
  ·(try dsimp only)<;>(first|omega|rfl|assumption|(simp; done))
  (try dsimp only)<;>(rw [eL17,eL16,eL,numsL_snoc ex15])
 have c1k:=c1
 try simp only [qcA,qcB] at c1
 refine .exit (.xcode (.xlp (.xblk (.code (.seq (rq2 rfl rfl (mV rfl rfl (aS rfl rfl (.nil (.code (.ret (We.fin Tryz.results95 (.tmp rfl .nil) (mS .here rfl mN) ?_))))))))))))
 obtain rfl:k=ns.length:=by omega
 rw [List.take_length] at eL
 exact ⟨L,eL,rfl⟩
namespace Fx
theorem zv26:(Tryz.prog.info? 26).bind (·.zero)=some (.int .u64 0):=by kernel_rfl
theorem go69:goFn Tryz.prog 69=true:=by kernel_rfl
theorem go70:goFn Tryz.prog 70=true:=by kernel_rfl
theorem sn43:(slE Tryz.prog 43).isSome=true:=by kernel_rfl
theorem fo104_0:fOff Tryz.prog 104 0=some 0:=by kernel_rfl
end Fx
set_option maxHeartbeats 2000000 in
theorem encode_ok (e:Edit) (ha hd:Sh) (G:PM) (he:EdR G e ha hd) (hla:e.add.length≤1000000) (hld:e.drop.length≤1000000) (hlm:(e.add.flatMap encM).length≤10000000000000):Ct Tryz.prog 25 ([e.val ha hd]:List Value).toArray G [] (fun G' μ' u=>∃ (s:Sh) (L:List Y),L=encE e∧μ'=[]∧u=s.val L.length∧SlR G' 1 encY s L):=by
 refine Ct.of Tryz.func25 rfl Tryz.ntmps25 rfl fun w0 hs0=>?_
 have hea:=he.add; have hed:=he.drop; have hw:=he.wf; have hw1:=hw.log; have hw2:=hw.next; have hw3:=hw.seq; have hw4:=hw.least; have lgn:(gensL e).length=5:=rfl
 refine .seq (rq2 rfl rfl ?_)
 refine bx rfl (.u rfl) rfl ?_; intro b1
 refine aS rfl rfl (.nil (.code (.seq ?_)))
 refine wk_fz .here (by intro b hb; cases hb) ?_; intro Gfb1 hleb1 hbb1
 have hea:=hea.mono hleb1
 have hed:=hed.mono hleb1
 have hgn:=gens_sl hbb1
 refine Wk.rg [0,1,2,3,4,5,6,7,8,9,10] rfl rfl (fa rfl .no Fx.fo45_0 (.u rfl) (ld rfl .no FxVerP.ag26 (.u rfl) (fun _=>(hbb1.rd (by rfl)).rd) ?_))
 refine fa rfl .no Fx.fo45_1 (.u rfl) (ld rfl .no FxVerP.ag26 (.u rfl) (fun _=>(hbb1.rd (by rfl)).rd) ?_)
 refine fa rfl .no Fx.fo45_2 (.u rfl) (ld rfl .no FxVerP.ag26 (.u rfl) (fun _=>(hbb1.rd (by rfl)).rd) ?_)
 refine fa rfl .no Fx.fo45_3 (.u rfl) (ld rfl .no FxVerP.ag26 (.u rfl) (fun _=>(hbb1.rd (by rfl)).rd) ?_)
 refine bQ [e.log,e.next,e.seq,e.least] rfl Fx.se126 Fx.zv26 (Evp.cons (.u rfl) (Evp.cons (.u rfl) (Evp.cons (.u rfl) (Evp.cons (.u rfl) Evp.nil)))) rfl rfl (by decide) ?_; intro G16 h16 hG16 hs16
 have hea:=hea.mono hG16
 have hed:=hed.mono hG16
 have hbb1:=hbb1.mono hG16
 have hgn:=hgn.mono hG16
 refine kc rfl Fx.go69 (Evc rfl (Evc rfl Evn)) (numbers_ok ([]:List Y) ⟨none,0⟩ [e.log,e.next,e.seq,e.least] h16 _ SlR.nul hs16 (q4 hw1 hw2 hw3 hw4) (by simp only [List.length_cons,List.length_nil]; omega)) ?_
 rintro _ G17 μ17 hG17 ⟨h17,L17,eL17,rfl,rfl,hs17⟩
 have lL17:L17.length≤([]:List Y).length+10*([e.log,e.next,e.seq,e.least]:List Int).length:=by rw [eL17,List.length_append]; have:=numsL_len (ns:=[e.log,e.next,e.seq,e.least]) (q4 hw1 hw2 hw3 hw4); omega
 try simp only [List.length_cons,List.length_nil] at lL17
 have hea:=hea.mono hG17
 have hed:=hed.mono hG17
 have hbb1:=hbb1.mono hG17
 have hgn:=hgn.mono hG17
 refine aS rfl rfl (.nil (.code (.seq (Wk.mix ⟨false,false⟩ FxVerP.mix (by kernel_rfl) ?_))))
 refine Wt.one 0 (by kernel_rfl) ?_
 refine mV rfl rfl (.nil (Wt.one 1 (by kernel_rfl) ?_))
 refine fa rfl .no Fx.fo45_4 (.u rfl) (.nil (Wt.one 2 (by kernel_rfl) ?_))
 refine sa0 rfl .no Fx.ar31 (.u rfl) (.nil (Wt.one 4 (by kernel_rfl) ?_))
 refine fa rfl .no Fx.fo45_5 (.u rfl) (.nil (Wt.one 5 (by kernel_rfl) ?_))
 refine ld rfl .no Fx.ag29 (.u rfl) (fun _=>(hbb1.rd (by rfl)).rd) ?_
 refine .nil (Wt.one 6 (by kernel_rfl) ?_)
 refine ln rfl .no Fx.sn29 (.u rfl) (.nil (Wt.one 7 (by kernel_rfl) ?_))
 refine cw rfl .no FxVerR.cv3_26 (.u rfl) (fun _=>wrap_u64 (by omega) (by omega)) ?_
 refine .nil (Wt.b2 3 8 (by kernel_rfl) ?_ ?_)
 ·refine kc rfl Fx.go69 (Evc rfl (Evc rfl Evn)) (numbers_ok L17 h17 (gensL e) ⟨some ⟨b1,4,none⟩,5⟩ _ hs17 hgn (gens_u hw) (by show _+10*5≤_; omega)) ?_
  rintro _ G21 μ21 hG21 ⟨h21,L21,eL21,rfl,rfl,hs21⟩
  have lL21:L21.length≤L17.length+10*((gensL e):List Int).length:=by rw [eL21,List.length_append]; have:=numsL_len (ns:=(gensL e)) (gens_u hw); omega
  try simp only [List.length_cons,List.length_nil] at lL21
  have hea:=hea.mono hG21
  have hed:=hed.mono hG21
  have hbb1:=hbb1.mono hG21
  have hgn:=hgn.mono hG21
  have hs17:=hs17.mono hG21
  refine .nil (Wt.b1 8 (by kernel_rfl) ?_)
  refine bQ [(e.add.length:Int)] rfl Fx.se126 Fx.zv26 (Evp.cons (.u rfl) Evp.nil) rfl rfl (by decide) ?_; intro G26 h26 hG26 hs26
  have hea:=hea.mono hG26
  have hed:=hed.mono hG26
  have hbb1:=hbb1.mono hG26
  have hgn:=hgn.mono hG26
  have hs17:=hs17.mono hG26
  have hs21:=hs21.mono hG26
  refine .nil (Wt.b1 9 (by kernel_rfl) ?_)
  refine kc rfl Fx.go69 (Evc rfl (Evc rfl Evn)) (numbers_ok L21 h21 [(e.add.length:Int)] h26 _ hs21 hs26 (q1 (u64_len (by omega))) (by simp only [List.length_cons,List.length_nil]; omega)) ?_
  rintro _ G27 μ27 hG27 ⟨h27,L27,eL27,rfl,rfl,hs27⟩
  have lL27:L27.length≤L21.length+10*([(e.add.length:Int)]:List Int).length:=by rw [eL27,List.length_append]; have:=numsL_len (ns:=[(e.add.length:Int)]) (q1 (u64_len (by omega))); omega
  try simp only [List.length_cons,List.length_nil] at lL27
  have hea:=hea.mono hG27
  have hed:=hed.mono hG27
  have hbb1:=hbb1.mono hG27
  have hgn:=hgn.mono hG27
  have hs17:=hs17.mono hG27
  have hs21:=hs21.mono hG27
  have hs26:=hs26.mono hG27
  refine .nil (Wt.one 10 (by kernel_rfl) ?_)
  refine aS rfl rfl (.nil (Wt.last (by kernel_rfl) ?_))
  refine .code (.seq (.seq (rq4 rfl rfl (fa rfl .no Fx.fo45_5 (.u rfl) (ld rfl .no Fx.ag29 (.u rfl) (fun _=>(hbb1.rd (by rfl)).rd) ?_)))))
  refine ln rfl .no Fx.sn29 (.u rfl) (mV rfl rfl (.nil (.code (.block ?_))))
  refine Wk.lop (α:=Nat×Sh×List Y) (fun gh=>[(3,true,gh.2.1.val gh.2.2.length),(31,true,.int .i64 (gh.1:Int))]) (fun _=>[])
   (fun gh Gl=>(gh.1≤e.add.length)∧(gh.2.2=L27++(e.add.take gh.1).flatMap encM)∧(SlR Gl 1 encY gh.2.1 gh.2.2)) (fun gh=>e.add.length-gh.1) (0,h27,L27) [(1,true,_),(29,true,_),(30,true,_)] []
   (esD rfl (esC rfl (by first|rfl|exact evi (by omega)) (esD rfl (esD rfl (esD rfl eZ)))))
   mN ?_ ?_
  ·refine ⟨?_,?_,?_⟩
   ·(try dsimp only)<;>(first|omega|rfl|assumption|(simp; done))
   ·(try dsimp only)<;>(simp)
   (try dsimp only)<;>(exact hs27)
  intro gh N0 Gl0 hN0 hGl0 hF0
  obtain ⟨k,h3,L3⟩:=gh; dsimp only at hF0 hN0 ⊢
  obtain ⟨hk,eL,hsl⟩:=hF0
  have hea:=hea.mono hGl0
  have hed:=hed.mono hGl0
  have hbb1:=hbb1.mono hGl0
  have hgn:=hgn.mono hGl0
  have hs17:=hs17.mono hGl0
  have hs21:=hs21.mono hGl0
  have hs26:=hs26.mono hGl0
  have hs27:=hs27.mono hGl0
  have lk:=flat_take_le (f:=encM) (xs:=e.add) k
  have lL:L3.length=L27.length+((e.add.take k).flatMap encM).length:=by rw [eL,List.length_append]
  refine .seq (rq1 rfl rfl (cp rfl .no (.u rfl) (.u rfl) rfl (.nil (.code (.seq (.cond rfl (fun c1=>?_) (fun c1=>?_)))))))
  ·have c1k:=c1
   try simp only [qcA,qcB] at c1
   refine .skip (.code (.seq (.block (.seq (rq4 rfl rfl (ih rfl .no Fx.se29 (.u rfl) (.u rfl) (fun _=>by omega) (fun _=>by omega) (fun _=>hea.nn (k:=k) (by first|omega|(simp only [Bool.and_eq_true,decide_eq_true_eq] at hc; omega)|(simp only [List.length_cons,List.length_nil]; omega))) ?_))))))
   obtain ⟨m,em⟩:=getx (k:=k) (xs:=e.add) (by omega)
   refine lA rfl .no Fx.ag98 (.u rfl) (fun _=>(hea.at (by omega) em).rd) (fun _=>Meta.len _) ?_
   refine al rfl Fx.zq98 ?_; intro b5
   refine sw rfl (.u rfl) (.u rfl) rfl Fx.sz98 .here rfl (Meta.one _) ?_
   refine .nil (.code (.seq ?_))
   refine wk_fz .here (by intro b hb; cases hb) ?_; intro Gfb5 hleb5 hbb5
   have hea:=hea.mono hleb5
   have hed:=hed.mono hleb5
   have hbb1:=hbb1.mono hleb5
   have hgn:=hgn.mono hleb5
   have hs17:=hs17.mono hleb5
   have hs21:=hs21.mono hleb5
   have hs26:=hs26.mono hleb5
   have hs27:=hs27.mono hleb5
   have hsl:=hsl.mono hleb5
   have hwm:=hw.add m (List.mem_of_getElem? em); have w1:=hwm.level; have w2:=hwm.gen; have w3:=hwm.epoch; have w4:=hwm.number; have l6:=u64_6 hwm; have lt:=flat_take (f:=encM) em; have lg:=encM_ge m
   refine Wk.rg [0,1,2,3,4,5,6,7,8,9,10,11,12,13,14,15,16,17,18] rfl rfl (mV rfl rfl (fa rfl .no Fx.fo98_0 (.u rfl) (ld rfl .no FxVerP.ag5 (.u rfl) (fun _=>(hbb5.rd (by rfl)).rd) ?_)))
   refine cw rfl .no FxVerR.cv5_26 (.u rfl) (fun _=>wrap_u64 (by omega) (by omega)) ?_
   refine fa rfl .no Fx.fo98_1 (.u rfl) (ld rfl .no FxVerP.ag26 (.u rfl) (fun _=>(hbb5.rd (by rfl)).rd) ?_)
   refine fa rfl .no Fx.fo98_2 (.u rfl) (ld rfl .no FxVerP.ag26 (.u rfl) (fun _=>(hbb5.rd (by rfl)).rd) ?_)
   refine fa rfl .no Fx.fo98_3 (.u rfl) (ld rfl .no FxVerP.ag26 (.u rfl) (fun _=>(hbb5.rd (by rfl)).rd) ?_)
   refine fa rfl .no Fx.fo98_4 (.u rfl) (ld rfl .no FxVerP.ag3 (.u rfl) (fun _=>(hbb5.rd (by rfl)).rd) ?_)
   refine cv rfl .no FxVerR.cv3_26 (.u rfl) (fa rfl .no Fx.fo98_5 (.u rfl) (ld rfl .no FxVerP.ag3 (.u rfl) (fun _=>(hbb5.rd (by rfl)).rd) ?_))
   refine cv rfl .no FxVerR.cv3_26 (.u rfl) ?_
   refine bQ [m.level,m.gen,m.epoch,m.number,IntKind.u64.wrap m.size,IntKind.u64.wrap m.count] rfl Fx.se126 Fx.zv26 (Evp.cons (.u rfl) (Evp.cons (.u rfl) (Evp.cons (.u rfl) (Evp.cons (.u rfl) (Evp.cons (.u rfl) (Evp.cons (.u rfl) Evp.nil)))))) rfl rfl (by decide) ?_; intro G51 h51 hG51 hs51
   have hea:=hea.mono hG51
   have hed:=hed.mono hG51
   have hbb1:=hbb1.mono hG51
   have hgn:=hgn.mono hG51
   have hs17:=hs17.mono hG51
   have hs21:=hs21.mono hG51
   have hs26:=hs26.mono hG51
   have hs27:=hs27.mono hG51
   have hsl:=hsl.mono hG51
   have hbb5:=hbb5.mono hG51
   refine kc rfl Fx.go69 (Evc rfl (Evc rfl Evn)) (numbers_ok L3 h3 [m.level,m.gen,m.epoch,m.number,IntKind.u64.wrap m.size,IntKind.u64.wrap m.count] h51 _ hsl hs51 l6 (by simp only [List.length_cons,List.length_nil]; omega)) ?_
   rintro _ G52 μ52 hG52 ⟨h52,L52,eL52,rfl,rfl,hs52⟩
   have lL52:L52.length≤L3.length+10*([m.level,m.gen,m.epoch,m.number,IntKind.u64.wrap m.size,IntKind.u64.wrap m.count]:List Int).length:=by rw [eL52,List.length_append]; have:=numsL_len (ns:=[m.level,m.gen,m.epoch,m.number,IntKind.u64.wrap m.size,IntKind.u64.wrap m.count]) l6; omega
   try simp only [List.length_cons,List.length_nil] at lL52
   have hea:=hea.mono hG52
   have hed:=hed.mono hG52
   have hbb1:=hbb1.mono hG52
   have hgn:=hgn.mono hG52
   have hs17:=hs17.mono hG52
   have hs21:=hs21.mono hG52
   have hs26:=hs26.mono hG52
   have hs27:=hs27.mono hG52
   have hsl:=hsl.mono hG52
   have hbb5:=hbb5.mono hG52
   have hs51:=hs51.mono hG52
   refine aS rfl rfl (.nil (.code (Wk.draw (mc:=⟨false,false⟩) [0,1,2,4,5,7,8,3,6,9,10] FxVerP.mix (by kernel_rfl) ?_)))
   refine mV rfl rfl (fa rfl .no Fx.fo98_6 (.u rfl) (ld rfl .no Fx.ag9 (.u rfl) (fun _=>(hbb5.rd (by rfl)).rd) ?_))
   refine fa rfl .no Fx.fo98_7 (.u rfl) (ld rfl .no Fx.ag9 (.u rfl) (fun _=>(hbb5.rd (by rfl)).rd) ?_)
   refine fa rfl .no Fx.fo98_8 (.u rfl) ?_
   refine kA rfl .no FxVerW.ar23 (.u rfl) hbb5 (meta_ba hwm) ?_; intro h61 L61 eL61 lL61 hs61
   have ly:=yb_len m.min; have ly2:=yb_len m.max
   refine kc rfl Fx.go70 (Evc rfl (Evc rfl Evn)) (Ct.frzB (Str_ok L52 h52 _ hs52 m.min (by omega))) ?_
   rintro _ G56 μ56 hG56 ⟨h56,L56,eL56,rfl,rfl,hs56⟩
   have hea:=hea.mono hG56
   have hed:=hed.mono hG56
   have hbb1:=hbb1.mono hG56
   have hgn:=hgn.mono hG56
   have hs17:=hs17.mono hG56
   have hs21:=hs21.mono hG56
   have hs26:=hs26.mono hG56
   have hs27:=hs27.mono hG56
   have hsl:=hsl.mono hG56
   have hbb5:=hbb5.mono hG56
   have hs51:=hs51.mono hG56
   have hs52:=hs52.mono hG56
   have hs61:=hs61.mono hG56
   have l56:L56.length≤L52.length+(m.min.size+10):=by rw [eL56,List.length_append]; have:=strL_len (xs:=yb m.min) (by omega); omega
   refine kc rfl Fx.go70 (Evc rfl (Evc rfl Evn)) (Ct.rowc (Str_ok L56 h56 _ hs56 m.max (by omega))) ?_
   rintro v59 G59 μ59 hG59 ⟨L59,ov59,eL59,rfl⟩
   have hea:=hea.mono hG59
   have hed:=hed.mono hG59
   have hbb1:=hbb1.mono hG59
   have hgn:=hgn.mono hG59
   have hs17:=hs17.mono hG59
   have hs21:=hs21.mono hG59
   have hs26:=hs26.mono hG59
   have hs27:=hs27.mono hG59
   have hsl:=hsl.mono hG59
   have hbb5:=hbb5.mono hG59
   have hs51:=hs51.mono hG59
   have hs52:=hs52.mono hG59
   have hs61:=hs61.mono hG59
   have hs56:=hs56.mono hG59
   have l59:L59.length≤L56.length+(m.max.size+10):=by rw [eL59,List.length_append]; have:=strL_len (xs:=yb m.max) (by omega); omega
   refine apY rfl FxVerR.se24 FxVerR.zv5 (.u rfl) (.u rfl) .here hs61.sc (by (try simp only [qlA,yl_len]); omega) ?_
   intro v62 L62 ov62 eL62
   have lL62:L62.length=L59.length+L61.length:=by rw [eL62,List.length_append]
   refine aS rfl rfl (.nil (.blk (.code ?_)))
   refine wk_fb .here (by first|(intro b hb; cases hb; done) | simp [keys,Res.keys]) ?_; intro GfR59 hR59 hleR59 evR59 hsR59; subst evR59
   have hea:=hea.mono hleR59
   have hed:=hed.mono hleR59
   have hbb1:=hbb1.mono hleR59
   have hgn:=hgn.mono hleR59
   have hs17:=hs17.mono hleR59
   have hs21:=hs21.mono hleR59
   have hs26:=hs26.mono hleR59
   have hs27:=hs27.mono hleR59
   have hsl:=hsl.mono hleR59
   have hbb5:=hbb5.mono hleR59
   have hs51:=hs51.mono hleR59
   have hs52:=hs52.mono hleR59
   have hs61:=hs61.mono hleR59
   have hs56:=hs56.mono hleR59
   refine rq2 rfl rfl (arn (((k+1):Nat):Int) rfl .no (.u rfl) (.u rfl) rfl (fun _=>by omega) (fun _=>wrap_i64 (by omega) (by omega)) ?_)
   refine mV rfl rfl (.nil (We.lpo (k+1,hR59,L62) ?_ ?_ ?_ ?_ ?_))
   ·exact (esD rfl (esC rfl (by first|rfl|exact evi (by omega)) (esD rfl (esD rfl (esD rfl eZ)))))
   ·exact mN
   ·first|omega|(dsimp only; omega)
   ·exact ((((((hGl0).trans hleb5).trans hG51).trans hG52).trans hG56).trans hG59).trans hleR59
   refine ⟨?_,?_,?_⟩
   ·(try dsimp only)<;>(first|omega|rfl|assumption|(simp; done))
   ·(try dsimp only)<;>(rw [eL62,eL59,eL56,eL52,eL61,encM_eq,eL,flat_snoc em,List.append_assoc])
   (try dsimp only)<;>(exact hsR59)
  have c1k:=c1
  try simp only [qcA,qcB] at c1
  refine .exit (.xcode (.xlp (.xblk (.code (.seq (rq8 rfl rfl (mV rfl rfl (fa rfl .no Fx.fo45_6 (.u rfl) (ld rfl .no Fx.ag43 (.u rfl) (fun _=>(hbb1.rd (by rfl)).rd) ?_)))))))))
  refine ln rfl .no Fx.sn43 (.u rfl) (cw rfl .no FxVerR.cv3_26 (.u rfl) (fun _=>wrap_u64 (by omega) (by omega)) ?_)
  refine bQ [(e.drop.length:Int)] rfl Fx.se126 Fx.zv26 (Evp.cons (.u rfl) Evp.nil) rfl rfl (by decide) ?_; intro G69 h69 hG69 hs69
  have hea:=hea.mono hG69
  have hed:=hed.mono hG69
  have hbb1:=hbb1.mono hG69
  have hgn:=hgn.mono hG69
  have hs17:=hs17.mono hG69
  have hs21:=hs21.mono hG69
  have hs26:=hs26.mono hG69
  have hs27:=hs27.mono hG69
  have hsl:=hsl.mono hG69
  refine kc rfl Fx.go69 (Evc rfl (Evc rfl Evn)) (numbers_ok L3 h3 [(e.drop.length:Int)] h69 _ hsl hs69 (q1 (u64_len (by omega))) (by simp only [List.length_cons,List.length_nil]; omega)) ?_
  rintro _ G70 μ70 hG70 ⟨h70,L70,eL70,rfl,rfl,hs70⟩
  have lL70:L70.length≤L3.length+10*([(e.drop.length:Int)]:List Int).length:=by rw [eL70,List.length_append]; have:=numsL_len (ns:=[(e.drop.length:Int)]) (q1 (u64_len (by omega))); omega
  try simp only [List.length_cons,List.length_nil] at lL70
  have hea:=hea.mono hG70
  have hed:=hed.mono hG70
  have hbb1:=hbb1.mono hG70
  have hgn:=hgn.mono hG70
  have hs17:=hs17.mono hG70
  have hs21:=hs21.mono hG70
  have hs26:=hs26.mono hG70
  have hs27:=hs27.mono hG70
  have hsl:=hsl.mono hG70
  have hs69:=hs69.mono hG70
  refine aS rfl rfl (.nil (.code (.seq (.seq (rq4 rfl rfl (fa rfl .no Fx.fo45_6 (.u rfl) (ld rfl .no Fx.ag43 (.u rfl) (fun _=>(hbb1.rd (by rfl)).rd) ?_)))))))
  refine ln rfl .no Fx.sn43 (.u rfl) (mV rfl rfl (.nil (.code (.block ?_))))
  refine Wk.lop (α:=Nat×Sh×List Y) (fun gh=>[(3,true,gh.2.1.val gh.2.2.length),(74,true,.int .i64 (gh.1:Int))]) (fun _=>[])
   (fun gh Gl=>(gh.1≤e.drop.length)∧(gh.2.2=L70++(e.drop.take gh.1).flatMap encG)∧(SlR Gl 1 encY gh.2.1 gh.2.2)) (fun gh=>e.drop.length-gh.1) (0,h70,L70) [(72,true,_),(73,true,_)] []
   (esD rfl (esC rfl (by first|rfl|exact evi (by omega)) (esD rfl (esD rfl eZ))))
   mN ?_ ?_
  ·refine ⟨?_,?_,?_⟩
   ·(try dsimp only)<;>(first|omega|rfl|assumption|(simp; done))
   ·(try dsimp only)<;>(simp)
   (try dsimp only)<;>(exact hs70)
  intro gh N1 Gl1 hN1 hGl1 hF1
  obtain ⟨j,h9,L9⟩:=gh; dsimp only at hF1 hN1 ⊢
  obtain ⟨hj,eL9,hsl2⟩:=hF1
  have hea:=hea.mono hGl1
  have hed:=hed.mono hGl1
  have hbb1:=hbb1.mono hGl1
  have hgn:=hgn.mono hGl1
  have hs17:=hs17.mono hGl1
  have hs21:=hs21.mono hGl1
  have hs26:=hs26.mono hGl1
  have hs27:=hs27.mono hGl1
  have hsl:=hsl.mono hGl1
  have hs69:=hs69.mono hGl1
  have hs70:=hs70.mono hGl1
  have lk2:=flat_take_le (f:=encG) (xs:=e.drop) j
  have ld2:=gonesL hw.drop
  have lL9:L9.length=L70.length+((e.drop.take j).flatMap encG).length:=by rw [eL9,List.length_append]
  refine .seq (rq1 rfl rfl (cp rfl .no (.u rfl) (.u rfl) rfl (.nil (.code (.seq (.cond rfl (fun c2=>?_) (fun c2=>?_)))))))
  ·have c2k:=c2
   try simp only [qcA,qcB] at c2
   refine .skip (.code (.seq (.block (.seq (rq4 rfl rfl (ih rfl .no Fx.se43 (.u rfl) (.u rfl) (fun _=>by omega) (fun _=>by omega) (fun _=>hed.nn (k:=j) (by first|omega|(simp only [Bool.and_eq_true,decide_eq_true_eq] at hc; omega)|(simp only [List.length_cons,List.length_nil]; omega))) ?_))))))
   obtain ⟨g,eg⟩:=getx (k:=j) (xs:=e.drop) (by omega)
   refine lA rfl .no Fx.ag104 (.u rfl) (fun _=>(hed.at (by omega) eg).rd) (fun _=>rfl) ?_
   refine al rfl Fx.zr104 ?_; intro b7
   refine sw rfl (.u rfl) (.u rfl) rfl Fx.sz104 .here rfl (gones1) ?_
   refine .nil (.code ?_)
   refine wk_fz .here (by intro b hb; cases hb) ?_; intro Gfb7 hleb7 hbb7
   have hea:=hea.mono hleb7
   have hed:=hed.mono hleb7
   have hbb1:=hbb1.mono hleb7
   have hgn:=hgn.mono hleb7
   have hs17:=hs17.mono hleb7
   have hs21:=hs21.mono hleb7
   have hs26:=hs26.mono hleb7
   have hs27:=hs27.mono hleb7
   have hsl:=hsl.mono hleb7
   have hs69:=hs69.mono hleb7
   have hs70:=hs70.mono hleb7
   have hsl2:=hsl2.mono hleb7
   have hwg:=hw.drop g (List.mem_of_getElem? eg); have w1:=hwg.level; have w2:=hwg.number; have lt:=flat_take (f:=encG) eg
   refine rq9 rfl rfl (mV rfl rfl (fa rfl .no Fx.fo104_0 (.u rfl) (ld rfl .no FxVerP.ag5 (.u rfl) (fun _=>(hbb7.rd (by rfl)).rd) ?_)))
   refine cw rfl .no FxVerR.cv5_26 (.u rfl) (fun _=>wrap_u64 (by omega) (by omega)) ?_
   refine fa rfl .no Fx.fo104_1 (.u rfl) (ld rfl .no FxVerP.ag26 (.u rfl) (fun _=>(hbb7.rd (by rfl)).rd) ?_)
   refine bQ [g.level,g.number] rfl Fx.se126 Fx.zv26 (Evp.cons (.u rfl) (Evp.cons (.u rfl) Evp.nil)) rfl rfl (by decide) ?_; intro G84 h84 hG84 hs84
   have hea:=hea.mono hG84
   have hed:=hed.mono hG84
   have hbb1:=hbb1.mono hG84
   have hgn:=hgn.mono hG84
   have hs17:=hs17.mono hG84
   have hs21:=hs21.mono hG84
   have hs26:=hs26.mono hG84
   have hs27:=hs27.mono hG84
   have hsl:=hsl.mono hG84
   have hs69:=hs69.mono hG84
   have hs70:=hs70.mono hG84
   have hsl2:=hsl2.mono hG84
   have hbb7:=hbb7.mono hG84
   refine kc rfl Fx.go69 (Evc rfl (Evc rfl Evn)) (numbers_ok L9 h9 [g.level,g.number] h84 _ hsl2 hs84 (q2 ⟨by omega,by omega⟩ ⟨by omega,by omega⟩) (by simp only [List.length_cons,List.length_nil]; omega)) ?_
   rintro _ G85 μ85 hG85 ⟨h85,L85,eL85,rfl,rfl,hs85⟩
   have lL85:L85.length≤L9.length+10*([g.level,g.number]:List Int).length:=by rw [eL85,List.length_append]; have:=numsL_len (ns:=[g.level,g.number]) (q2 ⟨by omega,by omega⟩ ⟨by omega,by omega⟩); omega
   try simp only [List.length_cons,List.length_nil] at lL85
   have hea:=hea.mono hG85
   have hed:=hed.mono hG85
   have hbb1:=hbb1.mono hG85
   have hgn:=hgn.mono hG85
   have hs17:=hs17.mono hG85
   have hs21:=hs21.mono hG85
   have hs26:=hs26.mono hG85
   have hs27:=hs27.mono hG85
   have hsl:=hsl.mono hG85
   have hs69:=hs69.mono hG85
   have hs70:=hs70.mono hG85
   have hsl2:=hsl2.mono hG85
   have hbb7:=hbb7.mono hG85
   have hs84:=hs84.mono hG85
   refine aS rfl rfl (.nil (.blk (.code (rq2 rfl rfl (arn (((j+1):Nat):Int) rfl .no (.u rfl) (.u rfl) rfl (fun _=>by omega) (fun _=>wrap_i64 (by omega) (by omega)) ?_)))))
   refine mV rfl rfl (.nil (We.lpo (j+1,h85,L85) ?_ ?_ ?_ ?_ ?_))
   ·exact (esD rfl (esC rfl (by first|rfl|exact evi (by omega)) (esD rfl (esD rfl eZ))))
   ·exact mN
   ·first|omega|(dsimp only; omega)
   ·exact (((hGl1).trans hleb7).trans hG84).trans hG85
   refine ⟨?_,?_,?_⟩
   ·(try dsimp only)<;>(first|omega|rfl|assumption|(simp; done))
   ·(try dsimp only)<;>(rw [eL85,encG_eq,eL9,flat_snoc eg,List.append_assoc])
   (try dsimp only)<;>(exact hs85)
  have c2k:=c2
  try simp only [qcA,qcB] at c2
  refine .exit (.xcode (.xlp (.xblk (.code (.seq (rq2 rfl rfl (mV rfl rfl (aS rfl rfl (.nil (.code (.ret (We.fin0 Tryz.results25 (.tmp rfl .nil) ?_))))))))))))
  obtain rfl:k=e.add.length:=by omega
  obtain rfl:j=e.drop.length:=by omega
  rw [List.take_length] at eL eL9
  exact ⟨h9,L9,by rw [eL9,eL70,eL,eL27,eL21,eL17,List.nil_append,encE_eq],rfl,rfl,hsl2⟩
 refine bQ [(e.add.length:Int)] rfl Fx.se126 Fx.zv26 (Evp.cons (.u rfl) Evp.nil) rfl rfl (by decide) ?_; intro G26 h26 hG26 hs26
 have hea:=hea.mono hG26
 have hed:=hed.mono hG26
 have hbb1:=hbb1.mono hG26
 have hgn:=hgn.mono hG26
 have hs17:=hs17.mono hG26
 refine .nil (Wt.b1 3 (by kernel_rfl) ?_)
 refine kc rfl Fx.go69 (Evc rfl (Evc rfl Evn)) (numbers_ok L17 h17 (gensL e) ⟨some ⟨b1,4,none⟩,5⟩ _ hs17 hgn (gens_u hw) (by show _+10*5≤_; omega)) ?_
 rintro _ G21 μ21 hG21 ⟨h21,L21,eL21,rfl,rfl,hs21⟩
 have lL21:L21.length≤L17.length+10*((gensL e):List Int).length:=by rw [eL21,List.length_append]; have:=numsL_len (ns:=(gensL e)) (gens_u hw); omega
 try simp only [List.length_cons,List.length_nil] at lL21
 have hea:=hea.mono hG21
 have hed:=hed.mono hG21
 have hbb1:=hbb1.mono hG21
 have hs26:=hs26.mono hG21
 refine .nil (Wt.b1 9 (by kernel_rfl) ?_)
 refine kc rfl Fx.go69 (Evc rfl (Evc rfl Evn)) (numbers_ok L21 h21 [(e.add.length:Int)] h26 _ hs21 hs26 (q1 (u64_len (by omega))) (by simp only [List.length_cons,List.length_nil]; omega)) ?_
 rintro _ G27 μ27 hG27 ⟨h27,L27,eL27,rfl,rfl,hs27⟩
 have lL27:L27.length≤L21.length+10*([(e.add.length:Int)]:List Int).length:=by rw [eL27,List.length_append]; have:=numsL_len (ns:=[(e.add.length:Int)]) (q1 (u64_len (by omega))); omega
 try simp only [List.length_cons,List.length_nil] at lL27
 have hea:=hea.mono hG27
 have hed:=hed.mono hG27
 have hbb1:=hbb1.mono hG27
 refine .nil (Wt.one 10 (by kernel_rfl) ?_)
 refine aS rfl rfl (.nil (Wt.last (by kernel_rfl) ?_))
 refine .code (.seq (.seq (rq4 rfl rfl (fa rfl .no Fx.fo45_5 (.u rfl) (ld rfl .no Fx.ag29 (.u rfl) (fun _=>(hbb1.rd (by rfl)).rd) ?_)))))
 refine ln rfl .no Fx.sn29 (.u rfl) (mV rfl rfl (.nil (.code (.block ?_))))
 refine Wk.lop (α:=Nat×Sh×List Y) (fun gh=>[(3,true,gh.2.1.val gh.2.2.length),(31,true,.int .i64 (gh.1:Int))]) (fun _=>[])
  (fun gh Gl=>(gh.1≤e.add.length)∧(gh.2.2=L27++(e.add.take gh.1).flatMap encM)∧(SlR Gl 1 encY gh.2.1 gh.2.2)) (fun gh=>e.add.length-gh.1) (0,h27,L27) [(1,true,_),(29,true,_),(30,true,_)] []
  (esD rfl (esC rfl (by first|rfl|exact evi (by omega)) (esD rfl (esD rfl (esD rfl eZ)))))
  mN ?_ ?_
 ·refine ⟨?_,?_,?_⟩
  ·(try dsimp only)<;>(first|omega|rfl|assumption|(simp; done))
  ·(try dsimp only)<;>(simp)
  (try dsimp only)<;>(exact hs27)
 intro gh N0 Gl0 hN0 hGl0 hF0
 obtain ⟨k,h3,L3⟩:=gh; dsimp only at hF0 hN0 ⊢
 obtain ⟨hk,eL,hsl⟩:=hF0
 have hea:=hea.mono hGl0
 have hed:=hed.mono hGl0
 have hbb1:=hbb1.mono hGl0
 have lk:=flat_take_le (f:=encM) (xs:=e.add) k
 have lL:L3.length=L27.length+((e.add.take k).flatMap encM).length:=by rw [eL,List.length_append]
 refine .seq (rq1 rfl rfl (cp rfl .no (.u rfl) (.u rfl) rfl (.nil (.code (.seq (.cond rfl (fun c1=>?_) (fun c1=>?_)))))))
 ·have c1k:=c1
  try simp only [qcA,qcB] at c1
  refine .skip (.code (.seq (.block (.seq (rq4 rfl rfl (ih rfl .no Fx.se29 (.u rfl) (.u rfl) (fun _=>by omega) (fun _=>by omega) (fun _=>hea.nn (k:=k) (by first|omega|(simp only [Bool.and_eq_true,decide_eq_true_eq] at hc; omega)|(simp only [List.length_cons,List.length_nil]; omega))) ?_))))))
  obtain ⟨m,em⟩:=getx (k:=k) (xs:=e.add) (by omega)
  refine lA rfl .no Fx.ag98 (.u rfl) (fun _=>(hea.at (by omega) em).rd) (fun _=>Meta.len _) ?_
  refine al rfl Fx.zq98 ?_; intro b5
  refine sw rfl (.u rfl) (.u rfl) rfl Fx.sz98 .here rfl (Meta.one _) ?_
  refine .nil (.code (.seq ?_))
  refine wk_fz .here (by intro b hb; cases hb) ?_; intro Gfb5 hleb5 hbb5
  have hed:=hed.mono hleb5
  have hbb1:=hbb1.mono hleb5
  have hsl:=hsl.mono hleb5
  have hwm:=hw.add m (List.mem_of_getElem? em); have w1:=hwm.level; have w2:=hwm.gen; have w3:=hwm.epoch; have w4:=hwm.number; have l6:=u64_6 hwm; have lt:=flat_take (f:=encM) em; have lg:=encM_ge m
  refine Wk.rg [0,1,2,3,4,5,6,7,8,9,10,11,12,13,14,15,16,17,18] rfl rfl (mV rfl rfl (fa rfl .no Fx.fo98_0 (.u rfl) (ld rfl .no FxVerP.ag5 (.u rfl) (fun _=>(hbb5.rd (by rfl)).rd) ?_)))
  refine cw rfl .no FxVerR.cv5_26 (.u rfl) (fun _=>wrap_u64 (by omega) (by omega)) ?_
  refine fa rfl .no Fx.fo98_1 (.u rfl) (ld rfl .no FxVerP.ag26 (.u rfl) (fun _=>(hbb5.rd (by rfl)).rd) ?_)
  refine fa rfl .no Fx.fo98_2 (.u rfl) (ld rfl .no FxVerP.ag26 (.u rfl) (fun _=>(hbb5.rd (by rfl)).rd) ?_)
  refine fa rfl .no Fx.fo98_3 (.u rfl) (ld rfl .no FxVerP.ag26 (.u rfl) (fun _=>(hbb5.rd (by rfl)).rd) ?_)
  refine fa rfl .no Fx.fo98_4 (.u rfl) (ld rfl .no FxVerP.ag3 (.u rfl) (fun _=>(hbb5.rd (by rfl)).rd) ?_)
  refine cv rfl .no FxVerR.cv3_26 (.u rfl) (fa rfl .no Fx.fo98_5 (.u rfl) (ld rfl .no FxVerP.ag3 (.u rfl) (fun _=>(hbb5.rd (by rfl)).rd) ?_))
  refine cv rfl .no FxVerR.cv3_26 (.u rfl) ?_
  refine bQ [m.level,m.gen,m.epoch,m.number,IntKind.u64.wrap m.size,IntKind.u64.wrap m.count] rfl Fx.se126 Fx.zv26 (Evp.cons (.u rfl) (Evp.cons (.u rfl) (Evp.cons (.u rfl) (Evp.cons (.u rfl) (Evp.cons (.u rfl) (Evp.cons (.u rfl) Evp.nil)))))) rfl rfl (by decide) ?_; intro G51 h51 hG51 hs51
  have hed:=hed.mono hG51
  have hbb1:=hbb1.mono hG51
  have hsl:=hsl.mono hG51
  have hbb5:=hbb5.mono hG51
  refine kc rfl Fx.go69 (Evc rfl (Evc rfl Evn)) (numbers_ok L3 h3 [m.level,m.gen,m.epoch,m.number,IntKind.u64.wrap m.size,IntKind.u64.wrap m.count] h51 _ hsl hs51 l6 (by simp only [List.length_cons,List.length_nil]; omega)) ?_
  rintro _ G52 μ52 hG52 ⟨h52,L52,eL52,rfl,rfl,hs52⟩
  have lL52:L52.length≤L3.length+10*([m.level,m.gen,m.epoch,m.number,IntKind.u64.wrap m.size,IntKind.u64.wrap m.count]:List Int).length:=by rw [eL52,List.length_append]; have:=numsL_len (ns:=[m.level,m.gen,m.epoch,m.number,IntKind.u64.wrap m.size,IntKind.u64.wrap m.count]) l6; omega
  try simp only [List.length_cons,List.length_nil] at lL52
  have hed:=hed.mono hG52
  have hbb1:=hbb1.mono hG52
  have hsl:=hsl.mono hG52
  have hbb5:=hbb5.mono hG52
  refine aS rfl rfl (.nil (.code (Wk.draw (mc:=⟨false,false⟩) [0,1,2,4,5,7,8,3,6,9,10] FxVerP.mix (by kernel_rfl) ?_)))
  refine mV rfl rfl (fa rfl .no Fx.fo98_6 (.u rfl) (ld rfl .no Fx.ag9 (.u rfl) (fun _=>(hbb5.rd (by rfl)).rd) ?_))
  refine fa rfl .no Fx.fo98_7 (.u rfl) (ld rfl .no Fx.ag9 (.u rfl) (fun _=>(hbb5.rd (by rfl)).rd) ?_)
  refine fa rfl .no Fx.fo98_8 (.u rfl) ?_
  refine kA rfl .no FxVerW.ar23 (.u rfl) hbb5 (meta_ba hwm) ?_; intro h61 L61 eL61 lL61 hs61
  have ly:=yb_len m.min; have ly2:=yb_len m.max
  refine kc rfl Fx.go70 (Evc rfl (Evc rfl Evn)) (Ct.frzB (Str_ok L52 h52 _ hs52 m.min (by omega))) ?_
  rintro _ G56 μ56 hG56 ⟨h56,L56,eL56,rfl,rfl,hs56⟩
  have hed:=hed.mono hG56
  have hbb1:=hbb1.mono hG56
  have hsl:=hsl.mono hG56
  have hs61:=hs61.mono hG56
  have l56:L56.length≤L52.length+(m.min.size+10):=by rw [eL56,List.length_append]; have:=strL_len (xs:=yb m.min) (by omega); omega
  refine kc rfl Fx.go70 (Evc rfl (Evc rfl Evn)) (Ct.rowc (Str_ok L56 h56 _ hs56 m.max (by omega))) ?_
  rintro v59 G59 μ59 hG59 ⟨L59,ov59,eL59,rfl⟩
  have hed:=hed.mono hG59
  have hbb1:=hbb1.mono hG59
  have hsl:=hsl.mono hG59
  have hs61:=hs61.mono hG59
  have l59:L59.length≤L56.length+(m.max.size+10):=by rw [eL59,List.length_append]; have:=strL_len (xs:=yb m.max) (by omega); omega
  refine apY rfl FxVerR.se24 FxVerR.zv5 (.u rfl) (.u rfl) .here hs61.sc (by (try simp only [qlA,yl_len]); omega) ?_
  intro v62 L62 ov62 eL62
  have lL62:L62.length=L59.length+L61.length:=by rw [eL62,List.length_append]
  refine aS rfl rfl (.nil (.blk (.code ?_)))
  refine wk_fb .here (by first|(intro b hb; cases hb; done) | simp [keys,Res.keys]) ?_; intro GfR59 hR59 hleR59 evR59 hsR59; subst evR59
  have hed:=hed.mono hleR59
  have hbb1:=hbb1.mono hleR59
  have hsl:=hsl.mono hleR59
  refine rq2 rfl rfl (arn (((k+1):Nat):Int) rfl .no (.u rfl) (.u rfl) rfl (fun _=>by omega) (fun _=>wrap_i64 (by omega) (by omega)) ?_)
  refine mV rfl rfl (.nil (We.lpo (k+1,hR59,L62) ?_ ?_ ?_ ?_ ?_))
  ·exact (esD rfl (esC rfl (by first|rfl|exact evi (by omega)) (esD rfl (esD rfl (esD rfl eZ)))))
  ·exact mN
  ·first|omega|(dsimp only; omega)
  ·exact ((((((hGl0).trans hleb5).trans hG51).trans hG52).trans hG56).trans hG59).trans hleR59
  refine ⟨?_,?_,?_⟩
  ·(try dsimp only)<;>(first|omega|rfl|assumption|(simp; done))
  ·(try dsimp only)<;>(rw [eL62,eL59,eL56,eL52,eL61,encM_eq,eL,flat_snoc em,List.append_assoc])
  (try dsimp only)<;>(exact hsR59)
 have c1k:=c1
 try simp only [qcA,qcB] at c1
 refine .exit (.xcode (.xlp (.xblk (.code (.seq (rq8 rfl rfl (mV rfl rfl (fa rfl .no Fx.fo45_6 (.u rfl) (ld rfl .no Fx.ag43 (.u rfl) (fun _=>(hbb1.rd (by rfl)).rd) ?_)))))))))
 refine ln rfl .no Fx.sn43 (.u rfl) (cw rfl .no FxVerR.cv3_26 (.u rfl) (fun _=>wrap_u64 (by omega) (by omega)) ?_)
 refine bQ [(e.drop.length:Int)] rfl Fx.se126 Fx.zv26 (Evp.cons (.u rfl) Evp.nil) rfl rfl (by decide) ?_; intro G69 h69 hG69 hs69
 have hed:=hed.mono hG69
 have hbb1:=hbb1.mono hG69
 have hsl:=hsl.mono hG69
 refine kc rfl Fx.go69 (Evc rfl (Evc rfl Evn)) (numbers_ok L3 h3 [(e.drop.length:Int)] h69 _ hsl hs69 (q1 (u64_len (by omega))) (by simp only [List.length_cons,List.length_nil]; omega)) ?_
 rintro _ G70 μ70 hG70 ⟨h70,L70,eL70,rfl,rfl,hs70⟩
 have lL70:L70.length≤L3.length+10*([(e.drop.length:Int)]:List Int).length:=by rw [eL70,List.length_append]; have:=numsL_len (ns:=[(e.drop.length:Int)]) (q1 (u64_len (by omega))); omega
 try simp only [List.length_cons,List.length_nil] at lL70
 have hed:=hed.mono hG70
 have hbb1:=hbb1.mono hG70
 refine aS rfl rfl (.nil (.code (.seq (.seq (rq4 rfl rfl (fa rfl .no Fx.fo45_6 (.u rfl) (ld rfl .no Fx.ag43 (.u rfl) (fun _=>(hbb1.rd (by rfl)).rd) ?_)))))))
 refine ln rfl .no Fx.sn43 (.u rfl) (mV rfl rfl (.nil (.code (.block ?_))))
 refine Wk.lop (α:=Nat×Sh×List Y) (fun gh=>[(3,true,gh.2.1.val gh.2.2.length),(74,true,.int .i64 (gh.1:Int))]) (fun _=>[])
  (fun gh Gl=>(gh.1≤e.drop.length)∧(gh.2.2=L70++(e.drop.take gh.1).flatMap encG)∧(SlR Gl 1 encY gh.2.1 gh.2.2)) (fun gh=>e.drop.length-gh.1) (0,h70,L70) [(72,true,_),(73,true,_)] []
  (esD rfl (esC rfl (by first|rfl|exact evi (by omega)) (esD rfl (esD rfl eZ))))
  mN ?_ ?_
 ·refine ⟨?_,?_,?_⟩
  ·(try dsimp only)<;>(first|omega|rfl|assumption|(simp; done))
  ·(try dsimp only)<;>(simp)
  (try dsimp only)<;>(exact hs70)
 intro gh N1 Gl1 hN1 hGl1 hF1
 obtain ⟨j,h9,L9⟩:=gh; dsimp only at hF1 hN1 ⊢
 obtain ⟨hj,eL9,hsl2⟩:=hF1
 have hed:=hed.mono hGl1
 have lk2:=flat_take_le (f:=encG) (xs:=e.drop) j
 have ld2:=gonesL hw.drop
 have lL9:L9.length=L70.length+((e.drop.take j).flatMap encG).length:=by rw [eL9,List.length_append]
 refine .seq (rq1 rfl rfl (cp rfl .no (.u rfl) (.u rfl) rfl (.nil (.code (.seq (.cond rfl (fun c2=>?_) (fun c2=>?_)))))))
 ·have c2k:=c2
  try simp only [qcA,qcB] at c2
  refine .skip (.code (.seq (.block (.seq (rq4 rfl rfl (ih rfl .no Fx.se43 (.u rfl) (.u rfl) (fun _=>by omega) (fun _=>by omega) (fun _=>hed.nn (k:=j) (by first|omega|(simp only [Bool.and_eq_true,decide_eq_true_eq] at hc; omega)|(simp only [List.length_cons,List.length_nil]; omega))) ?_))))))
  obtain ⟨g,eg⟩:=getx (k:=j) (xs:=e.drop) (by omega)
  refine lA rfl .no Fx.ag104 (.u rfl) (fun _=>(hed.at (by omega) eg).rd) (fun _=>rfl) ?_
  refine al rfl Fx.zr104 ?_; intro b7
  refine sw rfl (.u rfl) (.u rfl) rfl Fx.sz104 .here rfl (gones1) ?_
  refine .nil (.code ?_)
  refine wk_fz .here (by intro b hb; cases hb) ?_; intro Gfb7 hleb7 hbb7
  have hsl2:=hsl2.mono hleb7
  have hwg:=hw.drop g (List.mem_of_getElem? eg); have w1:=hwg.level; have w2:=hwg.number; have lt:=flat_take (f:=encG) eg
  refine rq9 rfl rfl (mV rfl rfl (fa rfl .no Fx.fo104_0 (.u rfl) (ld rfl .no FxVerP.ag5 (.u rfl) (fun _=>(hbb7.rd (by rfl)).rd) ?_)))
  refine cw rfl .no FxVerR.cv5_26 (.u rfl) (fun _=>wrap_u64 (by omega) (by omega)) ?_
  refine fa rfl .no Fx.fo104_1 (.u rfl) (ld rfl .no FxVerP.ag26 (.u rfl) (fun _=>(hbb7.rd (by rfl)).rd) ?_)
  refine bQ [g.level,g.number] rfl Fx.se126 Fx.zv26 (Evp.cons (.u rfl) (Evp.cons (.u rfl) Evp.nil)) rfl rfl (by decide) ?_; intro G84 h84 hG84 hs84
  have hsl2:=hsl2.mono hG84
  refine kc rfl Fx.go69 (Evc rfl (Evc rfl Evn)) (numbers_ok L9 h9 [g.level,g.number] h84 _ hsl2 hs84 (q2 ⟨by omega,by omega⟩ ⟨by omega,by omega⟩) (by simp only [List.length_cons,List.length_nil]; omega)) ?_
  rintro _ G85 μ85 hG85 ⟨h85,L85,eL85,rfl,rfl,hs85⟩
  have lL85:L85.length≤L9.length+10*([g.level,g.number]:List Int).length:=by rw [eL85,List.length_append]; have:=numsL_len (ns:=[g.level,g.number]) (q2 ⟨by omega,by omega⟩ ⟨by omega,by omega⟩); omega
  try simp only [List.length_cons,List.length_nil] at lL85
  have hsl2:=hsl2.mono hG85
  refine aS rfl rfl (.nil (.blk (.code (rq2 rfl rfl (arn (((j+1):Nat):Int) rfl .no (.u rfl) (.u rfl) rfl (fun _=>by omega) (fun _=>wrap_i64 (by omega) (by omega)) ?_)))))
  refine mV rfl rfl (.nil (We.lpo (j+1,h85,L85) ?_ ?_ ?_ ?_ ?_))
  ·exact (esD rfl (esC rfl (by first|rfl|exact evi (by omega)) (esD rfl (esD rfl eZ))))
  ·exact mN
  ·first|omega|(dsimp only; omega)
  ·exact (((hGl1).trans hleb7).trans hG84).trans hG85
  refine ⟨?_,?_,?_⟩
  ·(try dsimp only)<;>(first|omega|rfl|assumption|(simp; done))
  ·(try dsimp only)<;>(rw [eL85,encG_eq,eL9,flat_snoc eg,List.append_assoc])
  (try dsimp only)<;>(exact hs85)
 have c2k:=c2
 try simp only [qcA,qcB] at c2
 refine .exit (.xcode (.xlp (.xblk (.code (.seq (rq2 rfl rfl (mV rfl rfl (aS rfl rfl (.nil (.code (.ret (We.fin0 Tryz.results25 (.tmp rfl .nil) ?_))))))))))))
 obtain rfl:k=e.add.length:=by omega
 obtain rfl:j=e.drop.length:=by omega
 rw [List.take_length] at eL eL9
 exact ⟨h9,L9,by rw [eL9,eL70,eL,eL27,eL21,eL17,List.nil_append,encE_eq],rfl,rfl,hsl2⟩
namespace FxManR
theorem ag31:aggN Tryz.prog 31=some (some 5):=by kernel_rfl
end FxManR
namespace Fx
theorem ag120:aggN Tryz.prog 120=some none:=by kernel_rfl
theorem go25:goFn Tryz.prog 25=true:=by kernel_rfl
theorem go65:goFn Tryz.prog 65=true:=by kernel_rfl
theorem sz120:szT Tryz.prog 120=some 1:=by kernel_rfl
theorem zr120:zrL Tryz.prog 120=some ([.slice none 0 0]):=by kernel_rfl
theorem bp45_0_1_2_3_4:bPl Tryz.prog 45 [0,1,2,3,4]=some (nine (fun _=>0)++[.slice none 0 0,.slice none 0 0],[(0,1),(1,1),(2,1),(3,1),(4,5)]):=by kernel_rfl
theorem go64:goFn Tryz.prog 64=true:=by kernel_rfl
theorem bp45_5:bPl Tryz.prog 45 [5]=some (nine (fun _=>0)++[.slice none 0 0,.slice none 0 0],[(9,1)]):=by kernel_rfl
theorem go66:goFn Tryz.prog 66=true:=by kernel_rfl
end Fx
theorem add_ok (e:Edit) (ha hd:Sh) (L:List Dg) (v:Value) (bl:Nat) (G:PM) (he:EdR G e ha hd) (hla:e.add.length≤1000000) (hld:e.drop.length≤1000000) (hlm:(e.add.flatMap encM).length≤9000000000000) (hK:RdNP G 1 0 (wa 64 kW)) (hL:L.length≤1000000):Ct Tryz.prog 64 ([e.val ha hd,.pointer (some ⟨bl,0,none⟩)]:List Value).toArray G [.blk bl (cl [v] 120),rS 32 (ba 32) v 23 L] (fun _ μ' u=>∃ v',μ'=[.blk bl (cl [v'] 120),rS 32 (ba 32) v' 23 (L++[leafE e])]∧u=.tuple #[]):=by
 refine Ct.of Tryz.func64 rfl Tryz.ntmps64 rfl fun w0 hs0=>?_
 have hle:=encE_len he.wf hla hld
 refine .seq (rq1 rfl rfl ?_)
 refine bx rfl (.u rfl) rfl ?_; intro b2
 refine .nil (.code (Wk.draw (mc:=⟨false,false⟩) [0,1,2,3,4,5,6] Fx.mix (by kernel_rfl) ?_))
 refine ld rfl .no Fx.ag120 (.u rfl) (fun _=>Rd.own tk1 (by first|exact wap_f rfl|rfl)) ?_
 refine lA rfl .no Fx.ag45 (.u rfl) (fun _=>RdN.own .here) (fun _=>Edit.len) ?_
 refine kc rfl Fx.go25 (Evc rfl Evn) (encode_ok e ha hd _ he hla hld (by omega)) ?_
 rintro _ G5 μ5 hG5 ⟨h5,L5,eL5,rfl,rfl,hs5⟩
 have hK:=hK.mono hG5
 refine kv rfl .no Fx.go65 (Evc rfl Evn) (fun _=>leaf_ok _ _ _ hs5 hK (by rw [eL5]; omega)) ?_
 refine Go.Tan.b1 rfl Fx.se120 Fx.zw23 (.u rfl) rfl rfl (by decide) ?_; intro b7
 refine apS (xs:=L) ((leafD L5)) rfl Fx.se120 Fx.zw23 rfl (.u rfl) (.u rfl) tk3 .here (ba_len _ _) (ba_one _ _) (by omega) (by unfold maxLen; omega) ?_; intro v8 ov8
 refine s1v rfl (.u rfl) (.u rfl) .here Fx.sz120 tk3 (by first|decide|(simp only [wa_len,ba_len,qlA]; omega)) (rfl) ?_
 refine .nil (.nil (We.fin Tryz.results64 .nil (mS .here rfl (mS .here rfl mN)) ?_))
 exact ⟨_,by rw [eL5]; rfl,rfl⟩
theorem add_one (m:Meta) (b:Nat) (T:TypeId) (L:List Dg) (v:Value) (bl:Nat) (G:PM) (hw:m.wf) (hm:m.min.size+m.max.size≤900000000000) (hK:RdNP G 1 0 (wa 64 kW)) (hL:L.length≤1000000):Ct Tryz.prog 64 ([(oneE m).val ⟨some ⟨b,0,none⟩,1⟩ ⟨none,0⟩]++[.pointer (some ⟨bl,0,none⟩)]:List Value).toArray G [.blk b (cl m.cells T),.blk bl (cl [v] 120),rS 32 (ba 32) v 23 L] (fun _ μ' u=>∃ v',μ'=[.blk bl (cl [v'] 120),rS 32 (ba 32) v' 23 (L++[leafE (oneE m)])]∧u=.tuple #[]):=by
 refine Ct.give fun hle=>?_
 have h1:=oneE_len hw
 exact add_ok (oneE m) ⟨some ⟨b,0,none⟩,1⟩ ⟨none,0⟩ L v bl _ ⟨SlR.one1 (enc:=Meta.cells) (x:=m),SlR.nul,oneE_wf hw⟩ (by show 1≤_; decide) (by show 0≤_; decide) (by omega) (hK.mono hle) hL
theorem mRoot_ok (s:State) (hd:Nat→Sh) (G:PM) (hs:StR G s hd) (hn:StN s) (hl:StL s) (hK:RdNP G 1 0 (wa 64 kW)):Ct Tryz.prog 22 ([s.val hd]:List Value).toArray G [] (fun _ μ' u=>μ'=[]∧u=.agg (ba 32 (rootS s)).toArray):=by
 refine Ct.of Tryz.func22 rfl Tryz.ntmps22 rfl fun w0 hs0=>?_
 have hf:=hl.few
 refine .seq (rq2 rfl rfl ?_)
 refine bx rfl (.u rfl) rfl ?_; intro b1
 refine al rfl Fx.zq23 ?_; intro b2
 refine .nil (.code (.seq (rq1 rfl rfl ?_)))
 refine al rfl Fx.zr120 ?_; intro b3
 refine .nil (.code (.seq (rq2 rfl rfl (mf (vf:=#[]) (vc:=[Value.pointer (some ⟨b3,0,none⟩)].toArray) rfl .no (fun a ha _=>by simp) (fun a ha _=>by simp [(Ev.u (c:=true) rfl:Ev _ true (.tmp 3) _).eval ha rfl]) ?_))))
 refine aS rfl rfl (.nil (.code (.seq (wk_nilS 32 (ba 32) 23 ?_))))
 refine Wk.rg [0,1,2,3,4,5,6,7,8,9,10,11,12] rfl rfl (mV rfl rfl (fz rfl .no Fx.fo33_1 (.u rfl) (ld rfl .no Fx.ag26 (.u rfl) (fun _=>Rd.own tk3 (by first|exact wap_f rfl|rfl)) ?_)))
 refine fz rfl .no Fx.fo33_2 (.u rfl) (ld rfl .no Fx.ag26 (.u rfl) (fun _=>Rd.own tk3 (by first|exact wap_f rfl|rfl)) ?_)
 refine fz rfl .no Fx.fo33_3 (.u rfl) (ld rfl .no Fx.ag26 (.u rfl) (fun _=>Rd.own tk3 (by first|exact wap_f rfl|rfl)) ?_)
 refine fz rfl .no Fx.fo33_4 (.u rfl) (ld rfl .no Fx.ag26 (.u rfl) (fun _=>Rd.own tk3 (by first|exact wap_f rfl|rfl)) ?_)
 refine fz rfl .no Fx.fo33_5 (.u rfl) (lA rfl .no FxManR.ag31 (.u rfl) (fun _=>RdN.part (n:=5) (cs':=(List.range 5).map (fun i=>.int .u64 (s.gens i))) tk3 (rfl)) (fun _=>rfl) (bCe ((headE s).cells ⟨none,0⟩ ⟨none,0⟩) rfl .no Fx.bp45_0_1_2_3_4 (.cons (.u rfl) rfl (.cons (.u rfl) rfl (.cons (.u rfl) rfl (.cons (.u rfl) rfl (.cons (.u rfl) rfl .nil))))) rfl (rfl) (kaf (vs:=[_]) (vc:=[.pointer (some ⟨b3,0,none⟩)]) rfl (.inr rfl) (.u rfl) Fx.go64 (Evc rfl Evn) (mtk2 tk1 .here) (add_ok (headE s) ⟨none,0⟩ ⟨none,0⟩ [] _ b3 _ ⟨SlR.nul,SlR.nul,headE_wf hn⟩ (by show 0≤_; decide) (by show 0≤_; decide) (by have:=headE_len (s:=s); omega) hK (by simp)) ?_)))
 rintro _ G22 μ22 hG22 ⟨v22,rfl,rfl⟩
 have hs:=hs.mono hG22
 have hK:=hK.mono hG22
 refine .nil (.code (.seq (.seq (rq3 rfl rfl (fz rfl .no Fx.fo33_0 (.u rfl) (lA rfl .no Fx.ag30 (.u rfl) (fun _=>RdN.part (n:=5) (cs':=(List.range 5).map (fun i=>(hd i).val (s.lv i).length)) tk3 (rfl)) (fun _=>rfl) ?_))))))
 refine mV rfl rfl (.nil (.code (.block ?_)))
 refine Wk.lop (α:=Nat×Value) (fun gh=>[(25,true,.int .i64 (gh.1:Int))]) (fun gh=>[.blk b3 (cl [gh.2] 120),rS 32 (ba 32) gh.2 23 (leavesT s gh.1 0)])
  (fun gh Gl=>(gh.1≤5)) (fun gh=>5-gh.1) (0,v22) [(2,true,_),(3,true,_),(4,true,_),(24,true,_)] [_,_]
  (esC rfl (by first|rfl|exact evi (by omega)) (esD rfl (esD rfl (esD rfl (esD rfl eZ)))))
  (mS .here rfl (mS .here (by rw [leavesT_0]) (mS .here rfl (mS .here rfl mN)))) ?_ ?_
 ·(try dsimp only)<;>(first|omega|rfl|assumption|(simp; done))
 intro gh N0 Gl0 hN0 hGl0 hF0
 obtain ⟨k,v⟩:=gh; dsimp only at hF0 hN0 ⊢
 have hk:=hF0
 have hs:=hs.mono hGl0
 have hK:=hK.mono hGl0
 refine .seq (rq1 rfl rfl (cp rfl .no (.u rfl) (.u rfl) rfl (.nil (.code (.seq (.cond rfl (fun c1=>?_) (fun c1=>?_)))))))
 ·have c1k:=c1
  try simp only [qcA,qcC,qcB] at c1
  refine .skip (.code (.seq (.block (.seq ?_))))
  have hlv:=hs.lv k (by omega)
  have htl:=tot_lt (s:=s) (k:=k) (by omega)
  have htn:=tot_nonneg s k
  refine rq2 rfl rfl (ix rfl .no Fx.ar30 Fx.ag29 (.u rfl) (.u rfl) (fun _=>by omega) (fun _=>by omega) (fun _=>(lvs_at s hd (k:=k) (by omega) (by omega))) ?_)
  refine aS rfl rfl (.nil (.code (.seq (rq3 rfl rfl (mV rfl rfl (ln rfl .no Fx.sn29 (.u rfl) (mV rfl rfl (.nil (.code (.block ?_))))))))))
  refine Wk.lop (α:=Nat×Value) (fun gh=>[(30,true,.int .i64 (gh.1:Int))]) (fun gh=>[.blk b3 (cl [gh.2] 120),rS 32 (ba 32) gh.2 23 (leavesT s k gh.1)])
   (fun gh Gl=>(gh.1≤(s.lv k).length)) (fun gh=>(s.lv k).length-gh.1) (0,v) [(2,true,_),(3,true,_),(4,true,_),(24,true,_),(25,true,_),(28,true,_),(29,true,_)] [_,_]
   (esC rfl (by first|rfl|exact evi (by omega)) (esD rfl (esD rfl (esD rfl (esD rfl (esD rfl (esD rfl (esD rfl eZ))))))))
   (mS .here rfl (mS .here rfl (mS .here rfl (mS .here rfl mN)))) ?_ ?_
  ·(try dsimp only)<;>(first|omega|rfl|assumption|(simp; done))
  intro gh N1 Gl1 hN1 hGl1 hF1
  obtain ⟨j,w⟩:=gh; dsimp only at hF1 hN1 ⊢
  have hj:=hF1
  have hs:=hs.mono hGl1
  have hK:=hK.mono hGl1
  have hlv:=hlv.mono hGl1
  refine .seq (rq1 rfl rfl (cp rfl .no (.u rfl) (.u rfl) rfl (.nil (.code (.seq (.cond rfl (fun c2=>?_) (fun c2=>?_)))))))
  ·have c2k:=c2
   try simp only [qcA,qcC,qcB] at c2
   refine .skip (.code (.seq (.block (.seq (rq4 rfl rfl (ih rfl .no Fx.se29 (.u rfl) (.u rfl) (fun _=>by omega) (fun _=>by omega) (fun _=>hlv.nn (k:=j) (by first|omega|(simp only [Bool.and_eq_true,decide_eq_true_eq] at hc; omega)|(simp only [List.length_cons,List.length_nil]; omega))) ?_))))))
   obtain ⟨m,em⟩:=getx (k:=j) (xs:=s.lv k) (by omega)
   refine lA rfl .no Fx.ag98 (.u rfl) (fun _=>(hlv.at (by omega) em).rd) (fun _=>Meta.len _) ?_
   refine al rfl Fx.zq98 ?_; intro b8
   refine sw rfl (.u rfl) (.u rfl) rfl Fx.sz98 .here rfl (Meta.one _) ?_
   refine .nil (.code (rq5 rfl rfl (mV rfl rfl (lA rfl .no Fx.ag98 (.u rfl) (fun _=>RdN.own .here) (fun _=>Meta.len _) ?_))))
   refine Go.Tan.b1 rfl Fx.se29 Fx.zw98 (.u rfl) rfl rfl (by decide) ?_; intro b36
   refine bCe ((oneE m).cells ⟨some ⟨b36,0,none⟩,1⟩ ⟨none,0⟩) rfl .no Fx.bp45_5 (.cons (.u rfl) rfl .nil) rfl (rfl) (kaf (vs:=[_]) (vc:=[.pointer (some ⟨b3,0,none⟩)]) rfl (.inr rfl) (.u rfl) Fx.go64 (Evc rfl Evn) (mtk3 .here tk1 tk1) (add_one m b36 _ (leavesT s k j) _ b3 _ (hs.wf k (by omega) m (List.mem_of_getElem? em)) (hl.short k (by omega) m (List.mem_of_getElem? em)) hK (by have:=leavesT_len s k j; omega)) ?_)
   rintro _ G38 μ38 hG38 ⟨v38,rfl,rfl⟩
   have hK:=hK.mono hG38
   refine .nil (.blk (.code (rq2 rfl rfl (arn (((j+1):Nat):Int) rfl .no (.u rfl) (.u rfl) rfl (fun _=>by omega) (fun _=>wrap_i64 (by omega) (by omega)) ?_))))
   refine mV rfl rfl (.nil (We.lpo (j+1,v38) ?_ ?_ ?_ ?_ ?_))
   ·exact (esC rfl (by first|rfl|exact evi (by omega)) (esD rfl (esD rfl (esD rfl (esD rfl (esD rfl (esD rfl (esD rfl eZ))))))))
   ·exact (mS .here rfl (mS .here (by rw [leavesT_snoc em]) (mS tk1 rfl (mS tk1 rfl mN))))
   ·first|omega|(dsimp only; omega)
   ·exact (hGl1).trans hG38
   (try dsimp only)<;>(first|omega|rfl|assumption|(simp; done))
  have c2k:=c2
  try simp only [qcA,qcC,qcB] at c2
  refine .exit (.xcode (.xlp (.xblk (.blk (.code (rq2 rfl rfl (arn (((k+1):Nat):Int) rfl .no (.u rfl) (.u rfl) rfl (fun _=>by omega) (fun _=>wrap_i64 (by omega) (by omega)) ?_)))))))
  refine mV rfl rfl (.nil (We.lpo (k+1,w) ?_ ?_ ?_ ?_ ?_))
  ·exact (esC rfl (by first|rfl|exact evi (by omega)) (esD rfl (esD rfl (esD rfl (esD rfl eZ)))))
  ·exact (mS .here rfl (mS .here (by rw [leavesT_next (by omega)]) (mS .here rfl (mS .here rfl mN))))
  ·first|omega|(dsimp only; omega)
  ·exact (hGl0).trans hGl1
  (try dsimp only)<;>(first|omega|rfl|assumption|(simp; done))
 have c1k:=c1
 try simp only [qcA,qcC,qcB] at c1
 refine .exit (.xcode (.xlp (.xblk (.code (.seq ?_)))))
 obtain rfl:k=5:=by omega
 rw [leavesT_5]
 have hll:=leavesS_len s
 refine wk_fs tk1 (fun _ _=>rfl) (by intro b hb; cases hb) ?_; intro GfRL hRL hleRL evRL hsRL; subst evRL
 have hK:=hK.mono hleRL
 refine rq3 rfl rfl (ld rfl .no Fx.ag120 (.u rfl) (fun _=>Rd.own .here (by first|exact wap_f rfl|rfl)) ?_)
 refine kv rfl .no Fx.go66 (Evc rfl Evn) (fun _=>root_ok (leavesS s) hRL _ hsRL hK (by omega)) ?_
 refine sw rfl (.u rfl) (.u rfl) rfl Fx.sz23 tk1 (by first|exact qE|exact qL|rfl) (by first|exact ba_one _ _|exact wa_one _ _|exact one_V _|decide|exact one_app (wa_one _ _) (by simp [Value.oneCell'])) ?_
 refine .nil (.code (.ret (We.fin0 Tryz.results22 (.cell rfl (fun w hw=>run_loadVarN Fx.ag23 (RdN.own .here) ((ba_len _ _)) hw) .nil) ?_)))
 exact ⟨rfl,rfl⟩
namespace Fx
theorem go95:goFn Tryz.prog 95=true:=by kernel_rfl
theorem go124:goFn Tryz.prog 124=true:=by kernel_rfl
theorem go96:goFn Tryz.prog 96=true:=by kernel_rfl
end Fx
set_option maxHeartbeats 1000000 in
theorem rMeta_ok (m:Meta) (G:PM) (hwm:m.wf) (hlm:m.min.size+m.max.size≤10000000000000):Ct Tryz.prog 96 ([m.val]:List Value).toArray G [] (PR 5 (fun L=>L=encM m)):=by
 refine Ct.of Tryz.func96 rfl Tryz.ntmps96 rfl fun w0 hs0=>?_
 have w1:=hwm.level; have w2:=hwm.gen; have w3:=hwm.epoch; have w4:=hwm.number; have l6:=u64_6 hwm; have ly:=yb_len m.min; have ly2:=yb_len m.max
 refine .seq (rq2 rfl rfl ?_)
 refine bx rfl (.u rfl) rfl ?_; intro b1
 refine aS rfl rfl (.nil (.code (.seq ?_)))
 refine wk_fz .here (by intro b hb; cases hb) ?_; intro Gfb1 hleb1 hbb1
 refine Wk.rg [0,1,2,3,4,5,6,7,8,9,10,11,12,13,14,15,16,17] rfl rfl (fa rfl .no Fx.fo98_0 (.u rfl) (ld rfl .no FxVerP.ag5 (.u rfl) (fun _=>(hbb1.rd (by rfl)).rd) ?_))
 refine cw rfl .no FxVerR.cv5_26 (.u rfl) (fun _=>wrap_u64 (by omega) (by omega)) ?_
 refine fa rfl .no Fx.fo98_1 (.u rfl) (ld rfl .no FxVerP.ag26 (.u rfl) (fun _=>(hbb1.rd (by rfl)).rd) ?_)
 refine fa rfl .no Fx.fo98_2 (.u rfl) (ld rfl .no FxVerP.ag26 (.u rfl) (fun _=>(hbb1.rd (by rfl)).rd) ?_)
 refine fa rfl .no Fx.fo98_3 (.u rfl) (ld rfl .no FxVerP.ag26 (.u rfl) (fun _=>(hbb1.rd (by rfl)).rd) ?_)
 refine fa rfl .no Fx.fo98_4 (.u rfl) (ld rfl .no FxVerP.ag3 (.u rfl) (fun _=>(hbb1.rd (by rfl)).rd) ?_)
 refine cv rfl .no FxVerR.cv3_26 (.u rfl) (fa rfl .no Fx.fo98_5 (.u rfl) (ld rfl .no FxVerP.ag3 (.u rfl) (fun _=>(hbb1.rd (by rfl)).rd) ?_))
 refine cv rfl .no FxVerR.cv3_26 (.u rfl) ?_
 refine bQ [m.level,m.gen,m.epoch,m.number,IntKind.u64.wrap m.size,IntKind.u64.wrap m.count] rfl Fx.se126 Fx.zv26 (Evp.cons (.u rfl) (Evp.cons (.u rfl) (Evp.cons (.u rfl) (Evp.cons (.u rfl) (Evp.cons (.u rfl) (Evp.cons (.u rfl) Evp.nil)))))) rfl rfl (by decide) ?_; intro G19 h19 hG19 hs19
 have hbb1:=hbb1.mono hG19
 refine kc rfl Fx.go95 (Evc rfl Evn) (Ct.rowc (nums_ok [m.level,m.gen,m.epoch,m.number,IntKind.u64.wrap m.size,IntKind.u64.wrap m.count] h19 _ hs19 l6 (by simp only [List.length_cons,List.length_nil]; omega))) ?_
 rintro v20 G20 μ20 hG20 ⟨L20,ov20,eL20,rfl⟩
 have hbb1:=hbb1.mono hG20
 refine aS rfl rfl (.nil (.code (.seq (rq6 rfl rfl (mV rfl rfl (fa rfl .no Fx.fo98_6 (.u rfl) (ld rfl .no Fx.ag9 (.u rfl) (fun _=>(hbb1.rd (by rfl)).rd) ?_)))))))
 refine kc rfl Fx.go124 (Evc rfl Evn) (Ct.frzB (rrStr_ok m.min _ (by omega))) ?_
 rintro _ G24 μ24 hG24 ⟨h24,L24,eL24,rfl,rfl,hs24⟩
 have hbb1:=hbb1.mono hG24
 have lL20:L20.length≤10*([m.level,m.gen,m.epoch,m.number,IntKind.u64.wrap m.size,IntKind.u64.wrap m.count]:List Int).length:=by rw [eL20]; exact numsL_len (ns:=[m.level,m.gen,m.epoch,m.number,IntKind.u64.wrap m.size,IntKind.u64.wrap m.count]) l6
 try simp only [List.length_cons,List.length_nil] at lL20
 have l24:L24.length≤m.min.size+10:=by rw [eL24]; have:=strL_len (xs:=yb m.min) (by omega); omega
 refine apY rfl FxVerR.se24 FxVerR.zv5 (.u rfl) (.u rfl) .here hs24.sc (by (try simp only [qlA,yl_len]); omega) ?_
 intro v25 L25 ov25 eL25
 have lL25:L25.length=L20.length+L24.length:=by rw [eL25,List.length_append]
 refine aS rfl rfl (.nil (.code (.seq (rq6 rfl rfl (mV rfl rfl (fa rfl .no Fx.fo98_7 (.u rfl) (ld rfl .no Fx.ag9 (.u rfl) (fun _=>(hbb1.rd (by rfl)).rd) ?_)))))))
 refine kc rfl Fx.go124 (Evc rfl Evn) (Ct.frzB (rrStr_ok m.max _ (by omega))) ?_
 rintro _ G29 μ29 hG29 ⟨h29,L29,eL29,rfl,rfl,hs29⟩
 have hbb1:=hbb1.mono hG29
 have l29:L29.length≤m.max.size+10:=by rw [eL29]; have:=strL_len (xs:=yb m.max) (by omega); omega
 refine apY rfl FxVerR.se24 FxVerR.zv5 (.u rfl) (.u rfl) .here hs29.sc (by (try simp only [qlA,yl_len]); omega) ?_
 intro v30 L30 ov30 eL30
 have lL30:L30.length=L25.length+L29.length:=by rw [eL30,List.length_append]
 refine aS rfl rfl (.nil (.code (.seq (rq5 rfl rfl (mV rfl rfl (fa rfl .no Fx.fo98_8 (.u rfl) ?_))))))
 refine kA rfl .no FxVerW.ar23 (.u rfl) hbb1 (meta_ba hwm) ?_; intro h33 L33 eL33 lL33 hs33
 refine apY rfl FxVerR.se24 FxVerR.zv5 (.u rfl) (.u rfl) .here hs33.sc (by (try simp only [qlA,yl_len]); omega) ?_
 intro v34 L34 ov34 eL34
 have lL34:L34.length=L30.length+L33.length:=by rw [eL34,List.length_append]
 refine aS rfl rfl (.nil (.code (.seq (rq2 rfl rfl (mV rfl rfl (aS rfl rfl (.nil (.code (.ret (We.fin Tryz.results96 (.tmp rfl .nil) (mS .here rfl mN) ?_))))))))))
 exact ⟨L34,by have:=encM_eq m []; rw [List.nil_append,List.nil_append] at this; rw [eL34,eL30,eL25,eL20,eL24,eL29,eL33,this],rfl⟩
set_option maxHeartbeats 2000000 in
theorem rEncode_ok (e:Edit) (ha hd:Sh) (G:PM) (he:EdR G e ha hd) (hla:e.add.length≤1000000) (hld:e.drop.length≤1000000) (hlm:(e.add.flatMap encM).length≤10000000000000):Ct Tryz.prog 53 ([e.val ha hd]:List Value).toArray G [] (PR 5 (fun L=>L=encE e)):=by
 refine Ct.of Tryz.func53 rfl Tryz.ntmps53 rfl fun w0 hs0=>?_
 have hea:=he.add; have hed:=he.drop; have hw:=he.wf; have hw1:=hw.log; have hw2:=hw.next; have hw3:=hw.seq; have hw4:=hw.least; have lgn:(gensL e).length=5:=rfl
 refine .seq (rq2 rfl rfl ?_)
 refine bx rfl (.u rfl) rfl ?_; intro b1
 refine aS rfl rfl (.nil (.code (.seq ?_)))
 refine wk_fz .here (by intro b hb; cases hb) ?_; intro Gfb1 hleb1 hbb1
 have hea:=hea.mono hleb1
 have hed:=hed.mono hleb1
 have hgn:=gens_sl hbb1
 refine Wk.rg [0,1,2,3,4,5,6,7,8,9,10] rfl rfl (fa rfl .no Fx.fo45_0 (.u rfl) (ld rfl .no FxVerP.ag26 (.u rfl) (fun _=>(hbb1.rd (by rfl)).rd) ?_))
 refine fa rfl .no Fx.fo45_1 (.u rfl) (ld rfl .no FxVerP.ag26 (.u rfl) (fun _=>(hbb1.rd (by rfl)).rd) ?_)
 refine fa rfl .no Fx.fo45_2 (.u rfl) (ld rfl .no FxVerP.ag26 (.u rfl) (fun _=>(hbb1.rd (by rfl)).rd) ?_)
 refine fa rfl .no Fx.fo45_3 (.u rfl) (ld rfl .no FxVerP.ag26 (.u rfl) (fun _=>(hbb1.rd (by rfl)).rd) ?_)
 refine bQ [e.log,e.next,e.seq,e.least] rfl Fx.se126 Fx.zv26 (Evp.cons (.u rfl) (Evp.cons (.u rfl) (Evp.cons (.u rfl) (Evp.cons (.u rfl) Evp.nil)))) rfl rfl (by decide) ?_; intro G14 h14 hG14 hs14
 have hea:=hea.mono hG14
 have hed:=hed.mono hG14
 have hbb1:=hbb1.mono hG14
 have hgn:=hgn.mono hG14
 refine kc rfl Fx.go95 (Evc rfl Evn) (Ct.rowc (nums_ok [e.log,e.next,e.seq,e.least] h14 _ hs14 (q4 hw1 hw2 hw3 hw4) (by simp only [List.length_cons,List.length_nil]; omega))) ?_
 rintro v15 G15 μ15 hG15 ⟨L15,ov15,eL15,rfl⟩
 have hea:=hea.mono hG15
 have hed:=hed.mono hG15
 have hbb1:=hbb1.mono hG15
 have hgn:=hgn.mono hG15
 refine aS rfl rfl (.nil (.code (.seq (rq6 rfl rfl (mV rfl rfl (fa rfl .no Fx.fo45_4 (.u rfl) (sa0 rfl .no Fx.ar31 (.u rfl) (kc rfl Fx.go95 (Evc rfl Evn) (Ct.frzB (nums_ok (gensL e) ⟨some ⟨b1,4,none⟩,5⟩ _ hgn (gens_u hw) (by show 10*5≤_; omega))) ?_))))))))
 rintro _ G19 μ19 hG19 ⟨h19,L19,eL19,rfl,rfl,hs19⟩
 have hea:=hea.mono hG19
 have hed:=hed.mono hG19
 have hbb1:=hbb1.mono hG19
 have lL15:L15.length≤10*([e.log,e.next,e.seq,e.least]:List Int).length:=by rw [eL15]; exact numsL_len (ns:=[e.log,e.next,e.seq,e.least]) (q4 hw1 hw2 hw3 hw4)
 try simp only [List.length_cons,List.length_nil] at lL15
 have lL19:L19.length≤10*((gensL e):List Int).length:=by rw [eL19]; exact numsL_len (ns:=(gensL e)) (gens_u hw)
 try simp only [List.length_cons,List.length_nil] at lL19
 refine apY rfl FxVerR.se24 FxVerR.zv5 (.u rfl) (.u rfl) .here hs19.sc (by (try simp only [qlA,yl_len]); omega) ?_
 intro v20 L20 ov20 eL20
 have lL20:L20.length=L15.length+L19.length:=by rw [eL20,List.length_append]
 refine aS rfl rfl (.nil (.code (.seq (rq9 rfl rfl (mV rfl rfl (fa rfl .no Fx.fo45_5 (.u rfl) (ld rfl .no Fx.ag29 (.u rfl) (fun _=>(hbb1.rd (by rfl)).rd) ?_)))))))
 refine ln rfl .no Fx.sn29 (.u rfl) (cw rfl .no FxVerR.cv3_26 (.u rfl) (fun _=>wrap_u64 (by omega) (by omega)) ?_)
 refine bQ [(e.add.length:Int)] rfl Fx.se126 Fx.zv26 (Evp.cons (.u rfl) Evp.nil) rfl rfl (by decide) ?_; intro G26 h26 hG26 hs26
 have hea:=hea.mono hG26
 have hed:=hed.mono hG26
 have hbb1:=hbb1.mono hG26
 refine kc rfl Fx.go95 (Evc rfl Evn) (Ct.frzB (nums_ok [(e.add.length:Int)] h26 _ hs26 (q1 (u64_len (by omega))) (by simp only [List.length_cons,List.length_nil]; omega))) ?_
 rintro _ G27 μ27 hG27 ⟨h27,L27,eL27,rfl,rfl,hs27⟩
 have hea:=hea.mono hG27
 have hed:=hed.mono hG27
 have hbb1:=hbb1.mono hG27
 have lL27:L27.length≤10*([(e.add.length:Int)]:List Int).length:=by rw [eL27]; exact numsL_len (ns:=[(e.add.length:Int)]) (q1 (u64_len (by omega)))
 try simp only [List.length_cons,List.length_nil] at lL27
 refine apY rfl FxVerR.se24 FxVerR.zv5 (.u rfl) (.u rfl) .here hs27.sc (by (try simp only [qlA,yl_len]); omega) ?_
 intro v28 L28 ov28 eL28
 have lL28:L28.length=L20.length+L27.length:=by rw [eL28,List.length_append]
 refine aS rfl rfl (.nil (.code (.seq (.seq (rq1 rfl rfl (aS rfl rfl (.nil (.code (.block ?_)))))))))
 refine Wk.lop (α:=Nat×Value×List Y) (fun gh=>[(3,true,gh.2.1),(4,true,.int .i64 (gh.1:Int))]) (fun gh=>[rB gh.2.1 5 gh.2.2])
  (fun gh Gl=>(gh.1≤e.add.length)∧(gh.2.2=L28++(e.add.take gh.1).flatMap encM)) (fun gh=>e.add.length-gh.1) (0,v28,L28) [(1,true,_)] []
  (esD rfl (esC rfl (by first|rfl|exact evi (by omega)) (esD rfl eZ)))
  (mS .here rfl mN) ?_ ?_
 ·refine ⟨?_,?_⟩
  ·(try dsimp only)<;>(first|omega|rfl|assumption|(simp; done))
  (try dsimp only)<;>(simp)
 intro gh N0 Gl0 hN0 hGl0 hF0
 obtain ⟨k,v3,L3⟩:=gh; dsimp only at hF0 hN0 ⊢
 obtain ⟨hk,eL⟩:=hF0
 have hea:=hea.mono hGl0
 have hed:=hed.mono hGl0
 have hbb1:=hbb1.mono hGl0
 have lk:=flat_take_le (f:=encM) (xs:=e.add) k
 have lL:L3.length=L28.length+((e.add.take k).flatMap encM).length:=by rw [eL,List.length_append]
 refine .seq (.seq (rq5 rfl rfl (mV rfl rfl (fa rfl .no Fx.fo45_5 (.u rfl) (ld rfl .no Fx.ag29 (.u rfl) (fun _=>(hbb1.rd (by rfl)).rd) ?_)))))
 refine ln rfl .no Fx.sn29 (.u rfl) (cp rfl .no (.u rfl) (.u rfl) rfl (.nil (.code (.cond rfl (fun c1=>?_) (fun c1=>?_)))))
 ·have c1k:=c1
  try simp only [qcA,qcB] at c1
  refine .skip (.code (.seq (.block (rq9 rfl rfl (mV rfl rfl (fa rfl .no Fx.fo45_5 (.u rfl) (ld rfl .no Fx.ag29 (.u rfl) (fun _=>(hbb1.rd (by rfl)).rd) ?_)))))))
  refine mV rfl rfl (ih rfl .no Fx.se29 (.u rfl) (.u rfl) (fun _=>by omega) (fun _=>by omega) (fun _=>hea.nn (k:=k) (by first|omega|(simp only [Bool.and_eq_true,decide_eq_true_eq] at hc; omega)|(simp only [List.length_cons,List.length_nil]; omega))) ?_)
  obtain ⟨m,em⟩:=getx (k:=k) (xs:=e.add) (by omega)
  refine lA rfl .no Fx.ag98 (.u rfl) (fun _=>(hea.at (by omega) em).rd) (fun _=>Meta.len _) ?_
  have hwm:=hw.add m (List.mem_of_getElem? em); have lt:=flat_take (f:=encM) em; have lg:=encM_ge m
  refine kc rfl Fx.go96 (Evc rfl Evn) (Ct.frzB (rMeta_ok m _ hwm (by omega))) ?_
  rintro _ G42 μ42 hG42 ⟨h42,L42,eL42,rfl,rfl,hs42⟩
  have hed:=hed.mono hG42
  have hbb1:=hbb1.mono hG42
  have l42:L42.length=(encM m).length:=by rw [eL42]
  refine apY rfl FxVerR.se24 FxVerR.zv5 (.u rfl) (.u rfl) .here hs42.sc (by (try simp only [qlA,yl_len]); omega) ?_
  intro v43 L43 ov43 eL43
  have lL43:L43.length=L3.length+L42.length:=by rw [eL43,List.length_append]
  refine aS rfl rfl (.nil (.blk (.code (rq3 rfl rfl (mV rfl rfl (arn (((k+1):Nat):Int) rfl .no (.u rfl) (.u rfl) rfl (fun _=>by omega) (fun _=>wrap_i64 (by omega) (by omega)) ?_))))))
  refine aS rfl rfl (.nil (We.lpo (k+1,v43,L43) ?_ ?_ ?_ ?_ ?_))
  ·exact (esD rfl (esC rfl (by first|rfl|exact evi (by omega)) (esD rfl eZ)))
  ·exact (mS .here rfl mN)
  ·first|omega|(dsimp only; omega)
  ·exact (hGl0).trans hG42
  refine ⟨?_,?_⟩
  ·(try dsimp only)<;>(first|omega|rfl|assumption|(simp; done))
  (try dsimp only)<;>(rw [eL43,eL42,eL,flat_snoc em,List.append_assoc])
 have c1k:=c1
 try simp only [qcA,qcB] at c1
 refine .exit (.xcode (.xlp (.xblk (.code (.seq (rq9 rfl rfl (mV rfl rfl (fa rfl .no Fx.fo45_6 (.u rfl) (ld rfl .no Fx.ag43 (.u rfl) (fun _=>(hbb1.rd (by rfl)).rd) ?_)))))))))
 refine ln rfl .no Fx.sn43 (.u rfl) (cw rfl .no FxVerR.cv3_26 (.u rfl) (fun _=>wrap_u64 (by omega) (by omega)) ?_)
 refine bQ [(e.drop.length:Int)] rfl Fx.se126 Fx.zv26 (Evp.cons (.u rfl) Evp.nil) rfl rfl (by decide) ?_; intro G49 h49 hG49 hs49
 have hed:=hed.mono hG49
 have hbb1:=hbb1.mono hG49
 refine kc rfl Fx.go95 (Evc rfl Evn) (Ct.frzB (nums_ok [(e.drop.length:Int)] h49 _ hs49 (q1 (u64_len (by omega))) (by simp only [List.length_cons,List.length_nil]; omega))) ?_
 rintro _ G50 μ50 hG50 ⟨h50,L50,eL50,rfl,rfl,hs50⟩
 have hed:=hed.mono hG50
 have hbb1:=hbb1.mono hG50
 have lL50:L50.length≤10*([(e.drop.length:Int)]:List Int).length:=by rw [eL50]; exact numsL_len (ns:=[(e.drop.length:Int)]) (q1 (u64_len (by omega)))
 try simp only [List.length_cons,List.length_nil] at lL50
 refine apY rfl FxVerR.se24 FxVerR.zv5 (.u rfl) (.u rfl) .here hs50.sc (by (try simp only [qlA,yl_len]); omega) ?_
 intro v51 L51 ov51 eL51
 have lL51:L51.length=L3.length+L50.length:=by rw [eL51,List.length_append]
 refine aS rfl rfl (.nil (.code (.seq (.seq (rq1 rfl rfl (aS rfl rfl (.nil (.code (.block ?_)))))))))
 refine Wk.lop (α:=Nat×Value×List Y) (fun gh=>[(3,true,gh.2.1),(5,true,.int .i64 (gh.1:Int))]) (fun gh=>[rB gh.2.1 5 gh.2.2])
  (fun gh Gl=>(gh.1≤e.drop.length)∧(gh.2.2=L51++(e.drop.take gh.1).flatMap encG)) (fun gh=>e.drop.length-gh.1) (0,v51,L51) [(1,true,_)] []
  (esD rfl (esC rfl (by first|rfl|exact evi (by omega)) (esD rfl eZ)))
  (mS .here rfl mN) ?_ ?_
 ·refine ⟨?_,?_⟩
  ·(try dsimp only)<;>(first|omega|rfl|assumption|(simp; done))
  (try dsimp only)<;>(simp)
 intro gh N1 Gl1 hN1 hGl1 hF1
 obtain ⟨j,v9,L9⟩:=gh; dsimp only at hF1 hN1 ⊢
 obtain ⟨hj,eL9⟩:=hF1
 have hed:=hed.mono hGl1
 have hbb1:=hbb1.mono hGl1
 have lk2:=flat_take_le (f:=encG) (xs:=e.drop) j
 have ld2:=gonesL hw.drop
 have lL9:L9.length=L51.length+((e.drop.take j).flatMap encG).length:=by rw [eL9,List.length_append]
 refine .seq (.seq (rq5 rfl rfl (mV rfl rfl (fa rfl .no Fx.fo45_6 (.u rfl) (ld rfl .no Fx.ag43 (.u rfl) (fun _=>(hbb1.rd (by rfl)).rd) ?_)))))
 refine ln rfl .no Fx.sn43 (.u rfl) (cp rfl .no (.u rfl) (.u rfl) rfl (.nil (.code (.cond rfl (fun c2=>?_) (fun c2=>?_)))))
 ·have c2k:=c2
  try simp only [qcA,qcB] at c2
  refine .skip (.code (.seq (.block (Wk.draw (mc:=⟨false,false⟩) [0,1,2,3,4,5,6,7,8,9,10,11,12,13,14,15,16,17] FxVerP.mix (by kernel_rfl) ?_))))
  obtain ⟨g,eg⟩:=getx (k:=j) (xs:=e.drop) (by omega)
  have hwg:=hw.drop g (List.mem_of_getElem? eg); have w1:=hwg.level; have w2:=hwg.number; have lt:=flat_take (f:=encG) eg
  refine mV rfl rfl (fa rfl .no Fx.fo45_6 (.u rfl) (ld rfl .no Fx.ag43 (.u rfl) (fun _=>(hbb1.rd (by rfl)).rd) ?_))
  refine mV rfl rfl (ih rfl .no Fx.se43 (.u rfl) (.u rfl) (fun _=>by omega) (fun _=>by omega) (fun _=>hed.nn (k:=j) (by first|omega|(simp only [Bool.and_eq_true,decide_eq_true_eq] at hc; omega)|(simp only [List.length_cons,List.length_nil]; omega))) ?_)
  refine fa rfl .no Fx.fo104_0 (.u rfl) (ld rfl .no FxVerP.ag5 (.u rfl) (fun _=>(hed.fat (by omega) eg 0 rfl).rd) ?_)
  refine cw rfl .no FxVerR.cv5_26 (.u rfl) (fun _=>wrap_u64 (by omega) (by omega)) ?_
  refine fa rfl .no Fx.fo45_6 (.u rfl) (ld rfl .no Fx.ag43 (.u rfl) (fun _=>(hbb1.rd (by rfl)).rd) ?_)
  refine mV rfl rfl (ih rfl .no Fx.se43 (.u rfl) (.u rfl) (fun _=>by omega) (fun _=>by omega) (fun _=>hed.nn (k:=j) (by first|omega|(simp only [Bool.and_eq_true,decide_eq_true_eq] at hc; omega)|(simp only [List.length_cons,List.length_nil]; omega))) ?_)
  refine fa rfl .no Fx.fo104_1 (.u rfl) (ld rfl .no FxVerP.ag26 (.u rfl) (fun _=>(hed.fat (by omega) eg 1 rfl).rd) ?_)
  refine bQ [g.level,g.number] rfl Fx.se126 Fx.zv26 (Evp.cons (.u rfl) (Evp.cons (.u rfl) Evp.nil)) rfl rfl (by decide) ?_; intro G73 h73 hG73 hs73
  refine kc rfl Fx.go95 (Evc rfl Evn) (Ct.frzB (nums_ok [g.level,g.number] h73 _ hs73 (q2 ⟨by omega,by omega⟩ ⟨by omega,by omega⟩) (by simp only [List.length_cons,List.length_nil]; omega))) ?_
  rintro _ G74 μ74 hG74 ⟨h74,L74,eL74,rfl,rfl,hs74⟩
  have lL74:L74.length≤10*([g.level,g.number]:List Int).length:=by rw [eL74]; exact numsL_len (ns:=[g.level,g.number]) (q2 ⟨by omega,by omega⟩ ⟨by omega,by omega⟩)
  try simp only [List.length_cons,List.length_nil] at lL74
  refine apY rfl FxVerR.se24 FxVerR.zv5 (.u rfl) (.u rfl) .here hs74.sc (by (try simp only [qlA,yl_len]); omega) ?_
  intro v75 L75 ov75 eL75
  have lL75:L75.length=L9.length+L74.length:=by rw [eL75,List.length_append]
  refine aS rfl rfl (.nil (.blk (.code (rq3 rfl rfl (mV rfl rfl (arn (((j+1):Nat):Int) rfl .no (.u rfl) (.u rfl) rfl (fun _=>by omega) (fun _=>wrap_i64 (by omega) (by omega)) ?_))))))
  refine aS rfl rfl (.nil (We.lpo (j+1,v75,L75) ?_ ?_ ?_ ?_ ?_))
  ·exact (esD rfl (esC rfl (by first|rfl|exact evi (by omega)) (esD rfl eZ)))
  ·exact (mS .here rfl mN)
  ·first|omega|(dsimp only; omega)
  ·exact ((hGl1).trans hG73).trans hG74
  refine ⟨?_,?_⟩
  ·(try dsimp only)<;>(first|omega|rfl|assumption|(simp; done))
  (try dsimp only)<;>(rw [eL75,eL74,encG_eq,eL9,flat_snoc eg,List.append_assoc])
 have c2k:=c2
 try simp only [qcA,qcB] at c2
 refine .exit (.xcode (.xlp (.xblk (.code (.seq (rq2 rfl rfl (mV rfl rfl (aS rfl rfl (.nil (.code (.ret (We.fin Tryz.results53 (.tmp rfl .nil) (mS .here rfl mN) ?_))))))))))))
 obtain rfl:k=e.add.length:=by omega
 obtain rfl:j=e.drop.length:=by omega
 rw [List.take_length] at eL eL9
 exact ⟨L9,by rw [eL9,eL51,eL50,eL,eL28,eL27,eL20,eL19,eL15,encE_eq],rfl⟩
namespace FxManS
theorem ag31:aggN Tryz.prog 31=some (some 5):=by kernel_rfl
theorem bp45_0_1_2_3_4:bPl Tryz.prog 45 [0,1,2,3,4]=some (nine (fun _=>0)++[.slice none 0 0,.slice none 0 0],[(0,1),(1,1),(2,1),(3,1),(4,5)]):=by kernel_rfl
theorem bp45_5:bPl Tryz.prog 45 [5]=some (nine (fun _=>0)++[.slice none 0 0,.slice none 0 0],[(9,1)]):=by kernel_rfl
end FxManS
namespace Fx
theorem go120:goFn Tryz.prog 120=true:=by kernel_rfl
theorem go93:goFn Tryz.prog 93=true:=by kernel_rfl
theorem go121:goFn Tryz.prog 121=true:=by kernel_rfl
theorem go53:goFn Tryz.prog 53=true:=by kernel_rfl
theorem go122:goFn Tryz.prog 122=true:=by kernel_rfl
theorem go94:goFn Tryz.prog 94=true:=by kernel_rfl
end Fx
theorem rSum_row (xs:List Y) (v:Value) (G:PM) (hR:RdNP G 0 0 (wa 64 kW)) (hl:xs.length≤1000000000000):Ct Tryz.prog 119 ([v]:List Value).toArray G [rB v 5 xs] (fun _ μ' u=>∃ ν,μ'=rB v 5 xs :: ν∧ν=[]∧u=.agg (ba 32 (shaD xs)).toArray) :=
 Ct.lendB (fun hx G2 hle hv hs=>by subst hv; exact rSum_ok xs hx G2 hs (hR.mono hle) hl)
theorem rLeaf_ok (p:List Y) (h:Sh) (G:PM) (hs:SlR G 1 encY h p) (hR:RdNP G 0 0 (wa 64 kW)) (hl:p.length≤999999999999):Ct Tryz.prog 122 ([h.val p.length]:List Value).toArray G [] (fun _ μ' u=>μ'=[]∧u=.agg (ba 32 (leafD p)).toArray):=by
 refine Ct.of Tryz.func122 rfl Tryz.ntmps122 rfl fun w0 hs0=>?_
 refine .seq (rq1 rfl rfl ?_)
 refine al rfl Fx.zq23 ?_; intro b2
 refine .nil (.code (.seq (rq2 rfl rfl ?_)))
 refine Go.Tan.b1 rfl Fx.se24 Fx.zv5 (.u rfl) rfl rfl (by decide) ?_; intro b4
 refine aS rfl rfl (.nil (.code (.seq (wk_br [0#8] 1 .here rfl rfl (by decide) ?_))))
 have lR4:([0#8]:List Y).length=1:=rfl
 refine rq5 rfl rfl (mV rfl rfl (mV rfl rfl (apY rfl Fx.se24 Fx.zv5 (.u rfl) (.u rfl) .here hs.sc (by (try simp only [qlA,yl_len]); omega) ?_)))
 intro v7 L7 ov7 eL7
 have lL7:L7.length=[0#8].length+p.length:=by rw [eL7,List.length_append]
 refine ka rfl (.inr rfl) Fx.go119 (Evc rfl Evn) (mtk1 .here) (rSum_row L7 _ _ hR (by omega)) ?_
 rintro _ G8 μ8 hG8 ⟨_,rfl,rfl,rfl⟩
 refine sw rfl (.u rfl) (.u rfl) rfl Fx.sz23 tk1 (by first|exact qE|exact qL|rfl) (by first|exact ba_one _ _|exact wa_one _ _|exact one_V _|decide|exact one_app (wa_one _ _) (by simp [Value.oneCell'])) ?_
 refine .nil (.code (.ret (We.fin0 Tryz.results122 (.cell rfl (fun w hw=>run_loadVarN Fx.ag23 (RdN.own .here) ((by first|exact qE|exact qL|rfl)) hw) .nil) ?_)))
 exact ⟨rfl,by rw [eL7]; rfl⟩
theorem rJoin_ok (a b:Dg) (G:PM) (hR:RdNP G 0 0 (wa 64 kW)):Ct Tryz.prog 121 ([.agg (ba 32 a).toArray,.agg (ba 32 b).toArray]:List Value).toArray G [] (fun _ μ' u=>μ'=[]∧u=.agg (ba 32 (joinD a b)).toArray):=by
 refine Ct.of Tryz.func121 rfl Tryz.ntmps121 rfl fun w0 hs0=>?_
 have l1:=yl_len 32 a; have l2:=yl_len 32 b
 refine .seq (rq3 rfl rfl ?_)
 refine bx rfl (.u rfl) rfl ?_; intro b2
 refine bx rfl (.u rfl) rfl ?_; intro b3
 refine al rfl Fx.zq23 ?_; intro b4
 refine .nil (.code (.seq (rq2 rfl rfl ?_)))
 refine Go.Tan.b1 rfl Fx.se24 Fx.zv5 (.u rfl) rfl rfl (by decide) ?_; intro b6
 refine aS rfl rfl (.nil (.code (.seq (wk_br [1#8] 1 .here rfl rfl (by decide) ?_))))
 have lR6:([1#8]:List Y).length=1:=rfl
 refine rq4 rfl rfl (mV rfl rfl (sa0 rfl .no Fx.ar23 (.u rfl) (apY rfl Fx.se24 Fx.zv5 (.u rfl) (.u rfl) .here (Sc.arr tk3) (by (try simp only [qlA,yl_len]); omega) ?_)))
 intro v9 L9 ov9 eL9
 have lL9:L9.length=[1#8].length+32:=by rw [eL9,List.length_append]; first|rfl | simp [yl_len]
 refine aS rfl rfl (.nil (.code (.seq (rq4 rfl rfl (mV rfl rfl (sa0 rfl .no Fx.ar23 (.u rfl) (apY rfl Fx.se24 Fx.zv5 (.u rfl) (.u rfl) .here (Sc.arr tk2) (by (try simp only [qlA,yl_len]); omega) ?_)))))))
 intro v12 L12 ov12 eL12
 have lL12:L12.length=L9.length+32:=by rw [eL12,List.length_append]; first|rfl | simp [yl_len]
 refine aS rfl rfl (.nil (.code (.seq (rq3 rfl rfl (mV rfl rfl (ka rfl (.inr rfl) Fx.go119 (Evc rfl Evn) (mtk1 .here) (rSum_row L12 _ _ hR (by omega)) ?_))))))
 rintro _ G14 μ14 hG14 ⟨_,rfl,rfl,rfl⟩
 refine sw rfl (.u rfl) (.u rfl) rfl Fx.sz23 tk1 (by first|exact qE|exact qL|rfl) (by first|exact ba_one _ _|exact wa_one _ _|exact one_V _|decide|exact one_app (wa_one _ _) (by simp [Value.oneCell'])) ?_
 refine .nil (.code (.ret (We.fin0 Tryz.results121 (.cell rfl (fun w hw=>run_loadVarN Fx.ag23 (RdN.own .here) ((by first|exact qE|exact qL|rfl)) hw) .nil) ?_)))
 exact ⟨rfl,by rw [eL12,eL9]; rfl⟩
theorem rPart_ok (n:Nat) (G:PM) (h2:2≤n) (hl:n≤1000000):Ct Tryz.prog 120 ([.int .i64 (n:Int)]:List Value).toArray G [] (fun _ μ' u=>μ'=[]∧u=.int .i64 (partN n:Int)):=by
 refine Ct.of Tryz.func120 rfl Tryz.ntmps120 rfl fun w0 hs0=>?_
 refine .seq (rq1 rfl rfl (aS rfl rfl (.nil (.code (.seq (rq1 rfl rfl (aS rfl rfl (.nil (.code (.seq (.block ?_)))))))))))
 refine Wk.lop (α:=Nat×Nat) (fun gh=>[(3,true,.int .i64 (gh.1:Int))]) (fun _=>[])
  (fun gh Gl=>(partL gh.1 n gh.2=partN n)∧(n≤gh.1+gh.2)∧(1≤gh.1)∧(gh.1<n)) (fun gh=>gh.2) (1,n) [(0,true,_)] []
  (esC rfl (by first|rfl|exact evi (by omega)) (esD rfl eZ))
  mN ?_ ?_
 ·refine ⟨?_,?_,?_,?_⟩
  ·(try dsimp only)<;>(rfl)
  ·(try dsimp only)<;>(first|omega|rfl|assumption|(simp; done))
  ·(try dsimp only)<;>(first|omega|rfl|assumption|(simp; done))
  (try dsimp only)<;>(first|omega|rfl|assumption|(simp; done))
 intro gh N0 Gl0 hN0 hGl0 hF0
 obtain ⟨k,f⟩:=gh; dsimp only at hF0 hN0 ⊢
 obtain ⟨hp,hf,h1,hk⟩:=hF0
 refine .seq (.seq (rq5 rfl rfl (mV rfl rfl (mV rfl rfl (mV rfl rfl (ar rfl .no (.u rfl) (.u rfl) rfl (fun _=>wrap_i64 (by omega) (by omega)) ?_))))))
 refine cp rfl .no (.u rfl) (.u rfl) rfl (.nil (.code (.cond rfl (fun c1=>?_) (fun c1=>?_))))
 ·have c1k:=c1
  try simp only [qcA,qcB] at c1
  refine .skip (.code (.block (rq3 rfl rfl (mV rfl rfl (arn (((k*2):Nat):Int) rfl .no (.u rfl) (.u rfl) rfl (fun _=>by omega) (fun _=>wrap_i64 (by omega) (by omega)) ?_)))))
  refine aS rfl rfl (.nil (.blk (We.lpo (k*2,f-1) ?_ ?_ ?_ ?_ ?_)))
  ·exact (esC rfl (by first|rfl|exact evi (by omega)) (esD rfl eZ))
  ·exact mN
  ·first|omega|(dsimp only; omega)
  ·exact hGl0
  refine ⟨?_,?_,?_,?_⟩
  ·(try dsimp only)<;>(rw [← (partL_go h1 (by omega) hf).1]; exact hp)
  ·(try dsimp only)<;>(exact (partL_go h1 (by omega) hf).2)
  ·(try dsimp only)<;>(first|omega|rfl|assumption|(simp; done))
  (try dsimp only)<;>(first|omega|rfl|assumption|(simp; done))
 have c1k:=c1
 try simp only [qcA,qcB] at c1
 refine .exit (.xcode (.xlp (.xblk (.code (.seq (rq2 rfl rfl (mV rfl rfl (aS rfl rfl (.nil (.code (.ret (We.fin0 Tryz.results120 (.tmp rfl .nil) ?_))))))))))))
 exact ⟨rfl,by rw [← hp,partL_end (by omega)]; rfl⟩
theorem rrRoot_step (ds:List Dg) (h:Sh) (G:PM) (hs:SlR G 32 (ba 32) h ds) (hR:RdNP G 0 0 (wa 64 kW)) (hm:ds.length≤1000000) (ihr:∀ (ds2:List Dg) (h2:Sh) (G2:PM),SlR G2 32 (ba 32) h2 ds2→RdNP G2 0 0 (wa 64 kW)→ds2.length<ds.length→Ct Tryz.prog 93 ([h2.val ds2.length]:List Value).toArray G2 [] (fun _ μ' u=>μ'=[]∧u=.agg (ba 32 (rootD ds2)).toArray)):Ct Tryz.prog 93 ([h.val ds.length]:List Value).toArray G [] (fun _ μ' u=>μ'=[]∧u=.agg (ba 32 (rootD ds)).toArray):=by
 refine Ct.of Tryz.func93 rfl Tryz.ntmps93 rfl fun w0 hs0=>?_
 refine .seq (rq1 rfl rfl ?_)
 refine al rfl Fx.zq23 ?_; intro b2
 refine .nil (.code (.seq (.seq (rq3 rfl rfl (mV rfl rfl (ln rfl .no Fx.sn120 (.u rfl) (cp rfl .no (.u rfl) (.u rfl) rfl (.nil (.code (.cond rfl (fun c1=>?_) (fun c1=>?_)))))))))))
 ·have c1k:=c1
  try simp only [qcA,qcB] at c1
  refine .seq (rq3 rfl rfl ?_)
  refine Go.Tan.b1 rfl Fx.se24 Fx.zv5 (.u rfl) rfl rfl (by decide) ?_; intro b7
  refine ka rfl (.inr rfl) Fx.go119 (Evc rfl Evn) (mtk1 .here) (Ct.give fun hle=>rSum_ok [2#8] ⟨some ⟨b7,0,none⟩,1⟩ _ (SlR.ofBlk (PM.add_same _ _ _) (fun _ _=>rfl) (by simp)) (hR.mono hle) (by decide)) ?_
  rintro _ G8 μ8 hG8 ⟨rfl,rfl⟩
  have hs:=hs.mono hG8
  have hR:=hR.mono hG8
  refine sw rfl (.u rfl) (.u rfl) rfl Fx.sz23 .here (by first|exact qE|exact qL|rfl) (by first|exact ba_one _ _|exact wa_one _ _|exact one_V _|decide|exact one_app (wa_one _ _) (by simp [Value.oneCell'])) ?_
  refine .nil (.code (.ret (We.fin0 Tryz.results93 (.cell rfl (fun w hw=>run_loadVarN Fx.ag23 (RdN.own .here) ((by first|exact qE|exact qL|rfl)) hw) .nil) ?_)))
  obtain rfl:ds=[]:=List.eq_nil_of_length_eq_zero (by omega)
  exact ⟨rfl,by rw [root_nil]; rfl⟩
 have c1k:=c1
 try simp only [qcA,qcB] at c1
 refine .skip (.code (.seq (.seq (rq3 rfl rfl (mV rfl rfl (ln rfl .no Fx.sn120 (.u rfl) (cp rfl .no (.u rfl) (.u rfl) rfl (.nil (.code (.cond rfl (fun c2=>?_) (fun c2=>?_)))))))))))
 ·have c2k:=c2
  try simp only [qcA,qcB] at c2
  refine .seq (rq4 rfl rfl (mV rfl rfl (ih rfl .no Fx.se120 (.u rfl) (.u rfl) (fun _=>by omega) (fun _=>by omega) (fun _=>hs.nn (k:=0) (by first|omega|(simp only [Bool.and_eq_true,decide_eq_true_eq] at hc; omega)|(simp only [List.length_cons,List.length_nil]; omega))) ?_)))
  obtain ⟨x,ex⟩:=getx (k:=0) (xs:=ds) (by omega)
  refine lA rfl .no Fx.ag23 (.u rfl) (fun _=>(hs.at (by decide) ex).rd) (fun _=>ba_len _ _) ?_
  refine sw rfl (.u rfl) (.u rfl) rfl Fx.sz23 .here rfl (ba_one _ _) ?_
  refine .nil (.code (.ret (We.fin0 Tryz.results93 (.cell rfl (fun w hw=>run_loadVarN Fx.ag23 (RdN.own .here) ((by first|exact qE|exact qL|rfl)) hw) .nil) ?_)))
  exact ⟨rfl,by rw [show ds=[x] from by (match ds,ex,c2k with | [a],e,_=>(cases e; rfl) | [],e,_=>cases e | a :: b :: r,_,c=>(simp at c; omega))]; rw [root_one]; rfl⟩
 have c2k:=c2
 try simp only [qcA,qcB] at c2
 refine .skip (.code (.seq (rq4 rfl rfl (mV rfl rfl (ln rfl .no Fx.sn120 (.u rfl) (kv rfl .no Fx.go120 (Evc rfl Evn) (fun _=>rPart_ok ds.length _ (by omega) hm) ?_))))))
 refine aS rfl rfl (.nil (.code (.seq ?_)))
 have hp:=partN_spec (n:=ds.length) (by omega)
 have hp0:=partN_pos (n:=ds.length) (by omega)
 refine Wk.draw (mc:=⟨false,false⟩) [0,1,2,4,5,6,3,7,8,9] Fx.mix (by kernel_rfl) ?_
 refine mV rfl rfl (mV rfl rfl (kE ((partN ds.length)) rfl .no Fx.se120 hs (.u rfl) (.u rfl) (fun _=>by omega) (fun _=>by omega) ?_))
 intro h20 L20 eL20 lL20 hs20
 have lL20:=lL20 rfl
 refine mV rfl rfl (mV rfl rfl (kD ((partN ds.length)) rfl .no Fx.se120 hs (.u rfl) (.u rfl) (fun _=>by omega) (fun _=>by omega) ?_))
 intro h24 L24 eL24 lL24 hs24
 have lL24:=lL24 rfl
 refine kv rfl .no Fx.go93 (Evc rfl Evn) (fun _=>ihr L20 h20 _ hs20 hR (by omega)) ?_
 refine kv rfl .no Fx.go93 (Evc rfl Evn) (fun _=>ihr L24 h24 _ hs24 hR (by omega)) ?_
 refine kv rfl .no Fx.go121 (Evc rfl (Evc rfl Evn)) (fun _=>rJoin_ok (rootD L20) (rootD L24) _ hR) ?_
 refine sw rfl (.u rfl) (.u rfl) rfl Fx.sz23 .here (by first|exact qE|exact qL|rfl) (by first|exact ba_one _ _|exact wa_one _ _|exact one_V _|decide|exact one_app (wa_one _ _) (by simp [Value.oneCell'])) ?_
 refine .nil (.code (.ret (We.fin0 Tryz.results93 (.cell rfl (fun w hw=>run_loadVarN Fx.ag23 (RdN.own .here) ((by first|exact qE|exact qL|rfl)) hw) .nil) ?_)))
 exact ⟨rfl,by rw [root_two (l:=ds) (by omega),eL20,eL24]; rfl⟩
theorem rrRoot_ok (ds:List Dg) (h:Sh) (G:PM) (hs:SlR G 32 (ba 32) h ds) (hR:RdNP G 0 0 (wa 64 kW)) (hm:ds.length≤1000000):Ct Tryz.prog 93 ([h.val ds.length]:List Value).toArray G [] (fun _ μ' u=>μ'=[]∧u=.agg (ba 32 (rootD ds)).toArray) :=
 rrRoot_step ds h G hs hR hm (fun ds2 h2 G2 hs2 hR2 hlt=>rrRoot_ok ds2 h2 G2 hs2 hR2 (by omega))
termination_by ds.length
theorem rEncode_one (m:Meta) (b:Nat) (T:TypeId) (G:PM) (hw:m.wf) (hm:m.min.size+m.max.size≤900000000000):Ct Tryz.prog 53 ([(oneE m).val ⟨some ⟨b,0,none⟩,1⟩ ⟨none,0⟩]:List Value).toArray G [.blk b (cl m.cells T)] (PS (fun L=>L=encE (oneE m))):=by
 refine Ct.give fun hle=>?_
 have h1:=oneE_len hw
 exact Ct.frzB (rEncode_ok (oneE m) ⟨some ⟨b,0,none⟩,1⟩ ⟨none,0⟩ _ ⟨SlR.one1 (enc:=Meta.cells) (x:=m),SlR.nul,oneE_wf hw⟩ (by show 1≤_; decide) (by show 0≤_; decide) (by omega))
theorem rLeaves_ok (s:State) (hd:Nat→Sh) (G:PM) (hs:StR G s hd) (hn:StN s) (hl:StL s) (hR:RdNP G 0 0 (wa 64 kW)):Ct Tryz.prog 94 ([s.val hd]:List Value).toArray G [] (fun G' μ' u=>∃ (h':Sh) (L:List Dg),L=leavesS s∧μ'=[]∧u=h'.val L.length∧SlR G' 32 (ba 32) h' L):=by
 refine Ct.of Tryz.func94 rfl Tryz.ntmps94 rfl fun w0 hs0=>?_
 have hf:=hl.few
 refine .seq (rq2 rfl rfl ?_)
 refine bx rfl (.u rfl) rfl ?_; intro b1
 refine aS rfl rfl (.nil (.code (.seq (Wk.rg [0,1,2,3,4,5,6,7,8,9,10,11,12,13,14] rfl rfl (fz rfl .no Fx.fo33_1 (.u rfl) (ld rfl .no Fx.ag26 (.u rfl) (fun _=>Rd.own .here (by first|exact wap_f rfl|rfl)) ?_))))))
 refine fz rfl .no Fx.fo33_2 (.u rfl) (ld rfl .no Fx.ag26 (.u rfl) (fun _=>Rd.own .here (by first|exact wap_f rfl|rfl)) ?_)
 refine fz rfl .no Fx.fo33_3 (.u rfl) (ld rfl .no Fx.ag26 (.u rfl) (fun _=>Rd.own .here (by first|exact wap_f rfl|rfl)) ?_)
 refine fz rfl .no Fx.fo33_4 (.u rfl) (ld rfl .no Fx.ag26 (.u rfl) (fun _=>Rd.own .here (by first|exact wap_f rfl|rfl)) ?_)
 refine fz rfl .no Fx.fo33_5 (.u rfl) (lA rfl .no FxManS.ag31 (.u rfl) (fun _=>RdN.part (n:=5) (cs':=(List.range 5).map (fun i=>.int .u64 (s.gens i))) .here (rfl)) (fun _=>rfl) (bCe ((headE s).cells ⟨none,0⟩ ⟨none,0⟩) rfl .no FxManS.bp45_0_1_2_3_4 (.cons (.u rfl) rfl (.cons (.u rfl) rfl (.cons (.u rfl) rfl (.cons (.u rfl) rfl (.cons (.u rfl) rfl .nil))))) rfl (rfl) (kc rfl Fx.go53 (Evc rfl Evn) (Ct.frzB (rEncode_ok (headE s) ⟨none,0⟩ ⟨none,0⟩ _ ⟨SlR.nul,SlR.nul,headE_wf hn⟩ (by show 0≤_; decide) (by show 0≤_; decide) (by have:=headE_len (s:=s); omega))) ?_)))
 rintro _ G17 μ17 hG17 ⟨h17,L17,eL17,rfl,rfl,hs17⟩
 have hs:=hs.mono hG17
 have hR:=hR.mono hG17
 refine kv rfl .no Fx.go122 (Evc rfl Evn) (fun _=>rLeaf_ok L17 h17 _ hs17 hR (by have:=headE_enc hn; rw [eL17]; omega)) ?_
 refine Go.Tan.b1 rfl Fx.se120 Fx.zw23 (.u rfl) rfl rfl (by decide) ?_; intro b19
 refine aS rfl rfl (.nil (.code (.seq (.seq (wk_brS (leafD L17) .here (ba_len _ _) ?_)))))
 have e17:=leavesT_0 s
 refine rq1 rfl rfl (aS rfl rfl (.nil (.code (.block ?_))))
 refine Wk.lop (α:=Nat×Value) (fun gh=>[(3,true,gh.2),(4,true,.int .i64 (gh.1:Int))]) (fun gh=>[rS 32 (ba 32) gh.2 23 (leavesT s gh.1 0)])
  (fun gh Gl=>(gh.1≤5)) (fun gh=>5-gh.1) (0,.slice (some ⟨b19,0,none⟩) 1 1) [(1,true,_)] [_]
  (esD rfl (esC rfl (by first|rfl|exact evi (by omega)) (esD rfl eZ)))
  (mS .here (by rw [e17,eL17]; rfl) (mS .here rfl mN)) ?_ ?_
 ·(try dsimp only)<;>(first|omega|rfl|assumption|(simp; done))
 intro gh N0 Gl0 hN0 hGl0 hF0
 obtain ⟨k,v⟩:=gh; dsimp only at hF0 hN0 ⊢
 have hk:=hF0
 have hs:=hs.mono hGl0
 have hR:=hR.mono hGl0
 refine .seq (.seq (rq2 rfl rfl (mV rfl rfl (cp rfl .no (.u rfl) (.u rfl) rfl (.nil (.code (.cond rfl (fun c1=>?_) (fun c1=>?_))))))))
 ·have c1k:=c1
  try simp only [qcA,qcC,qcB] at c1
  refine .skip (.code (.seq (.block (.seq (rq1 rfl rfl (aS rfl rfl (.nil (.code (.block ?_)))))))))
  refine Wk.lop (α:=Nat×Value) (fun gh=>[(3,true,gh.2),(5,true,.int .i64 (gh.1:Int))]) (fun gh=>[rS 32 (ba 32) gh.2 23 (leavesT s k gh.1)])
   (fun gh Gl=>(gh.1≤(s.lv k).length)) (fun gh=>(s.lv k).length-gh.1) (0,v) [(1,true,_),(4,true,_)] [_]
   (esD rfl (esC rfl (by first|rfl|exact evi (by omega)) (esD rfl (esD rfl eZ))))
   (mS .here rfl (mS .here rfl mN)) ?_ ?_
  ·(try dsimp only)<;>(first|omega|rfl|assumption|(simp; done))
  intro gh N1 Gl1 hN1 hGl1 hF1
  obtain ⟨j,w⟩:=gh; dsimp only at hF1 hN1 ⊢
  have hj:=hF1
  have hs:=hs.mono hGl1
  have hR:=hR.mono hGl1
  refine .seq (.seq ?_)
  have hlv:=hs.lv k (by omega)
  have htl:=tot_lt (s:=s) (k:=k) (by omega)
  have htn:=tot_nonneg s k
  refine rq7 rfl rfl (mV rfl rfl (mV rfl rfl (fz rfl .no Fx.fo33_0 (.u rfl) (iA rfl .no Fx.ar30 (.u rfl) (.u rfl) (fun _=>by omega) (fun _=>by omega) ?_))))
  refine ld rfl .no Fx.ag29 (.u rfl) (fun _=>Rd.own tk1 (s.cell_lv hd (k:=k) (by omega))) ?_
  refine ln rfl .no Fx.sn29 (.u rfl) (cp rfl .no (.u rfl) (.u rfl) rfl (.nil (.code (.cond rfl (fun c2=>?_) (fun c2=>?_)))))
  ·have c2k:=c2
   try simp only [qcA,qcC,qcB] at c2
   refine .skip (.code (.seq (.block (Wk.rg [0,1,2,3,4,5,6,7,8,9,10,11,12,13,14] rfl rfl (mV rfl rfl (mV rfl rfl (fz rfl .no Fx.fo33_0 (.u rfl) (iA rfl .no Fx.ar30 (.u rfl) (.u rfl) (fun _=>by omega) (fun _=>by omega) ?_))))))))
   refine ld rfl .no Fx.ag29 (.u rfl) (fun _=>Rd.own tk1 (s.cell_lv hd (k:=k) (by omega))) ?_
   refine mV rfl rfl (ih rfl .no Fx.se29 (.u rfl) (.u rfl) (fun _=>by omega) (fun _=>by omega) (fun _=>hlv.nn (k:=j) (by first|omega|(simp only [Bool.and_eq_true,decide_eq_true_eq] at hc; omega)|(simp only [List.length_cons,List.length_nil]; omega))) ?_)
   obtain ⟨m,em⟩:=getx (k:=j) (xs:=s.lv k) (by omega)
   have hwm:=hs.wf k (by omega) m (List.mem_of_getElem? em)
   have hsm:=hl.short k (by omega) m (List.mem_of_getElem? em)
   have hoe:=oneE_enc hwm
   refine lA rfl .no Fx.ag98 (.u rfl) (fun _=>(hlv.at (by omega) em).rd) (fun _=>Meta.len _) ?_
   refine Go.Tan.b1 rfl Fx.se29 Fx.zw98 (.u rfl) rfl rfl (by decide) ?_; intro b41
   refine bCe ((oneE m).cells ⟨some ⟨b41,0,none⟩,1⟩ ⟨none,0⟩) rfl .no FxManS.bp45_5 (.cons (.u rfl) rfl .nil) rfl (rfl) (ka rfl (.inr rfl) Fx.go53 (Evc rfl Evn) (mtk1 .here) (rEncode_one m b41 _ _ hwm hsm) ?_)
   rintro _ G43 μ43 hG43 ⟨h43,L43,eL43,rfl,rfl,hs43⟩
   have hR:=hR.mono hG43
   refine kv rfl .no Fx.go122 (Evc rfl Evn) (fun _=>rLeaf_ok L43 h43 _ hs43 hR (by rw [eL43]; omega)) ?_
   refine Go.Tan.b1 rfl Fx.se120 Fx.zw23 (.u rfl) rfl rfl (by decide) ?_; intro b45
   refine apS (xs:=(leavesT s k j)) ((leafD L43)) rfl Fx.se120 Fx.zw23 rfl (.u rfl) (.u rfl) tk1 .here (ba_len _ _) (ba_one _ _) (by have:=leavesT_len s k j; omega) (by have:=leavesT_len s k j; unfold maxLen; omega) ?_; intro v46 ov46
   refine aS rfl rfl (.nil (.blk (.code (rq3 rfl rfl (mV rfl rfl (arn (((j+1):Nat):Int) rfl .no (.u rfl) (.u rfl) rfl (fun _=>by omega) (fun _=>wrap_i64 (by omega) (by omega)) ?_))))))
   refine aS rfl rfl (.nil (We.lpo (j+1,v46) ?_ ?_ ?_ ?_ ?_))
   ·exact (esD rfl (esC rfl (by first|rfl|exact evi (by omega)) (esD rfl (esD rfl eZ))))
   ·exact (mS .here (by rw [← leavesT_snoc em,eL43]; rfl) (mS tk1 rfl mN))
   ·first|omega|(dsimp only; omega)
   ·exact (hGl1).trans hG43
   (try dsimp only)<;>(first|omega|rfl|assumption|(simp; done))
  have c2k:=c2
  try simp only [qcA,qcC,qcB] at c2
  refine .exit (.xcode (.xlp (.xblk (.blk (.code (rq3 rfl rfl (mV rfl rfl (arn (((k+1):Nat):Int) rfl .no (.u rfl) (.u rfl) rfl (fun _=>by omega) (fun _=>wrap_i64 (by omega) (by omega)) ?_))))))))
  refine aS rfl rfl (.nil (We.lpo (k+1,w) ?_ ?_ ?_ ?_ ?_))
  ·exact (esD rfl (esC rfl (by first|rfl|exact evi (by omega)) (esD rfl eZ)))
  ·exact (mS .here (by rw [leavesT_next (by omega)]) (mS .here rfl mN))
  ·first|omega|(dsimp only; omega)
  ·exact (hGl0).trans hGl1
  (try dsimp only)<;>(first|omega|rfl|assumption|(simp; done))
 have c1k:=c1
 try simp only [qcA,qcC,qcB] at c1
 refine .exit (.xcode (.xlp (.xblk (.code (.seq (rq2 rfl rfl (mV rfl rfl (aS rfl rfl (.nil (.code (.ret ?_)))))))))))
 refine we_fs .here (fun _ _=>rfl) (by intro b hb; cases hb) ?_; intro GfRL hRL hleRL evRL hsRL; subst evRL
 refine We.fin0 Tryz.results94 (.tmp rfl .nil) ?_
 obtain rfl:k=5:=by omega
 exact ⟨_,_,leavesT_5 s,rfl,rfl,hsRL⟩
theorem r19Root_ok (s:State) (hd:Nat→Sh) (G:PM) (hs:StR G s hd) (hn:StN s) (hl:StL s) (hR:RdNP G 0 0 (wa 64 kW)):Ct Tryz.prog 52 ([s.val hd]:List Value).toArray G [] (fun _ μ' u=>μ'=[]∧u=.agg (ba 32 (rootS s)).toArray):=by
 refine Ct.of Tryz.func52 rfl Tryz.ntmps52 rfl fun w0 hs0=>?_
 have hf:=hl.few; have hll:=leavesS_len s
 refine .seq (rq2 rfl rfl ?_)
 refine bx rfl (.u rfl) rfl ?_; intro b1
 refine al rfl Fx.zq23 ?_; intro b2
 refine .nil (.code (.seq (rq4 rfl rfl (lA rfl .no Fx.ag33 (.u rfl) (fun _=>RdN.own tk1) (fun _=>(by first|exact qE|exact qL|rfl)) ?_))))
 refine kc rfl Fx.go94 (Evc rfl Evn) (rLeaves_ok s hd _ hs hn hl hR) ?_
 rintro _ G4 μ4 hG4 ⟨h4,L4,eL4,rfl,rfl,hs4⟩
 have hR:=hR.mono hG4
 refine kv rfl .no Fx.go93 (Evc rfl Evn) (fun _=>rrRoot_ok L4 h4 _ hs4 hR (by rw [eL4]; omega)) ?_
 refine sw rfl (.u rfl) (.u rfl) rfl Fx.sz23 .here rfl (ba_one _ _) ?_
 refine .nil (.code (.ret (We.fin0 Tryz.results52 (.cell rfl (fun w hw=>run_loadVarN Fx.ag23 (RdN.own .here) ((ba_len _ _)) hw) .nil) ?_)))
 exact ⟨rfl,by rw [eL4]; rfl⟩
theorem light19_ok (s:State) (hd:Nat→Sh) (e:Edit) (ha he:Sh) (G:PM):Ct Tryz.prog 9 ([s.val hd,e.val ha he]:List Value).toArray G [] (fun _ μ' u=>μ'=[]∧u=.bool (lightP s e)):=by
 refine Ct.of Tryz.func9 rfl Tryz.ntmps9 rfl fun w0 hs0=>?_
 refine .seq (rq3 rfl rfl ?_)
 refine bx rfl (.u rfl) rfl ?_; intro b2
 refine bx rfl (.u rfl) rfl ?_; intro b3
 refine aS rfl rfl (.nil (.code (.seq (rq1 rfl rfl (aS rfl rfl (.nil (.code (.seq (.seq (rq1 rfl rfl (mV rfl rfl (.nil (.code (.block ?_))))))))))))))
 refine Wk.lop (α:=Nat) (fun k=>[(5,true,.int .i64 (200-tot s k)),(7,true,.int .i64 (k:Int))]) (fun _=>[])
  (fun k Gl=>(k≤5)∧(tot s k≤200)) (fun k=>5-k) 0 [(2,true,_),(3,true,_)] [_,_]
  (esD rfl (esC rfl (by first|rfl|exact evi (by omega)) (esD rfl (esD rfl eZ))))
  (mS .here rfl (mS .here rfl mN)) ?_ ?_
 ·refine ⟨?_,?_⟩
  ·(try dsimp only)<;>(first|omega|rfl|assumption|(simp; done))
  (try dsimp only)<;>(exact (by decide:(0:Int)≤200))
 intro k N0 Gl0 hN0 hGl0 hF0
 try dsimp only at hF0 hN0 ⊢
 obtain ⟨hk,ht⟩:=hF0
 have hn:=tot_nonneg s k
 refine .seq (rq1 rfl rfl (cp rfl .no (.u rfl) (.u rfl) rfl (.nil (.code (.seq (.cond rfl (fun c1=>?_) (fun c1=>?_)))))))
 ·have c1k:=c1
  try simp only [qcA,qcC,qcB] at c1
  refine .skip (.code (.seq (.block (.seq (rq2 rfl rfl (mV rfl rfl (aS rfl rfl (.nil (.code (.seq (.seq (rq7 rfl rfl (mV rfl rfl (fz rfl .no Fx.fo33_0 (.u rfl) (iA rfl .no Fx.ar30 (.u rfl) (.u rfl) (fun _=>by omega) (fun _=>by omega) ?_)))))))))))))))
  refine ld rfl .no Fx.ag29 (.u rfl) (fun _=>Rd.own tk1 (s.cell_lv hd (k:=k) (by omega))) ?_
  refine ln rfl .no Fx.sn29 (.u rfl) (mV rfl rfl (cp rfl .no (.u rfl) (.u rfl) rfl (.nil (.code (.cond rfl (fun c2=>?_) (fun c2=>?_))))))
  ·have c2k:=c2
   try simp only [qcA,qcC,qcB] at c2
   refine .seq (rq1 rfl rfl (aS rfl rfl (.nil (.code (.ret (We.fin0 Tryz.results9 (.tmp rfl .nil) ?_))))))
   exact ⟨rfl,congrArg Value.bool (light_no (by have:=tot_lt (s:=s) (k:=k) (by omega); omega)).symm⟩
  have c2k:=c2
  try simp only [qcA,qcC,qcB] at c2
  refine .skip (.code (rq8 rfl rfl (mV rfl rfl (mV rfl rfl (fz rfl .no Fx.fo33_0 (.u rfl) (iA rfl .no Fx.ar30 (.u rfl) (.u rfl) (fun _=>by omega) (fun _=>by omega) ?_))))))
  refine ld rfl .no Fx.ag29 (.u rfl) (fun _=>Rd.own tk1 (s.cell_lv hd (k:=k) (by omega))) ?_
  refine ln rfl .no Fx.sn29 (.u rfl) (ar rfl .no (.u rfl) (.u rfl) rfl (fun _=>wrap_i64 (by omega) (by omega)) ?_)
  refine aS rfl rfl (.nil (.blk (.code (rq2 rfl rfl (arn (((k+1):Nat):Int) rfl .no (.u rfl) (.u rfl) rfl (fun _=>by omega) (fun _=>wrap_i64 (by omega) (by omega)) ?_)))))
  refine mV rfl rfl (.nil (We.lpo (k+1) ?_ ?_ ?_ ?_ ?_))
  ·exact (esC rfl (evi (by simp only [tot]; omega)) (esC rfl (by first|rfl|exact evi (by omega)) (esD rfl (esD rfl eZ))))
  ·exact (mS .here rfl (mS .here rfl mN))
  ·first|omega|(dsimp only; omega)
  ·exact hGl0
  refine ⟨?_,?_⟩
  ·(try dsimp only)<;>(first|omega|rfl|assumption|(simp; done))
  (try dsimp only)<;>(simp only [tot]; omega)
 have c1k:=c1
 try simp only [qcA,qcC,qcB] at c1
 refine .exit (.xcode (.xlp (.xblk (.code (.seq (Wk.rg [0,1,2,3,4,5,6,7,8,9,10] rfl rfl (fz rfl .no Fx.fo45_5 (.u rfl) (ld rfl .no Fx.ag29 (.u rfl) (fun _=>Rd.own .here rfl) ?_))))))))
 refine ln rfl .no Fx.sn29 (.u rfl) (cp rfl .no (.u rfl) (.u rfl) rfl (mV rfl rfl (fz rfl (.t rfl rfl) Fx.fo45_6 (.u rfl) (ld rfl (.t rfl rfl) Fx.ag43 (.s rfl) (fun hc=>Rd.own .here rfl) ?_))))
 refine ln rfl (.t rfl rfl) Fx.sn43 (.s rfl) (cp rfl (.t rfl rfl) (.s rfl) (.u rfl) rfl (pkA rfl .no (.u rfl) (.s rfl) (aS rfl rfl (.nil (.code (.ret (We.fin0 Tryz.results9 (.tmp rfl .nil) ?_)))))))
 obtain rfl:k=5:=by omega
 exact ⟨rfl,congrArg Value.bool (light_yes ht).symm⟩
namespace FxVeSa
theorem mix:Tryz.prog.follows .mixedOrders=true:=by kernel_rfl
theorem se29:slE Tryz.prog 29=some (98,40,112):=by kernel_rfl
theorem ag98:aggN Tryz.prog 98=some (some 40):=by kernel_rfl
theorem sz98:szT Tryz.prog 98=some 40:=by kernel_rfl
end FxVeSa
namespace Fx
theorem go149:goFn Tryz.prog 149=true:=by kernel_rfl
end Fx
theorem swapR_ok (P A Q B S:List Meta) (v fv:Value) (a b n:Int) (G:PM) (ha:a=P.length) (hb:b=((P.length+A.length+Q.length:Nat):Int)) (hn:n=A.length) (hAB:A.length=B.length) (xs:List Meta) (hx:xs=P++A++Q++B++S) (hl:xs.length≤1000000000):Ct Tryz.prog 149 ([v,.int .i64 a,.int .i64 b,.int .i64 n,fv]:List Value).toArray G [rS 40 Meta.cells v 98 xs] (fun _ μ' u=>μ'=[rS 40 Meta.cells v 98 (P++B++Q++A++S)]∧u=.tuple #[]):=by
 refine Ct.of Tryz.func149 rfl Tryz.ntmps149 rfl fun w0 hs0=>?_
 subst hx; subst ha; subst hb; subst hn; simp only [List.length_append] at hl
 refine .seq (rq1 rfl rfl (aS rfl rfl (.nil (.code (.block ?_)))))
 refine Wk.lop (α:=Nat) (fun k=>[(10,true,.int .i64 (k:Int))]) (fun k=>[rS 40 Meta.cells v 98 (swL P A Q B S k)])
  (fun k Gl=>(k≤A.length)) (fun k=>A.length-k) 0 [(0,true,_),(1,true,_),(2,true,_),(3,true,_)] []
  (esC rfl (by first|rfl|exact evi (by omega)) (esD rfl (esD rfl (esD rfl (esD rfl eZ)))))
  (mS .here (by rw [swL_zero]) mN) ?_ ?_
 ·(try dsimp only)<;>(first|omega|rfl|assumption|(simp; done))
 intro k N0 Gl0 hN0 hGl0 hF0
 try dsimp only at hF0 hN0 ⊢
 have hk:=hF0
 have hsl:=swL_len P A Q B S hAB hk
 refine .seq (.seq (rq3 rfl rfl (mV rfl rfl (mV rfl rfl (cp rfl .no (.u rfl) (.u rfl) rfl (.nil (.code (.cond rfl (fun c1=>?_) (fun c1=>?_)))))))))
 ·have c1k:=c1
  try simp only [qcA,qcB] at c1
  refine .skip (.code (.seq (.block ?_)))
  refine wk_rv .here (by omega) ?_; intro bbR capR evR lcR; subst evR
  refine Wk.draw (mc:=⟨false,false⟩) [0,1,2,3,4,5,6,7,8,9,10,11,12,13,14,15,16,17,18,19,20,21,22,23] FxVeSa.mix (by kernel_rfl) ?_
  refine mV rfl rfl (mV rfl rfl (mV rfl rfl (arn (((P.length+k):Nat):Int) rfl .no (.u rfl) (.u rfl) rfl (fun _=>by omega) (fun _=>wrap_i64 (by omega) (by omega)) ?_)))
  refine mV rfl rfl (mV rfl rfl (mV rfl rfl (arn (((P.length+A.length+Q.length+k):Nat):Int) rfl .no (.u rfl) (.u rfl) rfl (fun _=>by omega) (fun _=>wrap_i64 (by omega) (by omega)) ?_)))
  refine mV rfl rfl (mV rfl rfl (mV rfl rfl (arn (((P.length+A.length+Q.length+k):Nat):Int) rfl .no (.u rfl) (.u rfl) rfl (fun _=>by omega) (fun _=>wrap_i64 (by omega) (by omega)) ?_)))
  refine ia rfl .no FxVeSa.se29 (.u rfl) (.u rfl) (fun _=>by omega) (fun _=>by omega) ?_
  refine lA rfl .no FxVeSa.ag98 (.u rfl) (fun _=>RdN.rowS .here (fun _ _=>Meta.len _) (gd_at (z:=Meta.zero) (k:=(P.length+A.length+Q.length+k)) (by omega)) (by omega)) (fun _=>Meta.len _) ?_
  refine mV rfl rfl (mV rfl rfl (mV rfl rfl (arn (((P.length+k):Nat):Int) rfl .no (.u rfl) (.u rfl) rfl (fun _=>by omega) (fun _=>wrap_i64 (by omega) (by omega)) ?_)))
  refine ia rfl .no FxVeSa.se29 (.u rfl) (.u rfl) (fun _=>by omega) (fun _=>by omega) ?_
  refine lA rfl .no FxVeSa.ag98 (.u rfl) (fun _=>RdN.rowS .here (fun _ _=>Meta.len _) (gd_at (z:=Meta.zero) (k:=(P.length+k)) (by omega)) (by omega)) (fun _=>Meta.len _) ?_
  refine ia rfl .no FxVeSa.se29 (.u rfl) (.u rfl) (fun _=>by omega) (fun _=>by omega) ?_
  refine stS (k:=(P.length+k)) (u:=((swL P A Q B S k).getD ((P.length+A.length+Q.length+k)) Meta.zero)) rfl (.u rfl) (.u rfl) rfl FxVeSa.sz98 .here (fun _ _=>Meta.len _) (Meta.len _) (Meta.one _) (by omega) (by (try simp only [List.length_set]); omega) ?_
  refine ia rfl .no FxVeSa.se29 (.u rfl) (.u rfl) (fun _=>by omega) (fun _=>by omega) ?_
  refine stS (k:=(P.length+A.length+Q.length+k)) (u:=((swL P A Q B S k).getD ((P.length+k)) Meta.zero)) rfl (.u rfl) (.u rfl) rfl FxVeSa.sz98 .here (fun _ _=>Meta.len _) (Meta.len _) (Meta.one _) (by omega) (by (try simp only [List.length_set]); omega) ?_
  refine .nil (.blk (.code (rq3 rfl rfl (mV rfl rfl (arn (((k+1):Nat):Int) rfl .no (.u rfl) (.u rfl) rfl (fun _=>by omega) (fun _=>wrap_i64 (by omega) (by omega)) ?_)))))
  refine aS rfl rfl (.nil (We.lpo (k+1) ?_ ?_ ?_ ?_ ?_))
  ·exact (esC rfl (by first|rfl|exact evi (by omega)) (esD rfl (esD rfl (esD rfl (esD rfl eZ)))))
  ·exact (mS .here (by rw [swL_step hAB (by omega) rfl rfl]) mN)
  ·first|omega|(dsimp only; omega)
  ·exact hGl0
  (try dsimp only)<;>(first|omega|rfl|assumption|(simp; done))
 have c1k:=c1
 try simp only [qcA,qcB] at c1
 refine .exit (.xcode (.xlp (.xblk (.nil (We.fin Tryz.results149 .nil (mS .here rfl mN) ?_)))))
 rw [swL_all hAB (by omega)]; exact ⟨rfl,rfl⟩
theorem rotM_ok (P A B S:List Meta) (v fv:Value) (a m b:Int) (G:PM) (ha:a=P.length) (hm:m=((P.length+A.length:Nat):Int)) (hb:b=((P.length+A.length+B.length:Nat):Int)) (hA:0<A.length) (hB:0<B.length) (xs:List Meta) (hx:xs=P++A++B++S) (hl:xs.length≤1000000000):Ct Tryz.prog 139 ([v,.int .i64 a,.int .i64 m,.int .i64 b,fv]:List Value).toArray G [rS 40 Meta.cells v 98 xs] (fun _ μ' u=>μ'=[rS 40 Meta.cells v 98 (P++B++A++S)]∧u=.tuple #[]):=by
 refine Ct.of Tryz.func139 rfl Tryz.ntmps139 rfl fun w0 hs0=>?_
 subst hx; subst ha; subst hm; subst hb; simp only [List.length_append] at hl
 refine .seq (rq4 rfl rfl (mV rfl rfl (mV rfl rfl (arn ((A.length:Nat):Int) rfl .no (.u rfl) (.u rfl) rfl (fun _=>by omega) (fun _=>wrap_i64 (by omega) (by omega)) ?_))))
 refine aS rfl rfl (.nil (.code (.seq (rq4 rfl rfl (mV rfl rfl (mV rfl rfl (arn ((B.length:Nat):Int) rfl .no (.u rfl) (.u rfl) rfl (fun _=>by omega) (fun _=>wrap_i64 (by omega) (by omega)) ?_)))))))
 refine aS rfl rfl (.nil (.code (.seq (.block ?_))))
 refine Wk.lop (α:=List Meta×List Meta×List Meta×List Meta) (fun gh=>[(10,true,.int .i64 (gh.2.1.length:Int)),(11,true,.int .i64 (gh.2.2.1.length:Int))]) (fun gh=>[rS 40 Meta.cells v 98 (gh.1++gh.2.1++gh.2.2.1++gh.2.2.2)])
  (fun gh Gl=>(0<gh.2.1.length)∧(0<gh.2.2.1.length)∧(gh.1.length+gh.2.1.length=P.length+A.length)∧(gh.1++gh.2.2.1++gh.2.1++gh.2.2.2=P++B++A++S)) (fun gh=>gh.2.1.length+gh.2.2.1.length) (P,A,B,S) [(0,true,_),(2,true,_),(4,true,_)] []
  (esC rfl (by first|rfl|exact evi (by omega)) (esC rfl (by first|rfl|exact evi (by omega)) (esD rfl (esD rfl (esD rfl eZ)))))
  (mS .here rfl mN) ?_ ?_
 ·refine ⟨?_,?_,?_,?_⟩
  ·(try dsimp only)<;>(first|omega|rfl|assumption|(simp; done))
  ·(try dsimp only)<;>(first|omega|rfl|assumption|(simp; done))
  ·(try dsimp only)<;>(first|omega|rfl|assumption|(simp; done))
  (try dsimp only)<;>(first|omega|rfl|assumption|(simp; done))
 intro gh N0 Gl0 hN0 hGl0 hF0
 obtain ⟨X,U,V,Y⟩:=gh; dsimp only at hF0 hN0 ⊢
 obtain ⟨hU,hV,hX,hT⟩:=hF0
 have hlen:=congrArg List.length hT; simp only [List.length_append] at hlen
 refine .seq (.seq (rq3 rfl rfl (mV rfl rfl (mV rfl rfl (cp rfl .no (.u rfl) (.u rfl) rfl (.nil (.code (.cond rfl (fun c1=>?_) (fun c1=>?_)))))))))
 ·have c1k:=c1
  try simp only [qcA,qcB] at c1
  refine .skip (.code (.block (.seq (rq3 rfl rfl (mV rfl rfl (mV rfl rfl (cp rfl .no (.u rfl) (.u rfl) rfl (.nil (.code (.cond rfl (fun c2=>?_) (fun c2=>?_)))))))))))
  ·have c2k:=c2
   try simp only [qcA,qcB] at c2
   refine .seq (rq8 rfl rfl (mV rfl rfl (mV rfl rfl (mV rfl rfl (arn ((X.length:Nat):Int) rfl .no (.u rfl) (.u rfl) rfl (fun _=>by omega) (fun _=>wrap_i64 (by omega) (by omega)) ?_)))))
   refine mV rfl rfl (mV rfl rfl (mV rfl rfl ?_))
   refine ka rfl (.inr rfl) Fx.go149 (Evc rfl (Evc rfl (Evc rfl (Evc rfl (Evc rfl Evn))))) (mtk1 .here) (swapR_ok X (U.take V.length) (U.drop V.length) V Y _ _ _ _ _ _ (by first|omega|(simp only [qlB,List.length_nil]<;>omega)) (by first|omega|(simp only [qlB,List.length_nil]<;>omega)) (by first|omega|(simp only [qlB,List.length_nil]<;>omega)) (by first|omega|(simp only [qlB,List.length_nil]<;>omega)) _ (by rw [List.append_assoc X (U.take _) (U.drop _),List.take_append_drop]) (by first|omega|(simp only [qlB,List.length_nil]<;>omega))) ?_
   rintro _ G31 μ31 hG31 ⟨rfl,rfl⟩
   refine .nil (.code (rq4 rfl rfl (mV rfl rfl (mV rfl rfl (arn (((U.length-V.length):Nat):Int) rfl .no (.u rfl) (.u rfl) rfl (fun _=>by omega) (fun _=>wrap_i64 (by omega) (by omega)) ?_)))))
   refine aS rfl rfl (.nil (.blk (We.lpo (X++V,U.drop V.length,U.take V.length,Y) ?_ ?_ ?_ ?_ ?_)))
   ·exact (esC rfl (evi (by first|omega|(simp only [qlB,List.length_nil]<;>omega))) (esC rfl (evi (by first|omega|(simp only [qlB,List.length_nil]<;>omega))) (esD rfl (esD rfl (esD rfl eZ)))))
   ·exact (mS .here rfl mN)
   ·exact (by first|omega|(simp only [qlB,List.length_nil]<;>omega))
   ·exact (hGl0).trans hG31
   refine ⟨?_,?_,?_,?_⟩
   ·(try dsimp only)<;>(exact (by first|omega|(simp only [qlB,List.length_nil]<;>omega)))
   ·(try dsimp only)<;>(exact (by first|omega|(simp only [qlB,List.length_nil]<;>omega)))
   ·(try dsimp only)<;>(exact (by first|omega|(simp only [qlB,List.length_nil]<;>omega)))
   (try dsimp only)<;>(rw [List.append_assoc (X++V),List.take_append_drop]; exact hT)
  have c2k:=c2
  try simp only [qcA,qcB] at c2
  refine .seq (Wk.rg [0,1,2,3,4,5,6,7,8,9,10,11] rfl rfl (mV rfl rfl (mV rfl rfl (mV rfl rfl (arn ((X.length:Nat):Int) rfl .no (.u rfl) (.u rfl) rfl (fun _=>by omega) (fun _=>wrap_i64 (by omega) (by omega)) ?_)))))
  refine mV rfl rfl (mV rfl rfl (arn (((P.length+A.length+V.length):Nat):Int) rfl .no (.u rfl) (.u rfl) rfl (fun _=>by omega) (fun _=>wrap_i64 (by omega) (by omega)) ?_))
  refine mV rfl rfl (arn (((X.length+U.length+(V.length-U.length)):Nat):Int) rfl .no (.u rfl) (.u rfl) rfl (fun _=>by omega) (fun _=>wrap_i64 (by omega) (by omega)) ?_)
  refine mV rfl rfl (mV rfl rfl ?_)
  refine ka rfl (.inr rfl) Fx.go149 (Evc rfl (Evc rfl (Evc rfl (Evc rfl (Evc rfl Evn))))) (mtk1 .here) (swapR_ok X U (V.take (V.length-U.length)) (V.drop (V.length-U.length)) Y _ _ _ _ _ _ (by first|omega|(simp only [qlB,List.length_nil]<;>omega)) (by first|omega|(simp only [qlB,List.length_nil]<;>omega)) (by first|omega|(simp only [qlB,List.length_nil]<;>omega)) (by first|omega|(simp only [qlB,List.length_nil]<;>omega)) _ (by rw [List.append_assoc (X++U) (V.take _) (V.drop _),List.take_append_drop]) (by first|omega|(simp only [qlB,List.length_nil]<;>omega))) ?_
  rintro _ G46 μ46 hG46 ⟨rfl,rfl⟩
  refine .nil (.code (rq4 rfl rfl (mV rfl rfl (mV rfl rfl (arn (((V.length-U.length):Nat):Int) rfl .no (.u rfl) (.u rfl) rfl (fun _=>by omega) (fun _=>wrap_i64 (by omega) (by omega)) ?_)))))
  refine aS rfl rfl (.nil (.blk (We.lpo (X,V.drop (V.length-U.length),V.take (V.length-U.length),U++Y) ?_ ?_ ?_ ?_ ?_)))
  ·exact (esC rfl (evi (by first|omega|(simp only [qlB,List.length_nil]<;>omega))) (esC rfl (evi (by first|omega|(simp only [qlB,List.length_nil]<;>omega))) (esD rfl (esD rfl (esD rfl eZ)))))
  ·exact (mS .here (by rw [← List.append_assoc (X++_++_) U Y]) mN)
  ·exact (by first|omega|(simp only [qlB,List.length_nil]<;>omega))
  ·exact (hGl0).trans hG46
  refine ⟨?_,?_,?_,?_⟩
  ·(try dsimp only)<;>(exact (by first|omega|(simp only [qlB,List.length_nil]<;>omega)))
  ·(try dsimp only)<;>(exact (by first|omega|(simp only [qlB,List.length_nil]<;>omega)))
  ·(try dsimp only)<;>(exact (by first|omega|(simp only [qlB,List.length_nil]<;>omega)))
  (try dsimp only)<;>(rw [List.append_assoc X,List.take_append_drop,←List.append_assoc]; exact hT)
 have c1k:=c1
 try simp only [qcA,qcB] at c1
 refine .exit (.xcode (.xlp (.xblk (.code (rq8 rfl rfl (mV rfl rfl (mV rfl rfl (mV rfl rfl (arn ((X.length:Nat):Int) rfl .no (.u rfl) (.u rfl) rfl (fun _=>by omega) (fun _=>wrap_i64 (by omega) (by omega)) ?_)))))))))
 refine mV rfl rfl (mV rfl rfl (mV rfl rfl ?_))
 refine ka rfl (.inr rfl) Fx.go149 (Evc rfl (Evc rfl (Evc rfl (Evc rfl (Evc rfl Evn))))) (mtk1 .here) (swapR_ok X U [] V Y _ _ _ _ _ _ (by first|omega|(simp only [qlB,List.length_nil]<;>omega)) (by first|omega|(simp only [qlB,List.length_nil]<;>omega)) (by first|omega|(simp only [qlB,List.length_nil]<;>omega)) (by first|omega|(simp only [qlB,List.length_nil]<;>omega)) _ (by simp) (by first|omega|(simp only [qlB,List.length_nil]<;>omega))) ?_
 rintro _ G57 μ57 hG57 ⟨rfl,rfl⟩
 refine .nil (.nil (We.fin Tryz.results139 .nil (mS .here rfl mN) ?_))
 rw [← hT,List.append_nil]; exact ⟨rfl,rfl⟩
theorem ins_ok (P S R:List TM) (v:Value) (a b:Int) (f:Nat) (hf:goFn Tryz.prog f=true) (vc:List Value) (cv:Meta→Meta→Int) (G:PM) (hcm:CmpR Tryz.prog f vc cv G) (hw:Wk0 (ltv cv)) (ha:a=P.length) (hb:b=((P.length+S.length:Nat):Int)) (hS:S.Pairwise fun x y=>x.2<y.2) (xs:List Meta) (hx:xs=ms (P++S++R)) (hl:xs.length≤1000000000):Ct Tryz.prog 125 ([v,.int .i64 a,.int .i64 b,.func (.func f) #[] vc.toArray]:List Value).toArray G [rS 40 Meta.cells v 98 xs] (fun _ μ' u=>∃ S',S'.Perm S∧Srt (ltv cv) S'∧μ'=[rS 40 Meta.cells v 98 (ms (P++S'++R))]∧u=.tuple #[]):=by
 refine Ct.of Tryz.func125 rfl Tryz.ntmps125 rfl fun w0 hs0=>?_
 subst hx; subst ha; subst hb; rw [ms_len] at hl; simp only [List.length_append] at hl
 refine .seq (rq3 rfl rfl (mV rfl rfl (arn (((P.length+1):Nat):Int) rfl .no (.u rfl) (.u rfl) rfl (fun _=>by omega) (fun _=>wrap_i64 (by omega) (by omega)) ?_)))
 refine aS rfl rfl (.nil (.code (.block ?_)))
 refine Wk.lop (α:=Nat×List TM) (fun gh=>[(8,true,.int .i64 ((P.length+gh.1:Nat):Int))]) (fun gh=>[rS 40 Meta.cells v 98 (ms (P++(gh.2++S.drop gh.1)++R))])
  (fun gh Gl=>(1≤gh.1)∧(gh.1≤S.length∨S.length=0)∧(gh.2.Perm (S.take gh.1))∧(Srt (ltv cv) gh.2)) (fun gh=>S.length-gh.1) (1,S.take 1) [(0,true,_),(1,true,_),(2,true,_),(3,true,_)] []
  (esC rfl (by first|rfl|exact evi (by omega)) (esD rfl (esD rfl (esD rfl (esD rfl eZ)))))
  (mS .here (by rw [List.take_append_drop]) mN) ?_ ?_
 ·refine ⟨?_,?_,?_,?_⟩
  ·(try dsimp only)<;>(first|omega|rfl|assumption|(simp; done))
  ·(try dsimp only)<;>(omega)
  ·(try dsimp only)<;>(exact List.Perm.refl _)
  (try dsimp only)<;>(exact srt_take1 S)
 intro gh N0 Gl0 hN0 hGl0 hF0
 obtain ⟨q,S1⟩:=gh; dsimp only at hF0 hN0 ⊢
 obtain ⟨hq1,hq2,hp,hs⟩:=hF0
 have hcm:=hcm.mono hGl0
 have hS1:=hp.length_eq; rw [List.length_take] at hS1
 refine .seq (.seq (rq3 rfl rfl (mV rfl rfl (mV rfl rfl (cp rfl .no (.u rfl) (.u rfl) rfl (.nil (.code (.cond rfl (fun c1=>?_) (fun c1=>?_)))))))))
 ·have c1k:=c1
  try simp only [qcA,qcC,qcB] at c1
  refine .skip (.code (.seq (.block (.seq (rq2 rfl rfl (mV rfl rfl (aS rfl rfl (.nil (.code (.block ?_))))))))))
  refine Wk.lop (α:=List TM×List TM) (fun gh=>[(9,true,.int .i64 ((P.length+gh.1.length:Nat):Int))]) (fun gh=>[rS 40 Meta.cells v 98 (ms (P++(gh.1++S.getD q z0 :: gh.2++S.drop (q+1))++R))])
   (fun gh Gl=>(gh.1++gh.2=S1)∧(∀ z∈gh.2,TL (ltv cv) (S.getD q z0) z)) (fun gh=>gh.1.length) (S1,[]) [(0,true,_),(1,true,_),(2,true,_),(3,true,_),(8,true,_)] []
   (esC rfl (evi (by first|rfl|omega|(dsimp only; omega))) (esD rfl (esD rfl (esD rfl (esD rfl (esD rfl eZ))))))
   (mS .here (by rw [drop_getD (by omega)]; simp) mN) ?_ ?_
  ·refine ⟨?_,?_⟩
   ·(try dsimp only)<;>(simp)
   (try dsimp only)<;>(exact fun z h=>by cases h)
  intro gh N1 Gl1 hN1 hGl1 hF1
  obtain ⟨A,B⟩:=gh; dsimp only at hF1 hN1 ⊢
  obtain ⟨hAB,hB⟩:=hF1
  have hcm:=hcm.mono hGl1
  have hAl:=congrArg List.length hAB; rw [List.length_append] at hAl; have hLl:(ms (P++(A++S.getD q z0 :: B++S.drop (q+1))++R)).length=P.length+S.length+R.length:=by rw [ms_len]; simp only [List.length_append,List.length_cons,List.length_drop]; omega
  refine .seq (.seq ?_)
  refine wk_rv .here (by omega) ?_; intro bbR capR evR lcR; subst evR
  refine Wk.draw (mc:=⟨false,false⟩) [0,1,2,3,4,5,6,7,8,9,10,11,12,13,14,15,16] FxVeSa.mix (by kernel_rfl) ?_
  refine mV rfl rfl (mV rfl rfl (cp rfl .no (.u rfl) (.u rfl) rfl (mV rfl rfl (mv rfl (.t rfl rfl) (.u rfl) (mv rfl (.t rfl rfl) (.u rfl) (mv rfl (.t rfl rfl) (.u rfl) (ia rfl (.t rfl rfl) FxVeSa.se29 (.s rfl) (.s rfl) (fun hc=>by (try simp only [Bool.and_eq_true,decide_eq_true_eq] at hc); omega) (fun hc=>by (try simp only [Bool.and_eq_true,decide_eq_true_eq] at hc); omega) ?_)))))))
  refine lA rfl (.t rfl rfl) FxVeSa.ag98 (.s rfl) (fun hc=>RdN.rowS .here (fun _ _=>Meta.len _) (gd_at (z:=Meta.zero) (k:=((P.length+A.length:Nat))) (by (try simp only [Bool.and_eq_true,decide_eq_true_eq] at hc); omega)) (by (try simp only [Bool.and_eq_true,decide_eq_true_eq] at hc); omega)) (fun _=>Meta.len _) ?_
  refine mv rfl (.t rfl rfl) (.u rfl) (mv rfl (.t rfl rfl) (.u rfl) (arn (((P.length+A.length-1):Nat):Int) rfl (.t rfl rfl) (.s rfl) (.u rfl) rfl (fun hc=>by (try simp only [Bool.and_eq_true,decide_eq_true_eq] at hc); omega) (fun hc=>wrap_i64 (by (try simp only [Bool.and_eq_true,decide_eq_true_eq] at hc); omega) (by (try simp only [Bool.and_eq_true,decide_eq_true_eq] at hc); omega)) ?_))
  refine ia rfl (.t rfl rfl) FxVeSa.se29 (.s rfl) (.s rfl) (fun hc=>by (try simp only [Bool.and_eq_true,decide_eq_true_eq] at hc); omega) (fun hc=>by (try simp only [Bool.and_eq_true,decide_eq_true_eq] at hc); omega) ?_
  refine lA rfl (.t rfl rfl) FxVeSa.ag98 (.s rfl) (fun hc=>RdN.rowS .here (fun _ _=>Meta.len _) (gd_at (z:=Meta.zero) (k:=(P.length+A.length-1)) (by (try simp only [Bool.and_eq_true,decide_eq_true_eq] at hc); omega)) (by (try simp only [Bool.and_eq_true,decide_eq_true_eq] at hc); omega)) (fun _=>Meta.len _) ?_
  refine kf rfl (.t rfl rfl) (.s rfl) hf (Eva.cons (.s rfl) (Eva.cons (.s rfl) Evn)) (fun _=>hcm.ok _ (PM.le.refl _) _ _) ?_
  refine cp rfl (.t rfl rfl) (.s rfl) (.u rfl) rfl (pkA rfl .no (.u rfl) (.s rfl) (.nil (.code (.cond rfl (fun c2=>?_) (fun c2=>?_)))))
  ·have c2k:=c2
   try simp only [qcA,qcC,qcB] at c2
   refine .skip (.code (.seq (.block (Wk.draw (mc:=⟨false,false⟩) [0,1,2,3,4,5,6,7,8,9,10,11,12,13,14,15,16,17] FxVeSa.mix (by kernel_rfl) ?_))))
   refine mV rfl rfl (mV rfl rfl (mV rfl rfl (mV rfl rfl (arn (((P.length+A.length-1):Nat):Int) rfl .no (.u rfl) (.u rfl) rfl (fun _=>by omega) (fun _=>wrap_i64 (by omega) (by omega)) ?_))))
   refine mV rfl rfl (mV rfl rfl (arn (((P.length+A.length-1):Nat):Int) rfl .no (.u rfl) (.u rfl) rfl (fun _=>by omega) (fun _=>wrap_i64 (by omega) (by omega)) ?_))
   refine ia rfl .no FxVeSa.se29 (.u rfl) (.u rfl) (fun _=>by omega) (fun _=>by omega) ?_
   refine lA rfl .no FxVeSa.ag98 (.u rfl) (fun _=>RdN.rowS .here (fun _ _=>Meta.len _) (gd_at (z:=Meta.zero) (k:=(P.length+A.length-1)) (by omega)) (by omega)) (fun _=>Meta.len _) ?_
   refine mV rfl rfl (mV rfl rfl (ia rfl .no FxVeSa.se29 (.u rfl) (.u rfl) (fun _=>by omega) (fun _=>by omega) ?_))
   refine lA rfl .no FxVeSa.ag98 (.u rfl) (fun _=>RdN.rowS .here (fun _ _=>Meta.len _) (gd_at (z:=Meta.zero) (k:=((P.length+A.length:Nat))) (by omega)) (by omega)) (fun _=>Meta.len _) ?_
   refine ia rfl .no FxVeSa.se29 (.u rfl) (.u rfl) (fun _=>by omega) (fun _=>by omega) ?_
   refine stS (k:=((P.length+A.length:Nat))) (u:=((ms (P++(A++S.getD q z0 :: B++S.drop (q+1))++R)).getD ((P.length+A.length-1)) Meta.zero)) rfl (.u rfl) (.u rfl) rfl FxVeSa.sz98 .here (fun _ _=>Meta.len _) (Meta.len _) (Meta.one _) (by omega) (by (try simp only [List.length_set]); omega) ?_
   refine ia rfl .no FxVeSa.se29 (.u rfl) (.u rfl) (fun _=>by omega) (fun _=>by omega) ?_
   refine stS (k:=(P.length+A.length-1)) (u:=((ms (P++(A++S.getD q z0 :: B++S.drop (q+1))++R)).getD (((P.length+A.length:Nat))) Meta.zero)) rfl (.u rfl) (.u rfl) rfl FxVeSa.sz98 .here (fun _ _=>Meta.len _) (Meta.len _) (Meta.one _) (by omega) (by (try simp only [List.length_set]); omega) ?_
   refine .nil (.blk (.code (rq3 rfl rfl (mV rfl rfl (arn (((P.length+A.length-1):Nat):Int) rfl .no (.u rfl) (.u rfl) rfl (fun _=>by omega) (fun _=>wrap_i64 (by omega) (by omega)) ?_)))))
   refine aS rfl rfl (.nil (We.lpo (A.take (A.length-1),A.getD (A.length-1) z0 :: B) ?_ ?_ ?_ ?_ ?_))
   ·exact (esC rfl (evi (by first|omega|(simp only [qlB,List.length_nil]<;>omega))) (esD rfl (esD rfl (esD rfl (esD rfl (esD rfl eZ))))))
   ·exact (mS .here (by rw [ins_sw (by omega) rfl rfl]) mN)
   ·exact (by first|omega|(simp only [qlB,List.length_nil]<;>omega))
   ·exact hGl1
   refine ⟨?_,?_⟩
   ·(try dsimp only)<;>(rw [← hAB]; exact take_last (by omega))
   (try dsimp only)<;>(exact ins_B (P:=P) (D:=S.drop (q+1)) (R:=R) hB ⟨by omega,c2.2⟩)
  have c2k:=c2
  try simp only [qcA,qcC,qcB] at c2
  refine .exit (.xcode (.xlp (.xblk (.blk (.code (rq3 rfl rfl (mV rfl rfl (arn (((((P.length+q:Nat))+1):Nat):Int) rfl .no (.u rfl) (.u rfl) rfl (fun _=>by omega) (fun _=>wrap_i64 (by omega) (by omega)) ?_))))))))
  refine aS rfl rfl (.nil (We.lpo (q+1,A++S.getD q z0 :: B) ?_ ?_ ?_ ?_ ?_))
  ·exact (esC rfl (by first|rfl|exact evi (by omega)) (esD rfl (esD rfl (esD rfl (esD rfl eZ)))))
  ·exact (mS .here (by simp) mN)
  ·first|omega|(dsimp only; omega)
  ·exact (hGl0).trans hGl1
  refine ⟨?_,?_,?_,?_⟩
  ·(try dsimp only)<;>(first|omega|rfl|assumption|(simp; done))
  ·(try dsimp only)<;>(omega)
  ·(try dsimp only)<;>(exact ins_perm (by omega) hAB hp)
  (try dsimp only)<;>(exact ins_srt (P:=P) (R:=R) hw hs hAB hB hS hp (by omega) (fun h0=>c2.resolve_left (by omega)))
 have c1k:=c1
 try simp only [qcA,qcC,qcB] at c1
 refine .exit (.xcode (.xlp (.xblk (.nil (We.fin Tryz.results125 .nil (mS .here rfl mN) ?_)))))
 have hqq:S.length≤q:=by omega
 rw [List.take_of_length_le hqq] at hp
 exact ⟨S1,hp,hs,by rw [List.drop_of_length_le hqq,List.append_nil],rfl⟩
end Go.Proofs.YtdeobooblmjlfaaGreatDoor
