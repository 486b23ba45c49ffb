/- Lemmas and contracts of functions, joined. -/
import Derived.Test.YtdeobooblmjlfaaGreatDoorMa1
import Derived.Laws.BytesString
import Derived.Laws.MakeOwn
import Derived.ProofKit
import Derived.Lib.LaidTab
set_option linter.unusedSimpArgs false
set_option linter.unusedVariables false
set_option linter.unusedSectionVars false
namespace Go.Tan
open Go.RowKit
theorem uN (xs:List Y):xs.flatMap aQ=xs.map V:=by
 induction xs with
 | nil=>rfl
 | cons a r ih=>simp only [List.flatMap_cons,List.map_cons,ih,aQ]; rfl
theorem aBk (xs:List Y):∀ u∈xs.map V,u.oneCell'=true:=by
 intro u hu; obtain ⟨y,_,rfl⟩:=List.mem_map.1 hu; rfl
abbrev rB (v:Value) (E:Nat) (xs:List Y):Res:=.row v E 1 xs.length (xs.map V)
structure Sc (G:PM) (μ:aH) (v:Value) (ys:List Y):Prop where
 ex:∃ oa cap,v=.slice oa ys.length cap∧(0<ys.length→∃ b o,oa=some ⟨b,o,none⟩∧RdN G μ b o (ys.map V))
theorem SlR.sc {G:PM} {μ:aH} {s:Sh} {ys:List Y} (h:SlR G 1 aQ s ys):Sc G μ (s.val ys.length) ys :=
 ⟨s.oa,s.cap,rfl,fun h0=>⟨s.b,s.o,h.nn h0,by rw [← uN]; exact (SlR.flat (enc:=aQ) (fun _ _=>rfl) h).rd⟩⟩
theorem Sc.blk {G:PM} {μ μ':aH} {b o cap m:Nat} {cs:List Value} {T:TypeId} {ys:List Y} (hm:MTake μ (.blk b (cl cs T)) μ') (hn:ys.length=m) (hc:(cs.drop o).take m=ys.map V):Sc G μ (.slice (some ⟨b,o,none⟩) m cap) ys:=by
 subst hn; exact ⟨_,_,rfl,fun _=>⟨b,o,rfl,RdN.part hm hc⟩⟩
theorem aEU (n:Nat) (f:Nat→Y):(yl n f).map V=ba n f:=by rw [← uN,aEW]
theorem Sc.arr {G:PM} {μ μ':aH} {b cap m:Nat} {f:Nat→Y} {T:TypeId} (hm:MTake μ (.blk b (cl (ba m f) T)) μ'):Sc G μ (.slice (some ⟨b,0,none⟩) m cap) (yl m f) :=
 Sc.blk hm (bK m f) (by rw [aEU,List.drop_zero,List.take_of_length_le (by rw [bT]; exact Nat.le_refl _)])
theorem Sc.one {G:PM} {μ μ':aH} {b:Nat} {y:Y} {T:TypeId} (hm:MTake μ (.blk b (cl [V y] T)) μ'):Sc G μ (.slice (some ⟨b,0,none⟩) 1 1) [y] :=
 Sc.blk hm rfl rfl
theorem Rd.row {G:PM} {μ μ':aH} {b m cap E sz m' o:Nat} {xs:List Value} {v:Value} (h:MTake μ (.row (.slice (some ⟨b,0,none⟩) m cap) E sz m' xs) μ') (hv:xs[o]? = some v):Rd G μ ⟨b,o,none⟩ v:=by
 intro w hs
 have hrow:w.ownsRow 0 E sz _ m' xs:=hs.own _ (h.perm.mem_iff.2 (List.mem_cons_self ..))
 have:=World.ownsRow.cells hrow (g:=b) rfl o v hv
 rwa [jD,Nat.zero_add] at this
theorem SlR.cutn {α:Type} {G:PM} {sz:Nat} {enc:α→List Value} {s:Sh} {xs:List α} (h:SlR G sz enc s xs) {lo m:Nat} (h1:lo+m≤xs.length):SlR G sz enc (s.cut lo sz) ((xs.drop lo).take m):=by
 have hle:=h.le
 by_cases hm:lo<xs.length
 ·have hcut:s.cut lo sz=⟨some ⟨s.b,s.o+lo*sz,none⟩,s.cap-lo⟩:=by
   unfold Sh.cut; rw [if_neg (by omega),h.nn hm]; simp [jD]
  rw [hcut]
  refine ⟨fun _=>rfl,by simp; omega,fun i x hx=>?_⟩
  have hx':xs[lo+i]? = some x:=by
   rw [List.getElem?_take] at hx
   split at hx
   ·rwa [List.getElem?_drop] at hx
   cases hx
  have:=h.rd (lo+i) x hx'
  rw [Nat.add_mul,←Nat.add_assoc] at this
  exact this
 have e:(xs.drop lo).take m=[]:=by rw [List.drop_of_length_le (by omega)]; simp
 rw [e]; exact ⟨fun h=>absurd rfl h,by simp,fun i x hx=>by simp at hx⟩
theorem SlR.cutx {α:Type} {G:PM} {sz:Nat} {enc:α→List Value} {s:Sh} {xs:List α} (h:SlR G sz enc s xs) (lo m:Nat):∃ s',SlR G sz enc s' ((xs.drop lo).take m):=by
 by_cases hl:lo≤xs.length
 ·have e:(xs.drop lo).take m=(xs.drop lo).take (min m (xs.length-lo)):=by
   have e:=List.take_eq_take_min (l:=xs.drop lo) (i:=m)
   rwa [List.length_drop] at e
  exact ⟨_,by rw [e]; exact h.cutn (by omega)⟩
 ·exact ⟨⟨none,0⟩,by rw [List.drop_of_length_le (by omega),List.take_nil]; exact SlR.nul⟩
theorem SlR.nth {α:Type} {G:PM} {sz:Nat} {enc:α→List Value} {s:Sh} {xs:List α} (h:SlR G sz enc s xs) {j:Int} (k:Nat) {x:α} (hj:j.toNat=k) (hx:xs[k]? = some x):RdNP G s.b (s.o+j.toNat*sz) (enc x):=by
 rw [hj]; exact h.rd k x hx
section
variable {dr:Bool} {mc:Md} {P:Program} {n:Nat} {l:List Oper} {K:aO→PM→aH→Prop} {i:Nat} {σ:List Nat} {ρ:aO} {G:PM} {μ:aH}
variable {d t:Nat} {p:String} {af:Array Edge} {g:Option (Nat×Bool)} {c:Bool}
theorem kS {α:Type} {enc:α→List Value} {T e sz by':Nat} {x y z:Operand} {k k':IntKind} {s:Sh} {xs:List α} {a b:Int} (lo hi:Nat) (ho:nth l i=some ⟨some d,.slice T x (some y) (some z) none,t,p,af,g⟩) (hg:Gd l ρ g c) (hT:cL P T=some (e,sz,by')) (hs:SlR G sz enc s xs)
  (hx:Ev ρ c x (s.val xs.length)) (hy:Ev ρ c y (.int k a)) (hz:Ev ρ c z (.int k' b)) (ha:c=true→a=lo) (hb:c=true→b=hi) (h1:c=true→lo≤hi) (h2:c=true→hi≤xs.length)
  (h:∀ s' L,L=(xs.drop lo).take (hi-lo)→(c=true→L.length=hi-lo)→SlR G sz enc s' L→Wo dr mc P n l K σ ((d,c,s'.val L.length) :: ρ) G μ):Wo dr mc P n l K (i :: σ) ρ G μ:=by
 cases c with
 | false =>
  obtain ⟨s',hs'⟩:=hs.cutx lo (hi-lo)
  exact .pure ho (.inl rfl) hg (fun hc=>nomatch hc) (h s' _ rfl (fun hc=>nomatch hc) hs')
 | true =>
  obtain rfl:=ha rfl; obtain rfl:=hb rfl
  have e1:=h1 rfl; have e2:=h2 rfl; have e3:=hs.le
  have hl:((xs.drop lo).take (hi-lo)).length=hi-lo:=by simp; omega
  refine scn (q:=((xs.drop lo).take (hi-lo)).length) ho hg hT hx hy hz (by omega) (by omega) (by omega) (fun _=>by rw [hl]; omega) ?_
  rw [Int.toNat_natCast]
  exact h _ _ rfl (fun _=>hl) (hs.cutn (by omega))
theorem kD {α:Type} {enc:α→List Value} {T e sz by':Nat} {x y:Operand} {k:IntKind} {s:Sh} {xs:List α} {a:Int} (lo:Nat) (ho:nth l i=some ⟨some d,.slice T x (some y) none none,t,p,af,g⟩) (hg:Gd l ρ g c) (hT:cL P T=some (e,sz,by')) (hs:SlR G sz enc s xs)
  (hx:Ev ρ c x (s.val xs.length)) (hy:Ev ρ c y (.int k a)) (ha:c=true→a=lo) (h1:c=true→lo≤xs.length)
  (h:∀ s' L,L=xs.drop lo→(c=true→L.length=xs.length-lo)→SlR G sz enc s' L→Wo dr mc P n l K σ ((d,c,s'.val L.length) :: ρ) G μ):Wo dr mc P n l K (i :: σ) ρ G μ:=by
 have ht:(xs.drop lo).take (xs.length-lo)=xs.drop lo:=List.take_of_length_le (by simp)
 cases c with
 | false =>
  obtain ⟨s',hs'⟩:=hs.cutx lo (xs.length-lo)
  rw [ht] at hs'
  exact .pure ho (.inl rfl) hg (fun hc=>nomatch hc) (h s' _ rfl (fun hc=>nomatch hc) hs')
 | true =>
  obtain rfl:=ha rfl
  have e1:=h1 rfl; have e3:=hs.le
  have hl:(xs.drop lo).length=xs.length-lo:=by simp
  refine sd ho hg hT hx hy (by omega) (by omega) ?_
  rw [Int.toNat_natCast,←hl]
  refine h _ _ rfl (fun _=>hl) ?_
  rw [← ht]; exact hs.cutn (by omega)
theorem kE {α:Type} {enc:α→List Value} {T e sz by':Nat} {x y:Operand} {k:IntKind} {s:Sh} {xs:List α} {a:Int} (hi:Nat) (ho:nth l i=some ⟨some d,.slice T x none (some y) none,t,p,af,g⟩) (hg:Gd l ρ g c) (hT:cL P T=some (e,sz,by')) (hs:SlR G sz enc s xs)
  (hx:Ev ρ c x (s.val xs.length)) (hy:Ev ρ c y (.int k a)) (ha:c=true→a=hi) (h1:c=true→hi≤xs.length)
  (h:∀ s' L,L=xs.take hi→(c=true→L.length=hi)→SlR G sz enc s' L→Wo dr mc P n l K σ ((d,c,s'.val L.length) :: ρ) G μ):Wo dr mc P n l K (i :: σ) ρ G μ:=by
 have htake:SlR G sz enc s (xs.take hi):=by
  refine ⟨fun hne=>hs.there (fun e=>hne (by rw [e]; simp)),by have:=hs.le; rw [List.length_take]; omega,fun j u hj=>?_⟩
  rw [List.getElem?_take] at hj
  split at hj
  ·exact hs.rd j u hj
  cases hj
 cases c with
 | false=>exact .pure ho (.inl rfl) hg (fun hc=>nomatch hc) (h s _ rfl (fun hc=>nomatch hc) htake)
 | true =>
  obtain rfl:=ha rfl
  have e1:=h1 rfl; have e3:=hs.le
  have hl:(xs.take hi).length=hi:=by simp; omega
  refine se ho hg hT hx hy (by omega) (by omega) ?_
  rw [Int.toNat_natCast]
  have:=h s _ rfl (fun _=>hl) htake
  rwa [hl] at this
theorem cQ {op:BinOp} {T T':TypeId} {x y:Operand} {k:IntKind} {a1 a2 r:Int} (r':Int) (ho:nth l i=some ⟨some d,.binOp op T x y T',t,p,af,g⟩) (hg:Gd l ρ g c) (hx:Ev ρ c x (.int k a1)) (hy:Ev ρ c y (.int k a2)) (hr:wC op a1 a2=some r) (he:c=true→r=r') (hw:c=true→k.wrap r'=r')
  (h:Wo dr mc P n l K σ ((d,c,.int k r') :: ρ) G μ):Wo dr mc P n l K (i :: σ) ρ G μ :=
 .pure ho (.inl rfl) hg (fun hc a w ha=>by obtain rfl:=he hc; simp [execOp,hx.eval ha hc,hy.eval ha hc,kX,aId T hr w,hw hc]) h
theorem rmn {T T':TypeId} {x y:Operand} {k:IntKind} {a1 a2:Int} (a b:Nat) (ho:nth l i=some ⟨some d,.binOp .rem T x y T',t,p,af,g⟩) (hg:Gd l ρ g c) (hx:Ev ρ c x (.int k a1)) (hy:Ev ρ c y (.int k a2)) (h1:c=true→a1=a) (h2:c=true→a2=b) (h0:c=true→b≠0)
  (h:Wo dr mc P n l K σ ((d,c,.int k ((a%b:Nat):Int)) :: ρ) G μ):Wo dr mc P n l K (i :: σ) ρ G μ :=
 .pure ho (.inl rfl) hg (fun hc q w ha=>by
  obtain rfl:=h1 hc; obtain rfl:=h2 hc
  have:=h0 hc
  have e:((a:Int).tmod (b:Int))=((a%b:Nat):Int):=rfl
  simp [execOp,hx.eval ha hc,hy.eval ha hc,kX,binOp,Op.intDiv,h0 hc,e]) h
theorem qun {T T':TypeId} {x y:Operand} {a1 a2:Int} (a b:Nat) (ho:nth l i=some ⟨some d,.binOp .quo T x y T',t,p,af,g⟩) (hg:Gd l ρ g c) (hx:Ev ρ c x (.int .i64 a1)) (hy:Ev ρ c y (.int .i64 a2)) (h1:c=true→a1=a) (h2:c=true→a2=b) (h0:c=true→b≠0) (h3:c=true→a≤9223372036854775807)
  (h:Wo dr mc P n l K σ ((d,c,.int .i64 ((a / b:Nat):Int)) :: ρ) G μ):Wo dr mc P n l K (i :: σ) ρ G μ :=
 .pure ho (.inl rfl) hg (fun hc q w ha=>by
  obtain rfl:=h1 hc; obtain rfl:=h2 hc
  have h3:=h3 hc
  have e:((a:Int).tdiv (b:Int))=((a / b:Nat):Int):=rfl
  have hle:a / b≤a:=Nat.div_le_self a b
  have hw:IntKind.i64.wrap ((a / b:Nat):Int)=((a / b:Nat):Int):=by
   generalize a / b=q at hle
   exact bO (by omega) (by omega)
  simp only [Int.natCast_ediv] at hw
  simp [execOp,hx.eval ha hc,hy.eval ha hc,kX,binOp,Op.intDiv,h0 hc,e,hw]) h
theorem mIn {T T':TypeId} {x y:Operand} {k:IntKind} {a1 a2:Int} (a b:Nat) (ho:nth l i=some ⟨some d,.call { callee:=.builtin .min,args:=#[x,y],argTypes:=#[T,T'] },t,p,af,g⟩) (hg:Gd l ρ g c) (hx:Ev ρ c x (.int k a1)) (hy:Ev ρ c y (.int k a2)) (h1:c=true→a1=a) (h2:c=true→a2=b)
  (h:Wo dr mc P n l K σ ((d,c,.int k ((min a b:Nat):Int)) :: ρ) G μ):Wo dr mc P n l K (i :: σ) ρ G μ :=
 .read ho (.inl rfl) hg (fun hc q w ha _=>by
  obtain rfl:=h1 hc; obtain rfl:=h2 hc
  have e:(if (b:Int)<(a:Int) then (b:Int) else (a:Int))=((min a b:Nat):Int):=by split<;>omega
  simp [execOp,resolve,invoke,builtin,hx.eval ha hc,hy.eval ha hc,Builtin.min_,Builtin.min2]
  simpa using e) h
theorem mAn {T T':TypeId} {x y:Operand} {k:IntKind} {a1 a2:Int} (a b:Nat) (ho:nth l i=some ⟨some d,.call { callee:=.builtin .max,args:=#[x,y],argTypes:=#[T,T'] },t,p,af,g⟩) (hg:Gd l ρ g c) (hx:Ev ρ c x (.int k a1)) (hy:Ev ρ c y (.int k a2)) (h1:c=true→a1=a) (h2:c=true→a2=b)
  (h:Wo dr mc P n l K σ ((d,c,.int k ((max a b:Nat):Int)) :: ρ) G μ):Wo dr mc P n l K (i :: σ) ρ G μ :=
 .read ho (.inl rfl) hg (fun hc q w ha _=>by
  obtain rfl:=h1 hc; obtain rfl:=h2 hc
  have e:(if (b:Int) > (a:Int) then (b:Int) else (a:Int))=((max a b:Nat):Int):=by split<;>omega
  simp [execOp,resolve,invoke,builtin,hx.eval ha hc,hy.eval ha hc,Builtin.max_,Builtin.max2]
  simpa using e) h
theorem ng {T:TypeId} {x:Operand} {k:IntKind} {a:Int} (ho:nth l i=some ⟨some d,.unOp .neg T x,t,p,af,g⟩) (hg:Gd l ρ g c) (hx:Ev ρ c x (.int k a)) (hw:c=true→k.wrap (-a) = -a) (h:Wo dr mc P n l K σ ((d,c,.int k (-a)) :: ρ) G μ):Wo dr mc P n l K (i :: σ) ρ G μ :=
 .pure ho (.inl rfl) hg (fun hc q w ha=>by simp [execOp,hx.eval ha hc,Op.unary,Op.intArith,hw hc]) h
theorem nw {T:TypeId} {x:Operand} {k:IntKind} {a:BitVec k.bits} (ho:nth l i=some ⟨some d,.unOp .neg T x,t,p,af,g⟩) (hg:Gd l ρ g c) (hk:k.signed=false) (hx:Ev ρ c x (uv k a)) (h:Wo dr mc P n l K σ ((d,c,uv k (-a)) :: ρ) G μ):Wo dr mc P n l K (i :: σ) ρ G μ :=
 .pure ho (.inl rfl) hg (fun hc q w ha=>by
  have e1:=hx.eval ha hc
  have e:k.wrap (-(a.toNat:Int))=((-a).toNat:Int):=by rw [aAW hk,BitVec.ofInt_neg]; simp
  simp [execOp,e1,uv,Op.unary,Op.intArith,e]) h
theorem xw {T:TypeId} {x:Operand} {k:IntKind} {a:BitVec k.bits} (ho:nth l i=some ⟨some d,.unOp .xor T x,t,p,af,g⟩) (hg:Gd l ρ g c) (hk:k.signed=false) (hx:Ev ρ c x (uv k a)) (h:Wo dr mc P n l K σ ((d,c,uv k (~~~a)) :: ρ) G μ):Wo dr mc P n l K (i :: σ) ρ G μ :=
 .pure ho (.inl rfl) hg (fun hc q w ha=>by
  have e1:=hx.eval ha hc
  have e2:BitVec.ofInt k.bits k.max=BitVec.allOnes k.bits:=by
   cases k<;>first|rfl | cases hk
  have e3:BitVec.allOnes k.bits ^^^ a = ~~~a:=by simp
  have e:k.wrap (((~~~a).toNat:Nat):Int)=((~~~a).toNat:Int):=yC hk _
  simp only [execOp,e1,uv,Op.unary,Op.intBits,hk,if_false,e2,Bool.false_eq_true,Sem.run_bind]
  simp [e3]
  simpa using e) h
theorem Sat.rowOne {E sz m:Nat} {v:Value} {xs:List Value} {w:World} (hs:Sat G [.row v E sz m xs] w):v.oneCell'=true:=by
 have hrow:w.ownsRow 0 E sz v m xs:=hs.own _ (List.mem_singleton.2 rfl)
 rcases hrow.2 with ⟨rfl,_⟩ | ⟨g,cap,cur,rfl,_⟩<;>rfl
theorem dC {T E:Nat} {x y:Operand} {v u:Value} {xs ys:List Y} {μ':aH} (ho:nth l i=some ⟨some d,.call { callee:=.builtin .append,args:=#[x,y],argTypes:=#[T,T] },t,p,af,none⟩)
  (hT:cL P T=some (E,1,1)) (hz:(P.info? E).bind (·.zero)=some (.int .u8 0)) (hx:Ev ρ true x v) (hy:Ev ρ true y u) (hm:MTake μ (rB v E xs) μ') (hs:Sc G μ u ys) (hb:xs.length+ys.length≤140737488355328)
  (h:∀ v' L,v'.oneCell'=true→L=xs++ys→Wo dr mc P n l K σ ((d,true,v') :: ρ) G (rB v' E L :: μ')) (hmc:mc.a=false∨dr=false:=by first|exact .inl rfl|exact .inr rfl):Wo dr mc P n l K (i :: σ) ρ G μ:=by
 obtain ⟨oa,cap,rfl,hr⟩:=hs.ex
 refine .act (μ₁:=[rB v E xs]) (μ₂:=μ') (post:=fun G' μ' v'=>G'=G∧v'.oneCell'=true∧μ'=[rB v' E (xs++ys)]) ho (by rcases hmc with h | h<;>simp [cA,h]) .no hm.perm (fun a w ha hs=>.inl ?_) ?_
 ·obtain ⟨v',w',hrun,ht⟩:=aAI (ty:=t) (cp:=cap) (news:=ys.map V) (k:=ys.length) (oa:=oa) hT hz rfl hs.left (by simp) (fun hk=>by
   obtain ⟨b,o,h1,h2⟩:=hr hk
   exact ⟨b,o,h1,fun j u hj=>h2 j u hj w (hs.perm hm.perm.symm)⟩) (aBk ys) (by omega) (by unfold maxLen; omega)
  refine ⟨v',w',G,[rB v' E (xs++ys)],.inl (by simp [execOp,resolve,invoke,builtin,hx.eval ha rfl,hy.eval ha rfl,hrun]),?_,rfl,ht.sat.rowOne,rfl⟩
  simp only [rB,List.length_append,List.map_append]; exact ht
 rintro v' G' μ'' _ ⟨rfl,h1,rfl⟩
 exact h v' _ h1 rfl
theorem Sat.rowVal {E sz m:Nat} {v:Value} {xs:List Value} {w:World} (hs:Sat G μ w) (hm : .row v E sz m xs∈μ) (h0:0<m):∃ b cap,v=.slice (some ⟨b,0,none⟩) m cap∧m≤cap:=by
 have hrow:w.ownsRow 0 E sz v m xs:=hs.own _ hm
 rcases hrow.2 with ⟨rfl,rfl⟩ | ⟨g,cap,cur,rfl,_,hg,hnc,_⟩
 ·omega
 ·exact ⟨g,cap,rfl,hnc⟩
theorem nX {X:Cx} {cd:Code} {k:List KI} {E sz m:Nat} {v:Value} {xs:List Value} {μ':aH} (hm:MTake μ (.row v E sz m xs) μ') (h0:0<m) (h:∀ b cap,v=.slice (some ⟨b,0,none⟩) m cap→m≤cap→Wk X cd k ρ G μ):Wk X cd k ρ G μ :=
 ⟨fun a w ha ht=>by
  obtain ⟨b,cap,h1,h2⟩:=ht.sat.rowVal (hm.perm.mem_iff.2 (List.mem_cons_self ..)) h0
  exact (h b cap h1 h2).out a w ha ht⟩
theorem Tr.frzB {G0:PM} {K0:List Nat} {w0 w:World} {E:Nat} {v:Value} {xs:List Y} (h:Tr G0 K0 w0 G (rB v E xs :: μ) w) (hK:∀ b∈K0,b∈keys μ) :
  ∃ G' s,PM.le G G'∧v=Sh.val s xs.length∧SlR G' 1 aQ s xs∧Tr G0 K0 w0 G' μ w:=by
 obtain ⟨G',s,h1,h2,h3,h4,h5,h6⟩:=h.freezeRow hK
 exact ⟨G',s,h1,h2,SlR.ofRow (fun _ _=>rfl) h3 h4 (by rw [uN]; exact h5),h6⟩
theorem aJn {X:Cx} {e:Exit} {k:List KI} {E:Nat} {v:Value} {xs:List Y} {μ':aH} (hm:MTake μ (rB v E xs) μ') (hK:∀ b∈X.K0,b∈keys μ') (h:∀ G' s,PM.le G G'→v=Sh.val s xs.length→SlR G' 1 aQ s xs→We X e k ρ G' μ'):We X e k ρ G μ :=
 ⟨fun a w ha ht=>by
  obtain ⟨G',s,h1,h2,h3,h4⟩:=(ht.perm hm.perm).frzB hK
  exact (h G' s h1 h2 h3).out a w ha h4⟩
theorem iP {X:Cx} {cd:Code} {k:List KI} {E:Nat} {v:Value} {xs:List Y} {μ':aH} (hm:MTake μ (rB v E xs) μ') (hK:∀ b∈X.K0,b∈keys μ') (h:∀ G' s,PM.le G G'→v=Sh.val s xs.length→SlR G' 1 aQ s xs→Wk X cd k ρ G' μ'):Wk X cd k ρ G μ :=
 ⟨fun a w ha ht=>by
  obtain ⟨G',s,h1,h2,h3,h4⟩:=(ht.perm hm.perm).frzB hK
  exact (h G' s h1 h2 h3).out a w ha h4⟩
theorem aJ1 {f:FuncId} {args:Array Value} {μ0:aH} {Q:PM→aH→Value→Prop} (h:Ct P f args G [] Q) {E:Nat} {R:List Y→Prop} (hQ:∀ G' μ' u,Q G' μ' u→∃ L,R L∧μ'=[rB u E L]) :
  Ct P f args G [] (fun G' μ' u=>∃ (s:Sh) (L:List Y),R L∧μ'=[]∧u=s.val L.length∧SlR G' 1 aQ s L):=by
 intro w hs
 refine (h w hs).mono ?_
 rintro e w' ⟨v,G',μ',rfl,ht,hp⟩
 obtain ⟨L,hL,rfl⟩:=hQ _ _ _ hp
 obtain ⟨G2,s,h1,h2,h3,h4⟩:=ht.frzB (by intro b hb; cases hb)
 exact ⟨v,G2,[],rfl,h4,s,L,hL,rfl,h2,h3⟩
theorem aNt (m:Nat):(madeCells (Value.int .u8 0).cells m).toList=(List.replicate m (0#8)).map V:=by
 have hc:(Value.int .u8 0).cells = #[.int .u8 0]:=rfl
 rw [hc]
 unfold madeCells
 rw [Array.toList_map]
 refine List.ext_getElem? fun j=>?_
 by_cases hj:j<m
 ·simp [hj,Nat.mod_one]; rfl
 simp [hj]
theorem wW {T E:Nat} {x y:Operand} {a b:Int} {k k':IntKind} (lo cap:Nat) (ho:nth l i=some ⟨some d,.makeSlice T x y,t,p,af,none⟩) (hT:cL P T=some (E,1,1)) (hz:(P.info? E).bind (·.zero)=some (.int .u8 0)) (hx:Ev ρ true x (.int k a)) (hy:Ev ρ true y (.int k' b)) (ha:a=lo) (hb:b=cap) (h1:lo≤cap) (h2:cap≤140737488355328)
  (h:∀ b,Wo dr mc P n l K σ ((d,true,.slice (some ⟨b,0,none⟩) lo cap) :: ρ) G (rB (.slice (some ⟨b,0,none⟩) lo cap) E (List.replicate lo 0#8) :: μ)):Wo dr mc P n l K (i :: σ) ρ G μ:=by
 subst ha; subst hb
 refine .act (μ₁:=[]) (μ₂:=μ) (post:=fun G' μ' v=>∃ b,G'=G∧v=.slice (some ⟨b,0,none⟩) lo cap∧μ'=[rB (.slice (some ⟨b,0,none⟩) lo cap) E (List.replicate lo 0#8)]) ho (.inl rfl) .no (.refl _) (fun q w hq hs=>.inl ?_) ?_
 ·obtain ⟨hu,inf,hi,hs1,hb1⟩:=gE hT
  rw [hi] at hz
  simp only [Option.bind_some] at hz
  have hrun:=run_make (P:=P) w T E inf _ hu hi hz k k' lo cap (by omega) (by omega) (by rw [hb1]; omega) (by omega)
  simp only [Int.toNat_natCast,hs1,Nat.mul_one] at hrun
  have h0:Tr G (keys []) w G [.blk w.heap.size (.cells (madeCells (Value.int .u8 0).cells cap) E (0,0))] _:=(oC (Sat.left (μ:=[]) hs)).alloc _
  refine ⟨_,_,G,_,.inl (by simp [execOp,hx.eval hq rfl,hy.eval hq rfl,hrun]),h0.asRow (m:=lo) (cap:=cap) (sz:=1) (xs:=(List.replicate lo 0#8).map V) (by simp) h1 (by unfold maxLen; omega) (by rw [size_madeCells]; omega) ?_,w.heap.size,rfl,rfl,by simp [rB]⟩
  rw [aNt,←List.map_take]
  simp [Nat.min_eq_left h1]
 rintro v G' μ'' _ ⟨b,rfl,rfl,rfl⟩
 exact h b
theorem s1r {T E m cap b o:Nat} {x y:Operand} {z:Y} {xs:List Y} {μ':aH} (ho:nth l i=some ⟨none,.store T x y,t,p,af,none⟩) (hx:Ev ρ true x (.pointer (some ⟨b,o,none⟩))) (hy:Ev ρ true y (V z)) (hz:dL P T=some 1)
  (hm:MTake μ (rB (.slice (some ⟨b,0,none⟩) m cap) E xs) μ') (hl:o<xs.length) (h:∀ L,L=xs.set o z→L.length=xs.length→Wo dr mc P n l K σ ρ G (rB (.slice (some ⟨b,0,none⟩) m cap) E L :: μ')):Wo dr mc P n l K (i :: σ) ρ G μ:=by
 refine .act (μ₁:=[rB (.slice (some ⟨b,0,none⟩) m cap) E xs]) (μ₂:=μ') (post:=fun G' μ' v=>G'=G∧μ'=[rB (.slice (some ⟨b,0,none⟩) m cap) E (xs.set o z)]∧v=undef) ho (.inl rfl) .no hm.perm (fun a w ha hs=>.inl ?_) ?_
 ·have hs':=hs.left
  have hrow:w.ownsRow 0 E 1 (.slice (some ⟨b,0,none⟩) m cap) xs.length (xs.map V):=hs'.own _ (List.mem_singleton.2 rfl)
  rcases hrow.2 with ⟨e,_⟩ | ⟨g,cap',cur,e,_,hg,hnc,hcm,hcs,htake⟩
  ·cases e
  simp only [Value.slice.injEq,Option.some.injEq,Addr.mk.injEq,and_true,true_and] at e
  obtain ⟨rfl,rfl,rfl⟩:=e
  have hk:keys [rB (.slice (some ⟨b,0,none⟩) xs.length cap) E xs]=[b]:=by simp [keys,Res.keys,Value.ownBlock]
  have hsat:Sat G [.blk b (.cells cur E (0,0))] w:=⟨hs'.sub,fun r hr=>by rw [List.mem_singleton.1 hr]; exact hg,fun c hc=>hs'.apart c (by simpa [keys,Res.keys,Value.ownBlock] using hc),by simp [keys,Res.keys]⟩
  have hsz:o<cur.size:=by rw [hcs]; omega
  have hst:=run_storeCells_at P b o E [V z] 0 cur w hg (by simp; omega) (by intro v hv; rw [List.mem_singleton.1 hv]; rfl)
  simp only [Nat.add_zero,List.length_singleton] at hst
  have h2:=(uD (cs':=(cur.toList.take o++[V z]++cur.toList.drop (o+1)).toArray) hsat).asRow (m:=xs.length) (cap:=cap) (sz:=1) (xs:=(xs.set o z).map V) (by simp) hnc hcm ?_ ?_
  ·refine ⟨undef,_,G,_,.inr ⟨?_,rfl⟩,by rw [hk]; exact h2,rfl,by simp [rB],rfl⟩
   cases hi:P.info? T with
   | none=>simp [dL,hi] at hz
   | some inf =>
    simp only [dL,hi,Option.map_some,Option.some.injEq] at hz
    have hvc:(V z).cells = #[V z]:=rfl
    simp only [execOp,hx.eval ha rfl,hy.eval ha rfl]
    simp [Instr.storeAt,Instr.sureAddr,storeVar,hvc,sizeOf,typeInfo,hi,hz,hst]
  ·simp; omega
  have h3:cur.toList.take o++[V z]++cur.toList.drop (o+1)=cur.toList.set o (V z):=by
   rw [List.set_eq_take_append_cons_drop,if_pos (by simpa using hsz)]; simp
  rw [h3,List.map_set,←htake]
  refine List.ext_getElem? fun j=>?_
  simp only [List.getElem?_take,List.getElem?_set,Nat.mul_one]
  by_cases hj:j<xs.length
  ·by_cases he:o=j
   ·subst he; simp [hj,hsz]; omega
   simp [hj,he]
  by_cases he:o=j
  ·omega
  simp [hj,he]
 rintro v G' μ'' _ ⟨rfl,rfl,rfl⟩
 exact h _ rfl (by simp)
def cZ (xs:List Y):ByteArray:=(xs.map fun y=>(y.toNat:Int)).foldl (fun r n=>r.push (UInt8.ofNat n.toNat)) ByteArray.empty
theorem zG (xs:List Y):(cZ xs).data.toList=xs.map fun y=>UInt8.ofNat y.toNat:=by
 have key:∀ (ns:List Int) (s:ByteArray),(ns.foldl (fun r n=>r.push (UInt8.ofNat n.toNat)) s).data.toList=s.data.toList++ns.map fun n=>UInt8.ofNat n.toNat:=by
  intro ns
  induction ns with
  | nil=>intro s; simp
  | cons n ns ih=>intro s; rw [List.foldl_cons,ih]; simp
 unfold cZ
 rw [key]
 simp [Function.comp_def]
theorem aFU {xs ys:List Y} (h:cZ xs=cZ ys):xs=ys:=by
 have h1:(cZ xs).data.toList=(cZ ys).data.toList:=by rw [h]
 rw [zG,zG] at h1
 have hinj:∀ a b:Y,UInt8.ofNat a.toNat=UInt8.ofNat b.toNat→a=b:=by
  intro a b hab
  have:=congrArg UInt8.toNat hab
  rw [UInt8.toNat_ofNat',UInt8.toNat_ofNat'] at this
  have ha:=a.isLt; have hb:=b.isLt
  exact BitVec.eq_of_toNat_eq (by omega)
 clear h
 induction xs generalizing ys with
 | nil=>cases ys with
  | nil=>rfl
  | cons b ys=>simp at h1
 | cons a xs ih=>cases ys with
  | nil=>simp at h1
  | cons b ys =>
   simp only [List.map_cons,List.cons.injEq] at h1
   rw [hinj a b h1.1,ih h1.2]
theorem aFT (xs ys:List Y):((cZ xs).toList == (cZ ys).toList)=decide (xs=ys):=by
 rw [ByteArray.toList_eq,ByteArray.toList_eq]
 by_cases h:xs=ys
 ·subst h; simp
 ·have:¬ (cZ xs).data.toList=(cZ ys).data.toList:=fun e=>h (aFU (ByteArray.ext (Array.toList_inj.1 e)))
  simp [h]
  exact fun e=>this (by rw [e])
theorem aFV (xs:List Y):(cZ xs).size=xs.length:=by
 have:=congrArg List.length (zG xs)
 simpa using this
def bsT (P:Program) (S D:TypeId):Bool:=match P.underlying S,P.underlying D with
 | some (.slice e),some .string=>match P.underlying e with | some (.int .u8)=>true | _=>false
 | _,_=>false
theorem sB {S D:TypeId} {x:Operand} {u:Value} {ys:List Y} (ho:nth l i=some ⟨some d,.convert S D x,t,p,af,g⟩) (hg:Gd l ρ g c) (hS:bsT P S D=true) (hx:Ev ρ c x u) (hs:c=true→Sc G μ u ys)
  (h:Wo dr mc P n l K σ ((d,c,.string (cZ ys)) :: ρ) G μ):Wo dr mc P n l K (i :: σ) ρ G μ :=
 .read ho (.inl rfl) hg (fun hc a w ha hsat=>by
  unfold bsT at hS
  split at hS
  ·rename_i e h1 h2
   split at hS
   ·rename_i h3
    obtain ⟨oa,cap,rfl,hr⟩:=(hs hc).ex
    have hconv:=run_convert_bytes_string w S D e oa ys.length cap h1 h3 h2
    have hb:(Conv.bytesToString (.slice oa ys.length cap)).run P w=.ok (.string (cZ ys)) w:=by
     cases oa with
     | none =>
      have:ys=[]:=by
       cases ys with
       | nil=>rfl
       | cons y ys=>obtain ⟨b,o,h,_⟩:=hr (by simp); cases h
      subst this
      simp [Conv.bytesToString]; rfl
     | some ad =>
      have hl:(loadCells ad ys.length).run P w=.ok ((ys.map fun y=>(y.toNat:Int)).map (Value.int .u8)).toArray w:=by
       have e1:(ys.map fun y=>(y.toNat:Int)).map (Value.int .u8)=ys.map V:=by rw [List.map_map]; rfl
       rw [e1]
       rcases Nat.eq_zero_or_pos ys.length with h0 | h0
       ·have:ys=[]:=List.eq_nil_of_length_eq_zero h0
        subst this
        simp [loadCells,loadCellsFrom]
       ·obtain ⟨b,o,e2,hrd⟩:=hr h0
        simp only [Option.some.injEq] at e2
        subst e2
        exact aIh hrd hsat (by simp)
      exact run_bytesToString w ad ys.length cap _ hl
    simp [execOp,hx.eval ha hc,hconv,hb]
   ·cases hS
  ·cases hS) h
theorem wG {T T':TypeId} {x y:Operand} {xs ys:List Y} (ho:nth l i=some ⟨some d,.binOp .neq T x y T',t,p,af,g⟩) (hg:Gd l ρ g c) (hx:Ev ρ c x (.string (cZ xs))) (hy:Ev ρ c y (.string (cZ ys)))
  (h:Wo dr mc P n l K σ ((d,c,.bool (!decide (xs=ys))) :: ρ) G μ):Wo dr mc P n l K (i :: σ) ρ G μ:=cs ho hg hx hy (by rw [aCv,aFT]) h
def xA (P:Program) (T:TypeId):Bool:=match P.underlying T with | some (.pointer _)=>true | _=>false
theorem aIg {T:TypeId} {a:Addr} (hT:xA P T=true) (w:World):(Op.equal T (.pointer (some a)) (.pointer none)).run P w=.ok false w:=by
 unfold xA at hT
 split at hT
 ·rename_i e hu
  unfold Op.equal
  rw [show Op.maxDepth=9999+1 from rfl,Op.equalIn]
  simp [run_underlying hu]
 ·cases hT
theorem pn {T T':TypeId} {x y:Operand} {a:Addr} (ho:nth l i=some ⟨some d,.binOp .neq T x y T',t,p,af,g⟩) (hg:Gd l ρ g c) (hT:xA P T=true) (hx:Ev ρ c x (.pointer (some a))) (hy:Ev ρ c y (.pointer none)) (h:Wo dr mc P n l K σ ((d,c,.bool true) :: ρ) G μ):Wo dr mc P n l K (i :: σ) ρ G μ :=
 .pure ho (.inl rfl) hg (fun hc q w ha=>by
  have hq:(eqGuard .neq T x y (.pointer (some a)) (.pointer none)).run P w=.ok () w:=by unfold eqGuard; simp
  simp [execOp,hx.eval ha hc,hy.eval ha hc,hq,binOp,aIg hT]) h
theorem pe {T T':TypeId} {x y:Operand} {a:Addr} (ho:nth l i=some ⟨some d,.binOp .eql T x y T',t,p,af,g⟩) (hg:Gd l ρ g c) (hT:xA P T=true) (hx:Ev ρ c x (.pointer (some a))) (hy:Ev ρ c y (.pointer none)) (h:Wo dr mc P n l K σ ((d,c,.bool false) :: ρ) G μ):Wo dr mc P n l K (i :: σ) ρ G μ :=
 .pure ho (.inl rfl) hg (fun hc q w ha=>by
  have hq:(eqGuard .eql T x y (.pointer (some a)) (.pointer none)).run P w=.ok () w:=by unfold eqGuard; simp
  simp [execOp,hx.eval ha hc,hy.eval ha hc,hq,binOp,aIg hT]) h
theorem oF {T E sz by':Nat} (ho:nth l i=some ⟨some d,.buildSlice T 0 #[],t,p,af,none⟩) (hT:cL P T=some (E,sz,by'))
  (h:∀ b,Wo dr mc P n l K σ ((d,true,.slice (some ⟨b,0,none⟩) 0 0) :: ρ) G (.blk b (cl [] E) :: μ)):Wo dr mc P n l K (i :: σ) ρ G μ :=
 .box (ob:=cl [] E) (mkv:=fun b=>.slice (some ⟨b,0,none⟩) 0 0) ho (.inl rfl) rfl (fun a w ha=>by
  obtain ⟨hu,inf,hi,hs1,_⟩:=gE hT
  simp [execOp,Instr.buildSlice,run_underlying hu,sizeOf,typeInfo,hi,Instr.fill,newRow,cl]
  rw [show Array.map (fun _=>(default:Value)) (Array.range 0) = #[] from by simp [Array.eq_empty_iff_size_eq_zero]]) h
theorem Sat.toRow {E b:Nat} {w:World} (h:Sat G [.blk b (cl [] E)] w):Sat G [rB (.slice (some ⟨b,0,none⟩) 0 0) E []] w :=
 ((oC h).toRow (m:=0) (sz:=1) (by simp) (Nat.zero_le _)).sat
theorem oD {T E b:Nat} {x y:Operand} {u:Value} {ys:List Y} {μ':aH} (ho:nth l i=some ⟨some d,.call { callee:=.builtin .append,args:=#[x,y],argTypes:=#[T,T] },t,p,af,none⟩)
  (hT:cL P T=some (E,1,1)) (hz:(P.info? E).bind (·.zero)=some (.int .u8 0)) (hx:Ev ρ true x (.slice (some ⟨b,0,none⟩) 0 0)) (hy:Ev ρ true y u) (hm:MTake μ (.blk b (cl [] E)) μ') (hs:Sc G μ u ys) (hb:ys.length≤140737488355328)
  (h:∀ v' L ν,v'.oneCell'=true→L=ys→Wo dr mc P n l K σ ((d,true,v') :: ρ) G (rB v' E L :: (μ'++ν))):Wo dr mc P n l K (i :: σ) ρ G μ:=by
 obtain ⟨oa,cap,rfl,hr⟩:=hs.ex
 clear hs
 have hrun0:∀ a w,Ag n ρ a→Sat G ([.blk b (cl [] E)]++μ') w→∃ v' w',(execOp a.eval ⟨some d,.call { callee:=.builtin .append,args:=#[x,y],argTypes:=#[T,T] },t,p,af,none⟩).run P w=.ok (.value v') w'∧Tr G (keys [.blk b (cl [] E)]) w G [rB v' E ys] w':=by
  intro a w ha hs
  have hrow:=Sat.toRow hs.left
  obtain ⟨v',w',hrun,ht⟩:=aAI (ty:=t) (cp:=cap) (m:=0) (xs:=[]) (news:=ys.map V) (k:=ys.length) (oa:=oa) hT hz rfl hrow (by simp) (fun hk=>by
   obtain ⟨b,o,h1,h2⟩:=hr hk
   exact ⟨b,o,h1,fun j u hj=>h2 j u hj w (hs.perm hm.perm.symm)⟩) (aBk ys) (by omega) (by unfold maxLen; omega)
  refine ⟨v',w',by simp [execOp,resolve,invoke,builtin,hx.eval ha rfl,hy.eval ha rfl,hrun],?_⟩
  simpa [keys,Res.keys,Value.ownBlock] using ht
 by_cases hmc:mc.a=true
 ·refine .fresh (μ₁:=[.blk b (cl [] E)]) (μ₂:=μ') (post:=fun G' μa μb v'=>G'=G∧v'.oneCell'=true∧μa=[rB v' E ys]∧Weak (μa++μb) [.blk b (cl [] E)]) ho (.inl (by simp [cA,hmc])) rfl hm.perm (fun a w ha hs=>?_) (fun v G' μa μb hq=>hq.2.2.2) ?_
  ·by_cases hy0:ys.length=0
   ·
    obtain ⟨v',w',h1,h2⟩:=hrun0 a w ha hs
    have hys:ys=[]:=List.eq_nil_of_length_eq_zero hy0
    subst hys
    have hb0:w.heap[b]? = some (cl [] E):=hs.own _ (List.mem_append_left _ (List.mem_singleton.2 rfl))
    obtain ⟨hu,inf,hi,hs1,hb1⟩:=gE hT
    have hv:v'=.slice (some ⟨b,0,none⟩) 0 0:=by
     have hrun:(execOp a.eval ⟨some d,.call { callee:=.builtin .append,args:=#[x,y],argTypes:=#[T,T] },t,p,af,none⟩).run P w=.ok (.value (.slice (some ⟨b,0,none⟩) 0 0)) w:=by
      simp only [execOp,resolve,invoke,builtin,hx.eval ha rfl,hy.eval ha rfl]
      cases oa<;>simp [hx.eval ha rfl,hy.eval ha rfl,Builtin.append_,run_underlying hu,sizeOf,typeInfo,hi,Builtin.lenOf,Builtin.firstCells,loadCells,loadCellsFrom,storeCells]
     rw [hrun] at h1
     simp only [Result.ok.injEq,Next.value.injEq] at h1
     exact h1.1.symm
    refine ⟨v',w',G,[rB v' E []],[],h1,h2,rfl,h2.sat.rowOne,rfl,?_⟩
    subst hv
    refine ⟨fun w1 hw1 r hr1=>?_,fun c hc=>?_,by simp [keys,Res.keys]⟩
    ·rw [List.mem_singleton.1 hr1]
     have hrow:w1.ownsRow 0 E 1 (.slice (some ⟨b,0,none⟩) 0 0) 0 []:=hw1 _ (List.mem_singleton.2 rfl)
     rcases hrow.2 with ⟨e,_⟩ | ⟨g,cap',cur,e,_,hg,hnc,hcm,hcs,htake⟩
     ·cases e
     simp only [Value.slice.injEq,Option.some.injEq,Addr.mk.injEq,and_true,true_and] at e
     obtain ⟨rfl,rfl⟩:=e
     have:cur = #[]:=Array.eq_empty_of_size_eq_zero (by simpa using hcs)
     subst this
     exact hg
    simpa [keys,Res.keys,Value.ownBlock] using hc
   have hb0:w.heap[b]? = some (cl [] E):=hs.own _ (List.mem_append_left _ (List.mem_singleton.2 rfl))
   obtain ⟨hu,inf,hi,hs1,hb1⟩:=gE hT
   have hz':=hz
   rw [hi] at hz'
   simp only [Option.bind_some] at hz'
   obtain ⟨b2,o2,rfl,hrd⟩:=hr (by omega)
   have hnews:∀ j u,(ys.map V)[j]? = some u→w.cell? ((⟨b2,o2,none⟩ : Addr).add j)=some u:=fun j u hj=>by rw [jD]; exact hrd j u hj w (hs.perm hm.perm.symm)
   have hrun:=run_append_grow (P:=P) w T t E inf _ hu hi hz' ⟨b,0,none⟩ 0 0 [] (by simp) (fun j u hj=>by simp at hj) ⟨b2,o2,none⟩ ys.length cap (ys.map V) (by rw [hs1]; simp) hnews (by omega) (by omega) (growslice_fits (by omega) (by rw [hb1]; omega))
   have h2:=((oC hs.left).drew).alloc (.cells (([]:List Value).toArray++(ys.map V).toArray++Builtin.zeroCells (Value.int .u8 0).cells (grownCap w (0+ys.length) 0 E-(0+ys.length))) E)
   have hge:=grownCap_ge w (0+ys.length) 0 E
   have h3:=h2.asRow (m:=ys.length) (cap:=grownCap w (0+ys.length) 0 E) (sz:=1) (xs:=ys.map V) (by simp) (by omega) (grownCap_le_maxLen w (0+ys.length) 0 E (by unfold maxLen; omega)) (by
    simp only [Array.size_append,List.size_toArray,size_zeroCells,List.length_map,List.length_nil]
    have:(Value.int .u8 0).cells.size=1:=rfl
    rw [this]; omega) (by simp)
   refine ⟨_,_,G,[_],[.blk b (cl [] E)],?_,h3,rfl,?_,rfl,?_⟩
   ·simp only [Nat.zero_add] at hrun ⊢
    simp [execOp,resolve,invoke,builtin,hx.eval ha rfl,hy.eval ha rfl,hrun]
   ·rfl
   refine ⟨fun w1 hw1 r hr1=>hw1 r (List.mem_cons_of_mem _ hr1),fun c hc=>?_,by simp [keys,Res.keys]⟩
   rw [iV]
   exact List.mem_append_right _ hc
  rintro v' G' μa μb _ ⟨rfl,h1,rfl,_⟩
  exact h v' _ μb h1 rfl
 refine .act (μ₁:=[.blk b (cl [] E)]) (μ₂:=μ') (post:=fun G' μ' v'=>G'=G∧v'.oneCell'=true∧μ'=[rB v' E ys]) ho (.inl (by simp [cA,hmc])) .no hm.perm (fun a w ha hs=>.inl ?_) ?_
 ·obtain ⟨v',w',h1,h2⟩:=hrun0 a w ha hs
  exact ⟨v',w',G,[rB v' E ys],.inl h1,h2,rfl,h2.sat.rowOne,rfl⟩
 rintro v' G' μ'' _ ⟨rfl,h1,rfl⟩
 have:=h v' _ [] h1 rfl
 rwa [List.append_nil] at this
theorem sD {X:Cx} {cd:Code} {k:List KI} (E:Nat) (h:Wk X cd k ρ G (rB (.slice none 0 0) E [] :: μ)):Wk X cd k ρ G μ:=aAU E 1 h
theorem vJ {X:Cx} {e:Exit} {k:List KI} (E:Nat) (h:We X e k ρ G (rB (.slice none 0 0) E [] :: μ)):We X e k ρ G μ:=aJo E 1 h
theorem dA {k:IntKind} {a b:Int} (h:a=b):Value.int k a=Value.int k b:=by rw [h]
abbrev PR (E:Nat) (R:List Y→Prop):PM→aH→Value→Prop:=fun _ μ' u=>∃ L,R L∧μ'=[rB u E L]
abbrev PS (R:List Y→Prop):PM→aH→Value→Prop:=fun G' μ' u=>∃ (s:Sh) (L:List Y),R L∧μ'=[]∧u=s.val L.length∧SlR G' 1 aQ s L
theorem Ct.frzB {f:FuncId} {args:Array Value} {E:Nat} {R:List Y→Prop} (h:Ct P f args G [] (PR E R)):Ct P f args G [] (PS R):=aJ1 (μ0:=[]) h (fun _ _ _ h=>h)
theorem RdNP.wat {b m:Nat} {y:Nat→W} (h:RdNP G b 0 (wa m y)) {j:Int} (a:Nat) (hj:0+j.toNat*1=a) (ha:a<m):RdP G ⟨b,0+j.toNat*1,none⟩ (U (y a)):=by
 rw [hj]; have:=h a _ (tO ha); rwa [Nat.zero_add] at this
theorem cn {S D:TypeId} {x:Operand} {k:IntKind} {a:BitVec k.bits} (ho:nth l i=some ⟨some d,.convert S D x,t,p,af,g⟩) (hg:Gd l ρ g c) (hk:jF P S D=some .i64) (hb:k.bits≤32) (hx:Ev ρ c x (uv k a))
  (h:∀ m:Nat,m=a.toNat→m<2^k.bits→Wo dr mc P n l K σ ((d,c,.int .i64 (m:Int)) :: ρ) G μ):Wo dr mc P n l K (i :: σ) ρ G μ :=
 cw ho hg hk hx (fun _=>bO (by omega) (by
  have h1:=a.isLt
  have h2:2^k.bits≤2^32:=Nat.pow_le_pow_right (by decide) hb
  omega)) (h a.toNat rfl a.isLt)
def PM.del (G:PM) (b:Nat):PM:=fun c=>if c=b then none else G c
theorem bL {μ μ1:aH} {r1:Res} (h1:MTake μ r1 μ1):μ.Perm ([r1]++μ1):=h1.perm
theorem gT {μ μ1 μ2:aH} {r1 r2:Res} (h1:MTake μ r1 μ1) (h2:MTake μ1 r2 μ2):μ.Perm ([r1,r2]++μ2):=h1.perm.trans (h2.perm.cons _)
theorem aHM {μ μ1 μ2 μ3:aH} {r1 r2 r3:Res} (h1:MTake μ r1 μ1) (h2:MTake μ1 r2 μ2) (h3:MTake μ2 r3 μ3):μ.Perm ([r1,r2,r3]++μ3):=h1.perm.trans ((h2.perm.trans (h3.perm.cons _)).cons _)
theorem aCJ {f:FuncId} {args:Array Value} {b:Nat} {o:Obj} {Q:aH→Value→Prop} (h:Ct P f args (G.add b o) μ (fun _ μ' u=>Q μ' u)):Ct P f args G (.blk b o :: μ) (fun _ μ' u=>∃ ν,μ'=.blk b o :: ν∧Q ν u):=by
 intro w hs
 have hk:keys (.blk b o :: μ)=b :: keys μ:=by simp [keys,Res.keys]
 have hnd:=hs.nodup
 rw [hk] at hnd
 have hbμ:=(List.nodup_cons.1 hnd).1
 have hbo:w.heap[b]? = some o:=hs.own _ (List.mem_cons_self ..)
 have hs2:Sat (G.add b o) μ w:=by
  refine ⟨fun c u hc=>?_,fun r hr=>hs.own r (List.mem_cons_of_mem _ hr),fun c hc=>?_,(List.nodup_cons.1 hnd).2⟩
  ·unfold PM.add at hc
   split at hc
   ·rename_i e; subst e; cases hc; exact hbo
   exact hs.sub c u hc
  unfold PM.add
  rw [if_neg (fun (e:c=b)=>hbμ (e▸hc))]
  exact hs.apart c (by rw [hk]; exact List.mem_cons_of_mem _ hc)
 refine (h w hs2).mono ?_
 rintro e w' ⟨v,G',μ',rfl,ht,hQ⟩
 have hGb:G' b=some o:=ht.le b o hbμ (gI G b o)
 have hk':keys (.blk b o :: μ')=b :: keys μ':=by simp [keys,Res.keys]
 have hbμ':b∉keys μ':=fun hm=>by have:=ht.sat.apart b hm; rw [hGb] at this; cases this
 refine ⟨v,G'.del b,.blk b o :: μ',rfl,⟨⟨fun c u hc=>?_,fun r hr=>?_,fun c hc=>?_,?_⟩,ht.os,ht.tape,ht.output,ht.size,fun c hc hK=>?_,fun c hc=>?_,fun c u hK hc=>?_⟩,μ',rfl,hQ⟩
 ·unfold PM.del at hc
  split at hc
  ·cases hc
  exact ht.sat.sub c u hc
 ·rcases List.mem_cons.1 hr with rfl | hr
  ·exact ht.sat.sub b o hGb
  exact ht.sat.own r hr
 ·rw [hk'] at hc
  unfold PM.del
  split
  ·rfl
  rename_i hne
  rcases List.mem_cons.1 hc with e | hc
  ·exact absurd e hne
  exact ht.sat.apart c hc
 ·rw [hk']; exact List.nodup_cons.2 ⟨hbμ',ht.sat.nodup⟩
 ·rw [hk] at hK
  have hne:c≠b:=fun e=>hK (by rw [e]; exact List.mem_cons_self ..)
  have h1:=ht.old c hc (fun hm=>hK (List.mem_cons_of_mem _ hm))
  refine ⟨h1.1,?_⟩
  unfold PM.del
  rw [if_neg hne,h1.2]
  unfold PM.add
  rw [if_neg hne]
 ·rw [hk'] at hc
  rw [hk]
  rcases List.mem_cons.1 hc with rfl | hc
  ·exact .inl (List.mem_cons_self ..)
  rcases ht.mine c hc with h1 | h1
  ·exact .inl (List.mem_cons_of_mem _ h1)
  exact .inr h1
 rw [hk] at hK
 have hne:c≠b:=fun e=>hK (by rw [e]; exact List.mem_cons_self ..)
 unfold PM.del
 rw [if_neg hne]
 exact ht.le c u (fun hm=>hK (List.mem_cons_of_mem _ hm)) (by unfold PM.add; rw [if_neg hne]; exact hc)
theorem aCK {f:FuncId} {args:Array Value} {E:Nat} {v:Value} {xs:List Y} {Q:aH→Value→Prop}
  (h:∀ (s:Sh) (G2:PM),PM.le G G2→v=s.val xs.length→SlR G2 1 aQ s xs→Ct P f args G2 μ (fun _ μ' u=>Q μ' u)):Ct P f args G (rB v E xs :: μ) (fun _ μ' u=>∃ ν,μ'=rB v E xs :: ν∧Q ν u):=by
 intro w hs
 have hrow:w.ownsRow 0 E 1 v xs.length (xs.map V):=hs.own _ (List.mem_cons_self ..)
 have hnd:=hs.nodup
 rcases hrow.2 with ⟨rfl,h0⟩ | ⟨g,cap,cur,rfl,_,hg,hnc,hcm,hcs,htake⟩
 ·have hx:xs=[]:=List.eq_nil_of_length_eq_zero h0
  subst hx
  have hk:keys (rB (.slice none 0 0) E [] :: μ)=keys μ:=by simp [keys,Res.keys,Value.ownBlock]
  have hs2:Sat G μ w:=⟨hs.sub,fun r hr=>hs.own r (List.mem_cons_of_mem _ hr),by rw [← hk]; exact hs.apart,by rw [← hk]; exact hs.nodup⟩
  refine (h ⟨none,0⟩ G (PM.le.refl G) rfl SlR.nul w hs2).mono ?_
  rintro e w' ⟨u,G',μ',rfl,ht,hQ⟩
  refine ⟨u,G',_,rfl,?_,μ',rfl,hQ⟩
  rw [hk]; exact ht.nilRow
 have hk:keys (rB (.slice (some ⟨g,0,none⟩) xs.length cap) E xs :: μ)=keys (.blk g (.cells cur E (0,0)) :: μ):=by simp [keys,Res.keys,Value.ownBlock]
 have hs2:Sat G (.blk g (.cells cur E (0,0)) :: μ) w:=by
  refine ⟨hs.sub,fun r hr=>?_,by rw [← hk]; exact hs.apart,by rw [← hk]; exact hs.nodup⟩
  rcases List.mem_cons.1 hr with rfl | hr
  ·exact hg
  exact hs.own r (List.mem_cons_of_mem _ hr)
 have hGg:G g=none:=hs2.apart g (by simp [keys,Res.keys])
 have hsl:SlR (G.add g (.cells cur E (0,0))) 1 aQ ⟨some ⟨g,0,none⟩,cap⟩ xs:=by
  refine SlR.ofRow (fun _ _=>rfl) hnc (fun _=>rfl) ?_
  rw [uN]
  intro j u hj w' hs'
  show w'.cell? ⟨g,0+j,none⟩=some u
  rw [Nat.zero_add,cell_of_row w' g j cur E (0,0) (hs' g _ (gI G g _))]
  rw [← htake,List.getElem?_take] at hj
  split at hj
  ·simpa using hj
  cases hj
 refine (aCJ (h ⟨some ⟨g,0,none⟩,cap⟩ _ (sK hGg) rfl hsl) w hs2).mono ?_
 rintro e w' ⟨u,G',μ',rfl,ht,ν,rfl,hQ⟩
 refine ⟨u,G',_,rfl,?_,ν,rfl,hQ⟩
 rw [hk]
 exact ht.asRow (by simp) hnc hcm hcs htake
theorem Ct.mono {f:FuncId} {args:Array Value} {Q Q':PM→aH→Value→Prop} (h:Ct P f args G μ Q) (hq:∀ G' μ' u,Q G' μ' u→Q' G' μ' u):Ct P f args G μ Q':=by
 intro w hs
 refine (h w hs).mono ?_
 rintro e w' ⟨u,G',ν,rfl,ht,hQ⟩
 exact ⟨u,G',ν,rfl,ht,hq _ _ _ hQ⟩
theorem dK {T:TypeId} {ps:List (Nat×Operand)} {vs:List Value} {ws:List (List Value)} {zs:List Value} {pls:List (Nat×Nat)} (cs:List Value) (ho:nth l i=some ⟨some d,.build T ps.toArray,t,p,af,g⟩) (hg:Gd l ρ g c) (hF:eS P T (ps.map (·.1))=some (zs,pls)) (hv:EvC n ρ c ps vs ws) (hb:uF zs.length pls ws=true) (he:qG zs pls ws=cs)
  (h:Wo dr mc P n l K σ ((d,c,.agg cs.toArray) :: ρ) G μ):Wo dr mc P n l K (i :: σ) ρ G μ:=bC ho hg hF hv hb (by rw [he]; exact h)
theorem dE {T T' E sz m:TypeId} {x y:Operand} {b o:Nat} {v:Value} {xs cs cs':List Value} {μ' μ2:aH} (ho:nth l i=some ⟨none,.store T x y,t,p,af,none⟩) (hx:Ev ρ true x (.pointer (some ⟨b,o,none⟩))) (hy:Ev ρ true y v) (hr:MTake μ (.row v E sz m xs) μ2) (hz:dL P T=some 1)
  (hm:MTake μ (.blk b (cl cs T')) μ') (hl:o<cs.length) (hcs:cs.set o v=cs') (h:Wo dr mc P n l K σ ρ G (.blk b (cl cs' T') :: μ')):Wo dr mc P n l K (i :: σ) ρ G μ:=by
 refine .act (μ₁:=[.blk b (cl cs T')]) (μ₂:=μ') (post:=fun G' μ' v=>G'=G∧μ'=[.blk b (cl cs' T')]∧v=undef) ho (.inl rfl) .no hm.perm (fun a w ha hs=>.inl ?_) ?_
 ·have hs':=hs.left
  have hrow:w.ownsRow 0 E sz v m xs:=(hs.perm hm.perm.symm).own _ (hr.perm.mem_iff.2 (List.mem_cons_self ..))
  have hv:v.oneCell'=true:=by rcases hrow.2 with ⟨rfl,_⟩ | ⟨g,cap,cur,rfl,_⟩<;>rfl
  have hb:w.heap[b]? = some (cl cs T'):=hs'.own _ (List.mem_singleton.2 rfl)
  have hv':v.cells = #[v]:=by cases v<;>first|rfl | cases hv
  have h2:=Tr.setRow (cs':=cs') hs'
  refine ⟨undef,w.setRow b cs'.toArray,G,_,.inr ⟨?_,rfl⟩,h2,rfl,rfl,rfl⟩
  cases hi:P.info? T with
  | none=>simp [dL,hi] at hz
  | some inf =>
   simp only [dL,hi,Option.map_some,Option.some.injEq] at hz
   have:=run_storeCells_at P b o T' [v] 0 cs.toArray w hb (by simp; omega) (by intro u hu; rw [List.mem_singleton.1 hu]; exact hv)
   simp only [Nat.add_zero,List.length_singleton] at this
   have e:cs.take o++[v]++cs.drop (o+1)=cs':=by rw [← hcs,List.set_eq_take_append_cons_drop,if_pos hl]; simp
   simp only [e] at this
   simp [execOp,hx.eval ha rfl,hy.eval ha rfl,Instr.storeAt,Instr.sureAddr,storeVar,hv',sizeOf,typeInfo,hi,hz,this]
 rintro v G' μ'' _ ⟨rfl,rfl,rfl⟩
 exact h
theorem Sat.rowSh {E sz m:Nat} {v:Value} {xs:List Value} {w:World} (hs:Sat G μ w) (hm : .row v E sz m xs∈μ):∃ (s:Sh) (b:Nat),v=s.val m∧m≤s.cap∧(0<m→s.oa=some ⟨b,0,none⟩):=by
 have hrow:w.ownsRow 0 E sz v m xs:=hs.own _ hm
 rcases hrow.2 with ⟨rfl,rfl⟩ | ⟨g,cap,cur,rfl,_,hg,hnc,_⟩
 ·exact ⟨⟨none,0⟩,0,rfl,Nat.le_refl _,fun h=>absurd h (Nat.lt_irrefl _)⟩
 ·exact ⟨⟨some ⟨g,0,none⟩,cap⟩,g,rfl,hnc,fun _=>rfl⟩
theorem aAV {X:Cx} {cd:Code} {k:List KI} {E sz m:Nat} {v:Value} {xs:List Value} {μ':aH} (hm:MTake μ (.row v E sz m xs) μ') (h:∀ (s:Sh) (b:Nat),v=s.val m→m≤s.cap→(0<m→s.oa=some ⟨b,0,none⟩)→Wk X cd k ρ G μ):Wk X cd k ρ G μ :=
 ⟨fun a w ha ht=>by
  obtain ⟨s,b,h1,h2,h3⟩:=ht.sat.rowSh (hm.perm.mem_iff.2 (List.mem_cons_self ..))
  exact (h s b h1 h2 h3).out a w ha ht⟩
theorem aCb {μ':aH} {s:Sh} {b E:Nat} {ys:List Y} (hm:MTake μ (rB (s.val ys.length) E ys) μ') (h0:0<ys.length→s.oa=some ⟨b,0,none⟩):Sc G μ (s.val ys.length) ys:=by
 refine ⟨s.oa,s.cap,rfl,fun h=>⟨b,0,h0 h,fun j v hj=>?_⟩⟩
 have e:=h0 h
 have e2:s.val ys.length=.slice (some ⟨b,0,none⟩) ys.length s.cap:=by unfold Sh.val; rw [e]
 rw [e2] at hm
 exact Rd.row hm (by rw [Nat.zero_add]; exact hj)
theorem aNZ {μ1 μ2:aH} (h:MSub μ1 μ2):∀ b∈keys μ1,b∈keys μ2:=by
 obtain ⟨ν,hν⟩:=h
 intro b hb
 exact (wS hν).mem_iff.2 (by rw [iV]; exact List.mem_append_left _ hb)
abbrev PRc (E:Nat) (R:List Y→Prop):PM→aH→Value→Prop:=fun _ μ' u=>∃ L,u.oneCell'=true∧R L∧μ'=[rB u E L]
theorem jZ {f:FuncId} {args:Array Value} {E:Nat} {R:List Y→Prop} (h:Ct P f args G μ (PR E R)):Ct P f args G μ (PRc E R):=by
 intro w hs
 refine (h w hs).mono ?_
 rintro e w' ⟨u,G',ν,rfl,ht,L,hR,rfl⟩
 exact ⟨u,G',_,rfl,ht,L,ht.sat.rowOne,hR,rfl⟩
theorem one1 {a:Value} (h:a.oneCell'=true):∀ u∈[a],u.oneCell'=true:=by intro u hu; rw [List.mem_singleton.1 hu]; exact h
theorem uY {a b:Value} (h:a.oneCell'=true) (h2:b.oneCell'=true):∀ u∈[a,b],u.oneCell'=true:=by
 intro u hu
 rcases List.mem_cons.1 hu with rfl | hu
 ·exact h
 ·rw [List.mem_singleton.1 hu]; exact h2
end
theorem aW {dr:Bool} {mc:Md} {P:Program} {n:Nat} {l:List Oper} {K:aO→PM→aH→Prop} {i:Nat} {σ:List Nat} {ρ:aO} {G:PM} {μ:aH} {d t:Nat} {p:String} {af:Array Edge} {op:BinOp} {T T':TypeId} {x y:Operand} {a1 a2 r:Int} (r':Int) (ho:nth l i=some ⟨some d,.binOp op T x y T',t,p,af,none⟩) (hx:ev ρ x=some (true,.int .i64 a1)) (hy:ev ρ y=some (true,.int .i64 a2)) (hr:wC op a1 a2=some r) (h:Wo dr mc P n l K σ ((d,true,.int .i64 r') :: ρ) G μ) (he:r=r':=by omega) (hw : -9223372036854775808≤r'∧r'≤9223372036854775807:=by omega):Wo dr mc P n l K (i :: σ) ρ G μ:=cQ r' ho .no (.u hx) (.u hy) hr (fun _=>he) (fun _=>bO (by omega) (by omega)) h
theorem aK {ρ' ρ:aO} {i:Nat} {c:Bool} {v v':Value} (h:dP ρ i=some (c,v')) (hs:ESub ρ' ρ) (hv:v'=v:=by first | rfl | exact dA (by omega)):ESub ((i,c,v) :: ρ') ρ:=ESub.cons h hv hs
theorem uZ {xs ys:List Value} (h1:∀ u∈xs,u.oneCell'=true) (h2:∀ u∈ys,u.oneCell'=true):∀ u∈xs++ys,u.oneCell'=true:=by
 intro u hu; rcases List.mem_append.1 hu with h | h
 ·exact h1 u h
 ·exact h2 u h
theorem dB {n:Nat} {y:Nat→W} {r:List Value} {j:Int} {o:Nat} (a:Nat) (hj:o+j.toNat*1=a) (h:a<n):(wa n y++r)[o+j.toNat*1]? = some (U (y a)):=by
 rw [hj,List.getElem?_append_left (by rw [bV]; exact h)]; exact tO h
theorem mJ {n:Nat} {y:Nat→W} {r:List Value} {j:Int} {z:W} {o:Nat} (a:Nat) (hj:o+j.toNat*1=a) (h:a<n):(wa n y++r).set (o+j.toNat*1) (U z)=wa n (upd y a z)++r:=by
 rw [hj,List.set_append_left _ _ (by rw [bV]; exact h)]; rw [aJk]
theorem aJ {n o:Nat} {y:Nat→W} {r:List Value} {v:Option Value} (h:r[o-n]? = v) (hn:n≤o:=by decide):(wa n y++r)[o]? = v:=by
 rw [List.getElem?_append_right (by rw [bV]; exact hn),bV]; exact h
theorem aJl {n o:Nat} {y:Nat→W} {r r':List Value} {v:Value} (h:r.set (o-n) v=r') (hn:n≤o:=by decide):(wa n y++r).set o v=wa n y++r':=by
 rw [List.set_append_right _ _ (by rw [bV]; exact hn),bV,h]
theorem qQ {xs:List Y} {j:Int} {o:Nat} (a:Nat) (hj:o+j.toNat*1=a) (h:a<xs.length):(xs.map V)[o+j.toNat*1]? = some (V (xs.getD a 0)):=by
 rw [hj]; simp [h]
theorem aJj {n:Nat} {f f':Nat→W} (h:∀ i,i<n→f i=f' i):wa n f=wa n f':=by
 unfold wa
 refine List.map_congr_left fun i hi=>?_
 rw [h i (List.mem_range.1 hi)]
def hH (x:W) (k:Nat):W:=x <<< (32-k) ||| x >>> k
theorem aQB {x:W} {k:Nat} (h:k∈[2,6,7,11,13,17,18,19,22,25]):aIU x (-(k:Int))=hH x k:=by
 simp only [List.mem_cons,List.not_mem_nil,or_false] at h
 rcases h with rfl|rfl|rfl|rfl|rfl|rfl|rfl|rfl|rfl|rfl<;>rfl
def kL:List W:=[0x428a2f98,0x71374491,0xb5c0fbcf,0xe9b5dba5,0x3956c25b,0x59f111f1,0x923f82a4,0xab1c5ed5,0xd807aa98,0x12835b01,0x243185be,0x550c7dc3,0x72be5d74,0x80deb1fe,0x9bdc06a7,0xc19bf174,0xe49b69c1,0xefbe4786,0x0fc19dc6,0x240ca1cc,0x2de92c6f,0x4a7484aa,0x5cb0a9dc,0x76f988da,0x983e5152,0xa831c66d,0xb00327c8,0xbf597fc7,0xc6e00bf3,0xd5a79147,0x06ca6351,0x14292967,0x27b70a85,0x2e1b2138,0x4d2c6dfc,0x53380d13,0x650a7354,0x766a0abb,0x81c2c92e,0x92722c85,0xa2bfe8a1,0xa81a664b,0xc24b8b70,0xc76c51a3,0xd192e819,0xd6990624,0xf40e3585,0x106aa070,0x19a4c116,0x1e376c08,0x2748774c,0x34b0bcb5,0x391c0cb3,0x4ed8aa4a,0x5b9cca4f,0x682e6ff3,0x748f82ee,0x78a5636f,0x84c87814,0x8cc70208,0x90befffa,0xa4506ceb,0xbef9a3f7,0xc67178f2]
def kW:Nat→W:=fun i=>kL.getD i 0
def ivL:List W:=[1779033703,3144134277,1013904242,2773480762,1359893119,2600822924,528734635,1541459225]
def ivW:Nat→W:=fun i=>ivL.getD i 0
def zE (b:Nat→Y) (i:Nat):W:=(b i).setWidth 32 <<< 24 ||| (b (i+1)).setWidth 32 <<< 16 ||| (b (i+2)).setWidth 32 <<< 8 ||| (b (i+3)).setWidth 32
def shB (f:Nat→Y) (i:Nat):Nat→W
 | 0=>0#32
 | c+1=>shB f i c <<< 8 ||| (f (4*i+c)).setWidth 32
theorem aQp (f:Nat→Y) (i:Nat):shB f i 4=zE f (4*i):=by
 simp only [shB,zE,BitVec.shiftLeft_or_distrib,←BitVec.shiftLeft_add,Nat.add_zero]
 simp [BitVec.shiftLeft_or_distrib,←BitVec.shiftLeft_add,BitVec.or_assoc]
def s0W (x:W):W:=hH x 7 ^^^ hH x 18 ^^^ x >>> 3
def s1W (x:W):W:=hH x 17 ^^^ hH x 19 ^^^ x >>> 10
def nV (b:Nat→Y):Nat→Nat→W
 | 0=>fun _=>0#32
 | k+1=>upd (nV b k) k (zE b (4*k))
def iN (b:Nat→Y):Nat→Nat→W
 | 0=>nV b 16
 | k+1=>upd (iN b k) (16+k) (iN b k k+iN b k (9+k)+s0W (iN b k (1+k))+s1W (iN b k (14+k)))
def chW (e f g:W):W:=g ^^^ (e &&& (f ^^^ g))
def aDV (a b c:W):W:=a &&& b ||| c &&& (a ||| b)
theorem aFY (e f g:W):(e &&& f) ^^^ (~~~e &&& g)=chW e f g:=by
 unfold chW
 apply BitVec.eq_of_getLsbD_eq
 intro i hi
 simp only [BitVec.getLsbD_xor,BitVec.getLsbD_and,BitVec.getLsbD_not,hi,decide_true,Bool.true_and]
 cases e.getLsbD i<;>cases f.getLsbD i<;>cases g.getLsbD i<;>rfl
theorem aNu (a b c:W):(a &&& b) ^^^ (a &&& c) ^^^ (b &&& c)=aDV a b c:=by
 unfold aDV
 apply BitVec.eq_of_getLsbD_eq
 intro i hi
 simp only [BitVec.getLsbD_xor,BitVec.getLsbD_and,BitVec.getLsbD_or]
 cases a.getLsbD i<;>cases b.getLsbD i<;>cases c.getLsbD i<;>rfl
def tW (x:Nat→W) (k w:W):W:=x 7+(hH (x 4) 6 ^^^ hH (x 4) 11 ^^^ hH (x 4) 25)+chW (x 4) (x 5) (x 6)+k+w
def uW (x:Nat→W):W:=(hH (x 0) 2 ^^^ hH (x 0) 13 ^^^ hH (x 0) 22)+aDV (x 0) (x 1) (x 2)
def rY (x:Nat→W) (k w:W):Nat→W:=fun i=>match i with
 | 0=>tW x k w+uW x | 1=>x 0 | 2=>x 1 | 3=>x 2 | 4=>x 3+tW x k w | 5=>x 4 | 6=>x 5 | _=>x 6
def vE (w s:Nat→W):Nat→Nat→W
 | 0=>s
 | k+1=>rY (vE w s k) (kW k) (w k)
def oR (s:Nat→W) (b:Nat→Y):Nat→W:=fun i=>s i+vE (iN b 48) s 64 i
def uG (xs:List Y) (k:Nat):Nat→Y:=fun i=>xs.getD (64*k+i) 0
def eY (xs:List Y):Nat→Nat→W
 | 0=>ivW
 | k+1=>oR (eY xs k) (uG xs k)
theorem aJh {b b':Nat→Y} (h:∀ i,i<64→b i=b' i):∀ k,k≤16→nV b k=nV b' k
 | 0,_=>rfl
 | k+1,hk=>by
  rw [nV,nV,aJh h k (by omega)]
  unfold zE
  rw [h _ (by omega),h _ (by omega),h _ (by omega),h _ (by omega)]
theorem aIn {b b':Nat→Y} (h:∀ i,i<64→b i=b' i):∀ k,iN b k=iN b' k
 | 0=>aJh h 16 (by omega)
 | k+1=>by rw [iN,iN,aIn h k]
theorem aBz {s:Nat→W} {b b':Nat→Y} (h:∀ i,i<64→b i=b' i):oR s b=oR s b':=by
 unfold oR; rw [aIn h]
theorem aQt {xs ys:List Y} {k:Nat} (h:∀ i,i<64*k→xs.getD i 0=ys.getD i 0):eY xs k=eY ys k:=by
 induction k with
 | zero=>rfl
 | succ k ih =>
  rw [eY,eY,ih (fun i hi=>h i (by omega))]
  exact aBz fun i hi=>h _ (by omega)
theorem aEA {xs ys:List Y} {k:Nat} (h:64*k≤xs.length):eY (xs++ys) k=eY xs k :=
 aQt fun i hi=>by simp [List.getD_eq_getElem?_getD,List.getElem?_append_left (show i<xs.length by omega)]
def jL (n:Nat):Nat:=(119-n%64)%64
def aNd (n:Nat):BitVec 64:=BitVec.ofInt 64 (n:Int)*8#64
def aBa (n:Nat) (j:Nat):Y:=(aNd n >>> (56-8*j)).setWidth 8
def qP (n j:Nat):List Y:=(List.range j).map (aBa n)
def aAS (n:Nat):List Y:=128#8 :: List.replicate (jL n) 0#8++qP n 8
def lF (xs:List Y):List Y:=xs++aAS xs.length
theorem aDP (n j:Nat):(qP n j).length=j:=by simp [qP]
theorem aGz (n j:Nat):qP n (j+1)=qP n j++[aBa n j]:=by simp [qP,List.range_succ]
theorem aEE (n:Nat):(aAS n).length=jL n+9:=by simp [aAS,aDP]
theorem aOg (xs:List Y):(lF xs).length%64=0:=by
 have:jL xs.length=(119-xs.length%64)%64:=rfl
 simp only [lF,List.length_append,aEE]; omega
def gM (xs:List Y):Nat→Y:=fun i=>((eY (lF xs) ((lF xs).length / 64) (i / 4)) >>> (24-8*(i%4))).setWidth 8
def aB1 (xs:List Y):List Y:=yl 32 (gM xs)
def iO (xs:List Y) (vp:Value):List Value:=wa 8 (eY xs (xs.length / 64))++[vp,.int .i64 (xs.length:Int)]
def eV (xs:List Y):List Y:=xs.drop (64*(xs.length / 64))
theorem xJ (xs:List Y):(eV xs).length=xs.length%64:=by simp [eV]; omega
theorem aJi (b:Nat→Y):∀ (k j:Nat),k≤j→nV b k j=0#32
 | 0,_,_=>rfl
 | k+1,j,h=>by rw [nV,upd,if_neg (by omega)]; exact aJi b k j (by omega)
theorem aR3 (b:Nat→Y) {k j:Nat} (h:k≤j):upd (nV b k) j 0#32=nV b k:=by
 have:=aJe (nV b k) j
 rwa [aJi b k j h] at this
theorem aGV {xs:List Y} {lo m c:Nat} (h:c<m):((xs.drop lo).take m).getD c 0=xs.getD (lo+c) 0:=by
 simp [List.getD_eq_getElem?_getD,List.getElem?_take,h,List.getElem?_drop]
theorem aRz {s x:Nat→W} {k:Nat}:upd (fun i=>if i<k then s i+x i else s i) k ((if k<k then s k+x k else s k)+x k)=fun i=>if i<k+1 then s i+x i else s i:=by
 funext i
 unfold upd
 by_cases h:i=k
 ·subst h; simp
 ·rw [if_neg h]
  by_cases h2:i<k
  ·simp [h2,show i<k+1 by omega]
  ·simp [h2,show ¬ i<k+1 by omega]
theorem sW {dr:Bool} {mc:Md} {P:Program} {n:Nat} {l:List Oper} {K:aO→PM→aH→Prop} {i:Nat} {σ:List Nat} {ρ:aO} {G:PM} {μ:aH} {t:Nat} {p:String} {af:Array Edge} {T T':TypeId} {x y:Operand} {b:Nat} {v:Value} {cs vs:List Value} {μ':aH} (ho:nth l i=some ⟨none,.store T x y,t,p,af,none⟩) (hx:ev ρ x=some (true,.pointer (some ⟨b,0,none⟩))) (hy:ev ρ y=some (true,v)) (hv:v.cells=vs.toArray) (hz:dL P T=some vs.length) (hm:MTake μ (.blk b (cl cs T')) μ') (h:Wo dr mc P n l K σ ρ G (.blk b (cl vs T') :: μ')) (hl:vs.length=cs.length:=by first | exact qE | exact qL | rfl) (h1:∀ u∈vs,u.oneCell'=true:=by first | exact jR _ _ | exact oT _ _ | exact aBk _ | decide | exact uZ (oT _ _) (by simp [Value.oneCell'])):Wo dr mc P n l K (i :: σ) ρ G μ:=sw ho (.u hx) (.u hy) hv hz hm hl h1 h
end Go.Tan
namespace Go.Proofs.YtdeobooblmjlfaaGreatDoor
open Go.Tan Go.RowKit
theorem aT1:iD Tryz.prog 202=some (wa 64 (fun _=>0#32)):=by kernel_rfl
theorem qZ:gP Tryz.prog 202=some (64,130,1):=by kernel_rfl
theorem rG:aU Tryz.prog 150=true:=by kernel_rfl
theorem pA:cO Tryz.prog 181 0=some 0:=by kernel_rfl
theorem dN:gP Tryz.prog 179=some (8,130,1):=by kernel_rfl
theorem aCN:eS Tryz.prog 179 [0,1,2,3,4,5,6,7]=some ([.int .u32 0,.int .u32 0,.int .u32 0,.int .u32 0,.int .u32 0,.int .u32 0,.int .u32 0,.int .u32 0],[(0,1),(1,1),(2,1),(3,1),(4,1),(5,1),(6,1),(7,1)]):=by kernel_rfl
theorem qS (x:W) (k:Nat) (G:PM) (hk:k∈[2,6,7,11,13,17,18,19,22,25]):Ct Tryz.prog 150 ([U x,.int .i64 (k:Int)]:List Value).toArray G [] (fun _ μ' u=>μ'=[]∧u=U (hH x k)):=by
 refine Ct.of Tryz.func150 rfl Tryz.ntmps150 rfl fun w0 hs0=>?_
 have hk2:k≤31:=by simp only [List.mem_cons,List.not_mem_nil,or_false] at hk; omega
 refine .g (ng rfl .no (.u rfl) (fun _=>bO (by omega) (by omega)) ?_)
 refine kV rfl yN (aB rfl (aB rfl aF)) (xK _ _ _) ?_
 refine aS rfl rfl (.nc (.ret (aM Tryz.results150 (.tmp rfl .nil) ?_)))
 exact ⟨rfl,by rw [← aQB hk]; rfl⟩
set_option maxHeartbeats 1000000 in
theorem aCm (s:Nat→W) (xs:List Y) (h:Sh) (vp nn:Value) (bs:Nat) (G:PM) (hs:SlR G 1 aQ h xs) (hK:RdNP G 1 0 (wa 64 kW)) (hl:64≤xs.length):Ct Tryz.prog 140 ([.pointer (some ⟨bs,0,none⟩),h.val xs.length]:List Value).toArray G [.blk bs (cl (wa 8 s++[vp,nn]) 181)] (fun _ μ' u=>μ'=[.blk bs (cl (wa 8 (oR s (fun i=>xs.getD i 0))++[vp,nn]) 181)]∧u=.tuple #[]):=by
 refine Ct.of Tryz.func140 rfl Tryz.ntmps140 rfl fun w0 hs0=>?_
 refine .seq (aL rfl rfl ?_)
 refine al rfl aT1 ?_; intro b4
 refine .nil (.code (.seq (.seq (aL rfl rfl (mV rfl rfl (.nc (.block ?_)))))))
 refine aV (α:=Nat×(Nat→W)) (fun gh=>[(24,true,.int .i64 (gh.1:Int))]) (fun gh=>[.blk b4 (cl (wa 64 gh.2) 202)])
  (fun gh Gl=>(gh.1≤16)∧(gh.2=nV (fun i=>xs.getD i 0) gh.1)) (fun gh=>16-gh.1) (0,fun _=>0#32) [(0,true,_),(1,true,_),(4,true,_)] [_]
  (aK rfl (aA rfl (aA rfl (aA rfl eZ))))
  (mS .here rfl (mS .here rfl mN)) ?_ ?_
 ·refine ⟨?_,?_⟩
  ·(try dsimp only)<;>(first|omega|rfl|assumption|(simp; done))
  (try dsimp only)<;>(first|omega|rfl|assumption|(simp; done))
 intro gh N0 Gl0 hN0 hGl0 hF0
 obtain ⟨k,y⟩:=gh; dsimp only at hF0 hN0 ⊢
 obtain ⟨hk,ey⟩:=hF0
 have hs:=hs.mono hGl0
 have hK:=hK.mono hGl0
 refine .g (cP rfl rfl rfl rfl (.g (cD rfl (fun c1=>?_) (fun c1=>?_))))
 ·have c1k:=c1
  try simp only [aC,aD] at c1
  refine .g (aW (((4*k):Nat):Int) rfl rfl rfl rfl ?_)
  refine .p (aW (((4*k):Nat):Int) rfl rfl rfl rfl ?_)
  refine cQ ((((4*k)+4):Nat):Int) rfl .no (.u rfl) (.u rfl) rfl (by omega) (fun _=>bO (by omega) (by omega)) ?_
  refine kS ((4*k)) (((4*k)+4)) rfl .no aI hs (.u rfl) (.u rfl) (.u rfl) (by omega) (by omega) (by omega) (by omega) ?_
  intro h33 L33 eL33 lL33 hs33
  have lL33:=lL33 rfl
  refine lE rfl bU rfl (mV rfl rfl (.nc (.block ?_)))
  refine aV (α:=Nat×(Nat→W)) (fun gh=>[(35,true,.int .i64 (gh.1:Int))]) (fun gh=>[.blk b4 (cl (wa 64 gh.2) 202)])
   (fun gh Gl=>(gh.1≤4)∧(gh.2=upd y k (shB (fun i=>xs.getD i 0) k gh.1))) (fun gh=>4-gh.1) (0,y) [(0,true,_),(1,true,_),(4,true,_),(5,true,_),(24,true,_),(33,true,_),(34,true,_)] [_]
   (aK rfl (aA rfl (aA rfl (aA rfl (aA rfl (aA rfl (aA rfl (aA rfl eZ))))))))
   (mS .here rfl (mS .here rfl mN)) ?_ ?_
  ·refine ⟨?_,?_⟩
   ·(try dsimp only)<;>(first|omega|rfl|assumption|(simp; done))
   (try dsimp only)<;>(rw [ey]; exact (aR3 _ (Nat.le_refl k)).symm)
  intro gh N1 Gl1 hN1 hGl1 hF1
  obtain ⟨c,y2⟩:=gh; dsimp only at hF1 hN1 ⊢
  obtain ⟨hc,ey2⟩:=hF1
  have hK:=hK.mono hGl1
  have hs33:=hs33.mono hGl1
  refine .g (cP rfl rfl rfl rfl (.g (cD rfl (fun c2=>?_) (fun c2=>?_))))
  ·have c2k:=c2
   try simp only [aC,aD] at c2
   refine .skip (.code (.seq (.block (.seq (dU rfl rfl (ih rfl .no aI (.u rfl) (.u rfl) (by omega) (by omega) (fun _=>hs33.nn (k:=c) (by omega)) ?_))))))
   refine lN rfl aZ rfl ((hs33.yat (c) (by omega) (by omega)).rd) ?_
   refine .g (iW rfl qZ rfl rfl ?_)
   refine lO rfl bH rfl .here (by first|exact bG (k) (by omega) (by omega)|exact cU (k) (by omega) (by omega)|exact dB (k) (by omega) (by omega)|rfl) ?_
   refine lw (k:=.u32) rfl .no rfl (.u rfl) (.u rfl) (fun _=>by decide) ?_
   refine .p (cu (k:=.u8) rfl .no rfl oX (.u rfl) ?_)
   refine bw (k:=.u32) rfl .no rfl (.u rfl) (.u rfl) rfl (iW rfl qZ rfl rfl ?_)
   refine s1 rfl (.u rfl) (.u rfl) rfl dZ .here (by first|decide|(simp only [bV,bT,bM]; omega)) (by first|exact cY (k) (by omega)|exact iH (k) (by omega)|exact mJ (k) (by omega) (by omega)|rfl) ?_
   refine .g (aW (((c+1):Nat):Int) rfl rfl rfl rfl ?_)
   refine .g (aP (c+1,upd y2 k (y2 k <<< Int.toNat 8 ||| BitVec.setWidth 32 (L33.getD c 0))) ?_ ?_ ?_ ?_ ?_)
   ·exact (aK rfl (aA rfl (aA rfl (aA rfl (aA rfl (aA rfl (aA rfl (aA rfl eZ))))))))
   ·exact (mS .here rfl (mS .here rfl mN))
   ·first|omega|(dsimp only; omega)
   ·exact hGl1
   refine ⟨?_,?_⟩
   ·(try dsimp only)<;>(first|omega|rfl|assumption|(simp; done))
   (try dsimp only)<;>(rw [ey2,vI,aEO,shB,eL33,aGV (by omega)]; rfl)
  have c2k:=c2
  try simp only [aC,aD] at c2
  refine .g (aW (((k+1):Nat):Int) rfl rfl rfl rfl ?_)
  refine .g (aP (k+1,y2) ?_ ?_ ?_ ?_ ?_)
  ·exact (aK rfl (aA rfl (aA rfl (aA rfl eZ))))
  ·exact (mS .here rfl (mS .here rfl mN))
  ·first|omega|(dsimp only; omega)
  ·exact (hGl0).trans hGl1
  refine ⟨?_,?_⟩
  ·(try dsimp only)<;>(first|omega|rfl|assumption|(simp; done))
  (try dsimp only)<;>(obtain rfl:c=4:=(by omega); rw [ey2,ey,aQp]; rfl)
 have c1k:=c1
 try simp only [aC,aD] at c1
 refine .exit (.xcode (.xlp (.xblk (.code (.seq (.seq ?_))))))
 obtain rfl:k=16:=by omega
 refine aL rfl rfl (aS rfl rfl (.nc (.block ?_)))
 refine aV (α:=Nat×(Nat→W)) (fun gh=>[(8,true,.int .i64 ((16+gh.1:Nat):Int))]) (fun gh=>[.blk b4 (cl (wa 64 gh.2) 202)])
  (fun gh Gl=>(gh.1≤48)∧(gh.2=iN (fun i=>xs.getD i 0) gh.1)) (fun gh=>48-gh.1) (0,_) [(0,true,_),(4,true,_)] [_]
  (aK rfl (aA rfl (aA rfl eZ)))
  (mS .here rfl (mS .here rfl mN)) ?_ ?_
 ·refine ⟨?_,?_⟩
  ·(try dsimp only)<;>(first|omega|rfl|assumption|(simp; done))
  (try dsimp only)<;>(first|omega|rfl|assumption|(simp; done))
 intro gh N2 Gl2 hN2 hGl2 hF2
 obtain ⟨k1,y⟩:=gh; dsimp only at hF2 hN2 ⊢
 obtain ⟨hk1,ey⟩:=hF2
 have hK:=hK.mono hGl2
 refine .g (cP rfl rfl rfl rfl (.g (cD rfl (fun c3=>?_) (fun c3=>?_))))
 ·have c3k:=c3
  try simp only [aC,aD] at c3
  refine .g (bA (mc:=⟨false,false⟩) [0,1,2,3,4,5,6,7,8,9] aX (by kernel_rfl) ?_)
  refine .p (aW (((1+k1):Nat):Int) rfl rfl rfl rfl ?_)
  refine iW rfl qZ rfl rfl ?_
  refine lO rfl bH rfl .here (by first|exact bG ((1+k1)) (by omega) (by omega)|exact cU ((1+k1)) (by omega) (by omega)|exact dB ((1+k1)) (by omega) (by omega)|rfl) ?_
  refine .p (aW (((14+k1):Nat):Int) rfl rfl rfl rfl ?_)
  refine iW rfl qZ rfl rfl ?_
  refine lO rfl bH rfl .here (by first|exact bG ((14+k1)) (by omega) (by omega)|exact cU ((14+k1)) (by omega) (by omega)|exact dB ((14+k1)) (by omega) (by omega)|rfl) ?_
  refine .g (bA (mc:=⟨false,false⟩) [0,1,2,3,4,5,6,7,8,9,10,12,15,16,19,21,24,25,11,13,14,17,18,20,22,23,26,27,28,29] aX (by kernel_rfl) ?_)
  refine .p (aW ((k1:Nat):Int) rfl rfl rfl rfl ?_)
  refine iW rfl qZ rfl rfl ?_
  refine lO rfl bH rfl .here (by first|exact bG (k1) (by omega) (by omega)|exact cU (k1) (by omega) (by omega)|exact dB (k1) (by omega) (by omega)|rfl) ?_
  refine .p (aW (((9+k1):Nat):Int) rfl rfl rfl rfl ?_)
  refine iW rfl qZ rfl rfl ?_
  refine lO rfl bH rfl .here (by first|exact bG ((9+k1)) (by omega) (by omega)|exact cU ((9+k1)) (by omega) (by omega)|exact dB ((9+k1)) (by omega) (by omega)|rfl) ?_
  refine bw (k:=.u32) rfl .no rfl (.u rfl) (.u rfl) rfl (.p (jH (k:=.u32) rfl .no (.u rfl) (.u rfl) (fun _=>by decide) ?_))
  refine .p (jH (k:=.u32) rfl .no (.u rfl) (.u rfl) (fun _=>by decide) ?_)
  refine kV rfl rG (aB rfl (aB rfl aF)) (qS _ 7 _ (by decide)) ?_
  refine kV rfl rG (aB rfl (aB rfl aF)) (qS _ 18 _ (by decide)) ?_
  refine bw (k:=.u32) rfl .no rfl (.u rfl) (.u rfl) rfl (bw (k:=.u32) rfl .no rfl (.u rfl) (.u rfl) rfl (bw (k:=.u32) rfl .no rfl (.u rfl) (.u rfl) rfl (kV rfl rG (aB rfl (aB rfl aF)) (qS _ 17 _ (by decide)) ?_)))
  refine kV rfl rG (aB rfl (aB rfl aF)) (qS _ 19 _ (by decide)) ?_
  refine bw (k:=.u32) rfl .no rfl (.u rfl) (.u rfl) rfl (bw (k:=.u32) rfl .no rfl (.u rfl) (.u rfl) rfl (bw (k:=.u32) rfl .no rfl (.u rfl) (.u rfl) rfl (iW rfl qZ rfl rfl ?_)))
  refine s1 rfl (.u rfl) (.u rfl) rfl dZ .here (by first|decide|(simp only [bV,bT,bM]; omega)) (by first|exact cY (((16+k1:Nat))) (by omega)|exact iH (((16+k1:Nat))) (by omega)|exact mJ (((16+k1:Nat))) (by omega) (by omega)|rfl) ?_
  refine .g (cQ (((((16+k1:Nat))+1):Nat):Int) rfl .no (.u rfl) (.u rfl) rfl (by omega) (fun _=>bO (by omega) (by omega)) ?_)
  refine .g (aP (k1+1,_) (aK rfl (aA rfl (aA rfl eZ))) (mS .here rfl (mS .here rfl mN)) ?_ ?_ ?_)
  ·first|omega|(dsimp only; omega)
  ·exact hGl2
  refine ⟨?_,?_⟩
  ·(try dsimp only)<;>(first|omega|rfl|assumption|(simp; done))
  (try dsimp only)<;>(rw [ey]; rfl)
 have c3k:=c3
 try simp only [aC,aD] at c3
 refine .exit (.xcode (.xlp (.xblk (.code (.seq ?_)))))
 obtain rfl:k1=48:=by omega
 refine bA (mc:=⟨false,false⟩) [0,1,2,3,4,5,6,7,8,9,10,11,12,13,14,15,16,17,18,19,20,21,22,23,24,25,26,27,28,29,30,31,32,33,34,35,36,37,38,39,40,41,42,43,44,45,46,47] aX (by kernel_rfl) ?_
 refine .p (nC rfl rfl (fZ rfl pA rfl (iW rfl dN rfl rfl ?_)))
 refine lO rfl bH rfl aE (by first|exact bG (0) (by omega) (by omega)|exact cU (0) (by omega) (by omega)|exact dB (0) (by omega) (by omega)|rfl) ?_
 refine .p (nC rfl rfl (fZ rfl pA rfl (iW rfl dN rfl rfl ?_)))
 refine lO rfl bH rfl aE (by first|exact bG (1) (by omega) (by omega)|exact cU (1) (by omega) (by omega)|exact dB (1) (by omega) (by omega)|rfl) ?_
 refine .p (nC rfl rfl (fZ rfl pA rfl (iW rfl dN rfl rfl ?_)))
 refine lO rfl bH rfl aE (by first|exact bG (2) (by omega) (by omega)|exact cU (2) (by omega) (by omega)|exact dB (2) (by omega) (by omega)|rfl) ?_
 refine .p (nC rfl rfl (fZ rfl pA rfl (iW rfl dN rfl rfl ?_)))
 refine lO rfl bH rfl aE (by first|exact bG (3) (by omega) (by omega)|exact cU (3) (by omega) (by omega)|exact dB (3) (by omega) (by omega)|rfl) ?_
 refine .p (nC rfl rfl (fZ rfl pA rfl (iW rfl dN rfl rfl ?_)))
 refine lO rfl bH rfl aE (by first|exact bG (4) (by omega) (by omega)|exact cU (4) (by omega) (by omega)|exact dB (4) (by omega) (by omega)|rfl) ?_
 refine .p (nC rfl rfl (fZ rfl pA rfl (iW rfl dN rfl rfl ?_)))
 refine lO rfl bH rfl aE (by first|exact bG (5) (by omega) (by omega)|exact cU (5) (by omega) (by omega)|exact dB (5) (by omega) (by omega)|rfl) ?_
 refine .p (nC rfl rfl (fZ rfl pA rfl (iW rfl dN rfl rfl ?_)))
 refine lO rfl bH rfl aE (by first|exact bG (6) (by omega) (by omega)|exact cU (6) (by omega) (by omega)|exact dB (6) (by omega) (by omega)|rfl) ?_
 refine .p (nC rfl rfl (fZ rfl pA rfl (iW rfl dN rfl rfl ?_)))
 refine lO rfl bH rfl aE (by first|exact bG (7) (by omega) (by omega)|exact cU (7) (by omega) (by omega)|exact dB (7) (by omega) (by omega)|rfl) ?_
 refine aS rfl rfl (aS rfl rfl (aS rfl rfl (aS rfl rfl (aS rfl rfl (aS rfl rfl (aS rfl rfl (aS rfl rfl (.nc (.seq (.seq (aL rfl rfl (mV rfl rfl (.nc (.block ?_))))))))))))))
 refine aV (α:=Nat×(Nat→W)) (fun gh=>[(11,true,U (gh.2 0)),(12,true,U (gh.2 1)),(13,true,U (gh.2 2)),(14,true,U (gh.2 3)),(15,true,U (gh.2 4)),(16,true,U (gh.2 5)),(17,true,U (gh.2 6)),(18,true,U (gh.2 7)),(131,true,.int .i64 (gh.1:Int))]) (fun _=>[])
  (fun gh Gl=>(gh.1≤64)∧(gh.2=vE y s gh.1)) (fun gh=>64-gh.1) (0,s) [(0,true,_),(4,true,_)] [_,_]
  (aA rfl (aA rfl (aA rfl (aA rfl (aA rfl (aA rfl (aA rfl (aA rfl (aK rfl (aA rfl (aA rfl eZ)))))))))))
  (mS .here rfl (mS .here rfl mN)) ?_ ?_
 ·refine ⟨?_,?_⟩
  ·(try dsimp only)<;>(first|omega|rfl|assumption|(simp; done))
  (try dsimp only)<;>(first|omega|rfl|assumption|(simp; done))
 intro gh N3 Gl3 hN3 hGl3 hF3
 obtain ⟨k2,x⟩:=gh; dsimp only at hF3 hN3 ⊢
 obtain ⟨hk2,ex⟩:=hF3
 have hK:=hK.mono hGl3
 refine .g (cP rfl rfl rfl rfl (.g (cD rfl (fun c4=>?_) (fun c4=>?_))))
 ·have c4k:=c4
  try simp only [aC,aD] at c4
  refine .g (bA (mc:=⟨false,false⟩) [0,1,3,6,10,11,12,13,14,15,16,18,19,20,22,23,24,2,4,5,7,8,9,17,21,25,26] aX (by kernel_rfl) ?_)
  refine .p (bw (k:=.u32) rfl .no rfl (.u rfl) (.u rfl) rfl (bw (k:=.u32) rfl .no rfl (.u rfl) (.u rfl) rfl (bw (k:=.u32) rfl .no rfl (.u rfl) (.u rfl) rfl (.p (iW rfl qZ rfl rfl ?_)))))
  refine lN rfl bH rfl ((hK.wat (k2) (by omega) (by omega)).rd) ?_
  refine .p (iW rfl qZ rfl rfl ?_)
  refine lO rfl bH rfl .here (by first|exact bG (k2) (by omega) (by omega)|exact cU (k2) (by omega) (by omega)|exact dB (k2) (by omega) (by omega)|rfl) ?_
  refine kV rfl rG (aB rfl (aB rfl aF)) (qS _ 6 _ (by decide)) ?_
  refine kV rfl rG (aB rfl (aB rfl aF)) (qS _ 11 _ (by decide)) ?_
  refine bw (k:=.u32) rfl .no rfl (.u rfl) (.u rfl) rfl (kV rfl rG (aB rfl (aB rfl aF)) (qS _ 25 _ (by decide)) ?_)
  refine bw (k:=.u32) rfl .no rfl (.u rfl) (.u rfl) rfl (bw (k:=.u32) rfl .no rfl (.u rfl) (.u rfl) rfl (bw (k:=.u32) rfl .no rfl (.u rfl) (.u rfl) rfl (bw (k:=.u32) rfl .no rfl (.u rfl) (.u rfl) rfl (bw (k:=.u32) rfl .no rfl (.u rfl) (.u rfl) rfl (.g (kV rfl rG (aB rfl (aB rfl aF)) (qS _ 2 _ (by decide)) ?_))))))
  refine .p (kV rfl rG (aB rfl (aB rfl aF)) (qS _ 13 _ (by decide)) ?_)
  refine bw (k:=.u32) rfl .no rfl (.u rfl) (.u rfl) rfl (.p (kV rfl rG (aB rfl (aB rfl aF)) (qS _ 22 _ (by decide)) ?_))
  refine bw (k:=.u32) rfl .no rfl (.u rfl) (.u rfl) rfl (.p (bw (k:=.u32) rfl .no rfl (.u rfl) (.u rfl) rfl (.p (bw (k:=.u32) rfl .no rfl (.u rfl) (.u rfl) rfl (bw (k:=.u32) rfl .no rfl (.u rfl) (.u rfl) rfl (bw (k:=.u32) rfl .no rfl (.u rfl) (.u rfl) rfl (bw (k:=.u32) rfl .no rfl (.u rfl) (.u rfl) rfl (.g (bw (k:=.u32) rfl .no rfl (.u rfl) (.u rfl) rfl (.p (bw (k:=.u32) rfl .no rfl (.u rfl) (.u rfl) rfl (.g (aW (((k2+1):Nat):Int) rfl rfl rfl rfl ?_)))))))))))))
  refine .g (aP (k2+1,rY x (kW k2) (y k2)) ?_ ?_ ?_ ?_ ?_)
  ·exact (aA rfl (aA rfl (aA rfl (aA rfl (aA rfl (aA rfl (aA rfl (aA rfl (aK rfl (aA rfl (aA rfl eZ)))))))))))
  ·exact (mS .here rfl (mS .here rfl mN))
  ·first|omega|(dsimp only; omega)
  ·exact hGl3
  refine ⟨?_,?_⟩
  ·(try dsimp only)<;>(first|omega|rfl|assumption|(simp; done))
  (try dsimp only)<;>(rw [ex]; rfl)
 have c4k:=c4
 try simp only [aC,aD] at c4
 refine .exit (.xcode (.xlp (.xblk (.code (.seq ?_)))))
 obtain rfl:k2=64:=by omega
 refine .g (dK (wa 8 x) rfl .no aCN (.cons (.u rfl) rfl (.cons (.u rfl) rfl (.cons (.u rfl) rfl (.cons (.u rfl) rfl (.cons (.u rfl) rfl (.cons (.u rfl) rfl (.cons (.u rfl) rfl (.cons (.u rfl) rfl .nil)))))))) rfl (by simp [qG,put,wa,List.range_succ]) ?_)
 refine mV rfl rfl (.nc (.block ?_))
 refine aV (α:=Nat×(Nat→W)) (fun gh=>[(200,true,.int .i64 (gh.1:Int))]) (fun gh=>[.blk bs (cl (wa 8 gh.2++[vp,nn]) 181)])
  (fun gh Gl=>(gh.1≤8)∧(gh.2=fun i=>if i<gh.1 then s i+x i else s i)) (fun gh=>8-gh.1) (0,s) [(0,true,_),(199,true,_)] [_]
  (aK rfl (aA rfl (aA rfl eZ)))
  (mS aE rfl (mS .here rfl mN)) ?_ ?_
 ·refine ⟨?_,?_⟩
  ·(try dsimp only)<;>(first|omega|rfl|assumption|(simp; done))
  (try dsimp only)<;>(funext i; simp)
 intro gh N4 Gl4 hN4 hGl4 hF4
 obtain ⟨k3,z⟩:=gh; dsimp only at hF4 hN4 ⊢
 obtain ⟨hk3,ez⟩:=hF4
 refine .g (cP rfl rfl rfl rfl (.g (cD rfl (fun c5=>?_) (fun c5=>?_))))
 ·have c5k:=c5
  try simp only [aC,aD] at c5
  refine .g (ix rfl .no dN bH (.u rfl) (.u rfl) (by omega) (by omega) (fun _=>tO (n:=8) (y:=x) (j:=k3) (by omega)) ?_)
  refine .g (bA (mc:=⟨false,false⟩) [0,1,2,3,4,5,6,7,8,9,10,11] aX (by kernel_rfl) ?_)
  refine .p (nC rfl rfl (fZ rfl pA rfl (iW rfl dN rfl rfl ?_)))
  refine lO rfl bH rfl .here (by first|exact bG (k3) (by omega) (by omega)|exact cU (k3) (by omega) (by omega)|exact dB (k3) (by omega) (by omega)|rfl) ?_
  refine .p (bw (k:=.u32) rfl .no rfl (.u rfl) (.u rfl) rfl (nC rfl rfl (fZ rfl pA rfl (iW rfl dN rfl rfl ?_))))
  refine s1 rfl (.u rfl) (.u rfl) rfl dZ .here (by first|decide|(simp only [bV,bT,bM]; omega)) (by first|exact cY (k3) (by omega)|exact iH (k3) (by omega)|exact mJ (k3) (by omega) (by omega)|rfl) ?_
  refine .g (aW (((k3+1):Nat):Int) rfl rfl rfl rfl ?_)
  refine .g (aP (k3+1,_) (aK rfl (aA rfl (aA rfl eZ))) (mS .here rfl (mS .here rfl mN)) ?_ ?_ ?_)
  ·first|omega|(dsimp only; omega)
  ·exact hGl4
  refine ⟨?_,?_⟩
  ·(try dsimp only)<;>(first|omega|rfl|assumption|(simp; done))
  (try dsimp only)<;>(rw [ez]; exact aRz)
 have c5k:=c5
 try simp only [aC,aD] at c5
 refine .g (We.fin Tryz.results140 .nil (mS .here rfl mN) ?_)
 obtain rfl:k3=8:=by omega
 refine ⟨?_,rfl⟩
 rw [ez,ex,ey,aJj (f:=fun i=>if i<8 then s i+vE (iN (fun i=>xs.getD i 0) 48) s 64 i else s i) (f':=oR s (fun i=>xs.getD i 0)) (fun i hi=>by rw [if_pos hi]; rfl)]
theorem aAd:cO Tryz.prog 181 2=some 9:=by kernel_rfl
theorem dH:dJ Tryz.prog 3=some none:=by kernel_rfl
theorem jO:dL Tryz.prog 3=some 1:=by kernel_rfl
theorem rD:cO Tryz.prog 181 1=some 8:=by kernel_rfl
theorem cX:dJ Tryz.prog 24=some none:=by kernel_rfl
theorem nH:dL Tryz.prog 24=some 1:=by kernel_rfl
theorem aEk:aU Tryz.prog 140=true:=by kernel_rfl
theorem aLo (s:Nat→W) (xs:List Y) (v vp nn:Value) (bs:Nat) (G:PM) (hK:RdNP G 1 0 (wa 64 kW)) (hl:64≤xs.length):Ct Tryz.prog 140 ([.pointer (some ⟨bs,0,none⟩),v]:List Value).toArray G [rB v 5 xs,.blk bs (cl (wa 8 s++[vp,nn]) 181)] (fun _ μ' u=>∃ ν,μ'=rB v 5 xs :: ν∧ν=[.blk bs (cl (wa 8 (oR s (fun i=>xs.getD i 0))++[vp,nn]) 181)]∧u=.tuple #[]) :=
 aCK (fun h G2 hle hv hs=>by subst hv; exact aCm s xs h vp nn bs G2 hs (hK.mono hle) hl)
theorem aAQ {y:Nat→W} {a b v:Value}:(wa 8 y++[a,b]).set 8 v=wa 8 y++[v,b]:=aJl rfl
theorem aAR {y:Nat→W} {a b v:Value}:(wa 8 y++[a,b]).set 9 v=wa 8 y++[a,v]:=aJl rfl
theorem aEB {zs:List Y} {j m b T:Nat} {vp:Value} (hj:zs.length / 64=j) (hm:m=zs.length):Res.blk b (cl (wa 8 (eY zs j)++[vp,.int .i64 (m:Int)]) T)=.blk b (cl (iO zs vp) T):=by
 subst hj; subst hm; rfl
theorem aHt {zs L:List Y} {j b T:Nat} {vq nn:Value} (eL:L=zs.drop (64*j)) (h:64≤L.length):Res.blk b (cl (wa 8 (oR (eY zs j) (fun i=>L.getD i 0))++[vq,nn]) T)=.blk b (cl (wa 8 (eY zs (j+1))++[vq,nn]) T):=by
 rw [eY,aBz (b':=uG zs j)]
 intro i hi
 rw [eL,uG]; simp [List.getD_eq_getElem?_getD,List.getElem?_drop]
theorem aOz {xs ys L:List Y} {b T k:Nat} {vq nn:Value} (eL:L=eV xs++ys.take k) (hk:k=min (64-(eV xs).length) ys.length) (h:64≤L.length):Res.blk b (cl (wa 8 (oR (eY xs (xs.length / 64)) (fun i=>L.getD i 0))++[vq,nn]) T)=.blk b (cl (wa 8 (eY (xs++ys) (xs.length / 64+1))++[vq,nn]) T):=by
 have hr:=xJ xs
 rw [eL,List.length_append,List.length_take] at h
 rw [eY,aEA (by omega),aBz (b':=uG (xs++ys) (xs.length / 64))]
 intro i hi
 rw [eL,uG]
 simp only [List.getD_eq_getElem?_getD,List.getElem?_append,List.getElem?_take,hr]
 by_cases h1:i<xs.length%64
 ·simp [h1,eV,show 64*(xs.length / 64)+i<xs.length by omega]
 ·rw [if_neg h1,if_pos (by omega),if_neg (by omega)]
  congr 2; omega
theorem aO1 {xs ys L:List Y} (eL:L=eV xs++ys.take (min (64-(eV xs).length) ys.length)) (h:L.length<64):L=eV (xs++ys)∧(xs++ys).length / 64=xs.length / 64∧eY (xs++ys) (xs.length / 64)=eY xs (xs.length / 64):=by
 have hr:=xJ xs
 rw [eL,List.length_append,List.length_take] at h
 have e:(xs++ys).length / 64=xs.length / 64:=by rw [List.length_append]; omega
 refine ⟨?_,e,aEA (by omega)⟩
 have h5:min (64-(eV xs).length) ys.length=ys.length:=by omega
 rw [eL,h5,List.take_length,eV,eV,e,List.drop_append_of_le_length (by omega)]
theorem aOx {xs ys:List Y} (h:64≤(eV xs).length+ys.length):ys.drop (min (64-(eV xs).length) ys.length)=(xs++ys).drop (64*(xs.length / 64+1)):=by
 have hr:=xJ xs
 rw [List.drop_append,List.drop_of_length_le (show xs.length≤64*(xs.length / 64+1) by omega),List.nil_append]
 congr 1; omega
theorem aOy {xs ys:List Y} (h:(eV xs).length=0):ys=(xs++ys).drop (64*(xs.length / 64)):=by
 have hr:=xJ xs
 rw [show 64*(xs.length / 64)=xs.length by omega,List.drop_left]
theorem aO3 {xs ys:List Y} {b T:Nat} {vq nn:Value} (h:(eV xs).length=0):Res.blk b (cl (wa 8 (eY xs (xs.length / 64))++[vq,nn]) T)=.blk b (cl (wa 8 (eY (xs++ys) (xs.length / 64))++[vq,nn]) T):=by
 rw [aEA (by omega)]
theorem aDp (xs ys:List Y) (h:Sh) (vp:Value) (bs:Nat) (G:PM) (hs:SlR G 1 aQ h ys) (hK:RdNP G 1 0 (wa 64 kW)) (hl:xs.length+ys.length≤4611686018427387904):Ct Tryz.prog 128 ([.pointer (some ⟨bs,0,none⟩),h.val ys.length]:List Value).toArray G [.blk bs (cl (iO xs vp) 181),rB vp 5 (eV xs)] (fun _ μ' u=>∃ vp',μ'=[.blk bs (cl (iO (xs++ys) vp') 181),rB vp' 5 (eV (xs++ys))]∧u=.tuple #[]):=by
 refine Ct.of Tryz.func128 rfl Tryz.ntmps128 rfl fun w0 hs0=>?_
 have hr:=xJ xs
 refine .g (nC rfl rfl (fZ rfl aAd rfl (lO rfl dH rfl .here (by first|exact aJ rfl|rfl) ?_)))
 refine .p (lE rfl bU rfl (aW (((xs.length+ys.length):Nat):Int) rfl rfl rfl rfl ?_))
 refine nC rfl rfl (fZ rfl aAd rfl (s1 rfl (.u rfl) (.u rfl) rfl jO .here (by first|decide|(simp only [iO,bV,bT,bM]; omega)) (by first|exact aAQ|exact aAR) ?_))
 refine .g (nC rfl rfl (fZ rfl rD rfl (lO rfl cX rfl .here (by first|exact aJ rfl|rfl) ?_)))
 refine lr rfl .no bU (.u rfl) aE ?_
 refine cP rfl rfl rfl rfl (.g (cD rfl (fun c1=>?_) (fun c1=>?_)))
 ·have c1k:=c1
  try simp only [aC,aD] at c1
  refine .g (nC rfl rfl (fZ rfl rD rfl (lO rfl cX rfl .here (by first|exact aJ rfl|rfl) ?_)))
  refine lr rfl .no bU (.u rfl) aE ?_
  refine cQ (((64-(eV xs).length):Nat):Int) rfl .no (.u rfl) (.u rfl) rfl (by omega) (fun _=>bO (by omega) (by omega)) ?_
  refine .p (lE rfl bU rfl (mIn ((64-(eV xs).length)) (ys.length) rfl .no (.u rfl) (.u rfl) (by omega) (by omega) ?_))
  refine .g (bA (mc:=⟨false,false⟩) [0,1,2,3,4,5,6,7,8,9,10,11] aX (by kernel_rfl) ?_)
  refine .p (nC rfl rfl (fZ rfl rD rfl (lO rfl cX rfl .here (by first|exact aJ rfl|rfl) ?_)))
  refine .p (kE ((min (64-(eV xs).length) ys.length)) rfl .no aI hs (.u rfl) (.u rfl) (by omega) (by omega) ?_)
  intro h36 L36 eL36 lL36 hs36
  have lL36:=lL36 rfl
  refine dC rfl aI bF (.u rfl) (.u rfl) aE hs36.sc (by (try simp only [bM,bK]); omega) ?_
  intro v37 L37 ov37 eL37
  have lL37:L37.length=(eV xs).length+L36.length:=by rw [eL37,List.length_append]
  refine nC rfl rfl (fZ rfl rD rfl (dE rfl (.u rfl) (.u rfl) .here nH aE (by first|decide|(simp only [iO,bV,bT,bM]; omega)) (by first|exact aAQ|exact aAR) ?_))
  refine .g (kD ((min (64-(eV xs).length) ys.length)) rfl .no aI hs (.u rfl) (.u rfl) (by omega) (by omega) ?_)
  intro h42 L42 eL42 lL42 hs42
  have lL42:=lL42 rfl
  refine .g (nC rfl rfl (fZ rfl rD rfl (lO rfl cX rfl .here (by first|exact aJ rfl|rfl) ?_)))
  refine lr rfl .no bU (.u rfl) aE ?_
  refine cP rfl rfl rfl rfl (.g (cD rfl (fun c2=>?_) (fun c2=>?_)))
  ·have c2k:=c2
   try simp only [aC,aD] at c2
   refine .ret (We.fin Tryz.results128 .nil (mS .here rfl (mS .here rfl mN)) ?_)
   obtain ⟨e1,e2,e3⟩:=aO1 (eL37.trans (by rw [eL36])) (by omega)
   exact ⟨v37,by rw [← e1,←e3,aEB e2 (by simp)],rfl⟩
  have c2k:=c2
  try simp only [aC,aD] at c2
  refine .g (nC rfl rfl (fZ rfl rD rfl (lO rfl cX rfl .here (by first|exact aJ rfl|rfl) ?_)))
  refine ka rfl (.inr rfl) aEk (aB rfl (aB rfl aF)) (gT aE .here) (aLo _ L37 _ _ _ _ _ hK (by omega)) ?_
  rintro _ G54 μ54 hG54 ⟨_,rfl,rfl,rfl⟩
  have hs:=hs.mono hG54
  have hK:=hK.mono hG54
  have hs42:=hs42.mono hG54
  refine .g (nC rfl rfl (fZ rfl rD rfl (s1 rfl (.u rfl) (.u rfl) rfl nH aE (by first|decide|(simp only [iO,bV,bT,bM]; omega)) (by first|exact aAQ|exact aAR) ?_)))
  refine .nil (vJ 5 ?_)
  refine .code (.seq (.block ?_))
  refine aV (α:=Nat×Sh×List Y×Value) (fun gh=>[(1,true,gh.2.1.val gh.2.2.1.length)]) (fun gh=>[.blk bs (cl (wa 8 (eY (xs++ys) gh.1)++[gh.2.2.2,.int .i64 ((xs.length+ys.length:Nat):Int)]) 181)])
   (fun gh Gl=>(64*gh.1≤xs.length+ys.length)∧(gh.2.2.1=(xs++ys).drop (64*gh.1))∧(SlR Gl 1 aQ gh.2.1 gh.2.2.1)) (fun gh=>gh.2.2.1.length) (xs.length / 64+1,_,_,_) [(0,true,_)] [_]
   (aA rfl (aA rfl eZ))
   (mS aE (aOz (eL37.trans (by rw [eL36])) rfl (by omega)) (mS .here rfl mN)) ?_ ?_
  ·refine ⟨?_,?_,?_⟩
   ·(try dsimp only)<;>(omega)
   ·(try dsimp only)<;>(rw [eL42]; exact aOx (by omega))
   (try dsimp only)<;>(exact hs42)
  intro gh N0 Gl0 hN0 hGl0 hF0
  obtain ⟨j,h',L,vq⟩:=gh; dsimp only at hF0 hN0 ⊢
  obtain ⟨hj,eL,hL⟩:=hF0
  have hs:=hs.mono hGl0
  have hK:=hK.mono hGl0
  have lL:L.length=xs.length+ys.length-64*j:=by rw [eL]; simp
  refine .g (lE rfl bU rfl (cP rfl rfl rfl rfl (.g (cD rfl (fun c3=>?_) (fun c3=>?_)))))
  ·have c3k:=c3
   try simp only [aC,aD] at c3
   refine .g (ka rfl (.inr rfl) aEk (aB rfl (aB rfl aF)) (bL .here) (aCm _ L h' _ _ _ _ hL hK (by omega)) ?_)
   rintro _ G65 μ65 hG65 ⟨rfl,rfl⟩
   have hs:=hs.mono hG65
   have hK:=hK.mono hG65
   have hL:=hL.mono hG65
   refine .g (kD (64) rfl .no aI hL (.u rfl) (.u rfl) (by omega) (by omega) ?_)
   intro h62 L62 eL62 lL62 hs62
   have lL62:=lL62 rfl
   refine .g (aP (j+1,h62,L62,vq) ?_ ?_ ?_ ?_ ?_)
   ·exact (aA rfl (aA rfl eZ))
   ·exact (mS .here (aHt eL (by omega)) (mS .here rfl mN))
   ·first|omega|(dsimp only; omega)
   ·exact (hGl0).trans hG65
   refine ⟨?_,?_,?_⟩
   ·(try dsimp only)<;>(omega)
   ·(try dsimp only)<;>(rw [eL62,eL,List.drop_drop]; congr 1)
   (try dsimp only)<;>(exact hs62)
  have c3k:=c3
  try simp only [aC,aD] at c3
  refine .exit (.xcode (.xlp (.xblk (.code (rZ rfl rfl (mV rfl rfl ?_))))))
  refine oF rfl aI ?_; intro b67
  refine .p (oD rfl aI bF (.u rfl) (.u rfl) .here hL.sc (by (try simp only [bM,bK]); omega) ?_)
  intro v69 L69 _ ov69 eL69
  have lL69:L69.length=L.length:=by rw [eL69]
  refine nC rfl rfl (fZ rfl rD rfl (dE rfl (.u rfl) (.u rfl) .here nH aE (by first|decide|(simp only [iO,bV,bT,bM]; omega)) (by first|exact aAQ|exact aAR) ?_))
  refine .g (We.fin Tryz.results128 .nil (mS .here rfl (mS .here rfl mN)) ?_)
  have ej:(xs++ys).length / 64=j:=by rw [List.length_append]; omega
  exact ⟨v69,by rw [aEB ej (by simp),eL69,eL,eV,ej],rfl⟩
 have c1k:=c1
 try simp only [aC,aD] at c1
 refine .skip (.code (.seq (.block ?_)))
 refine aV (α:=Nat×Sh×List Y×Value) (fun gh=>[(1,true,gh.2.1.val gh.2.2.1.length)]) (fun gh=>[.blk bs (cl (wa 8 (eY (xs++ys) gh.1)++[gh.2.2.2,.int .i64 ((xs.length+ys.length:Nat):Int)]) 181)])
  (fun gh Gl=>(64*gh.1≤xs.length+ys.length)∧(gh.2.2.1=(xs++ys).drop (64*gh.1))∧(SlR Gl 1 aQ gh.2.1 gh.2.2.1)) (fun gh=>gh.2.2.1.length) (xs.length / 64,_,_,_) [(0,true,_)] [_]
  (aA rfl (aA rfl eZ))
  (mS .here (aO3 (by omega)) (mS .here rfl mN)) ?_ ?_
 ·refine ⟨?_,?_,?_⟩
  ·(try dsimp only)<;>(omega)
  ·(try dsimp only)<;>(exact aOy (by omega))
  (try dsimp only)<;>(exact hs)
 intro gh N1 Gl1 hN1 hGl1 hF1
 obtain ⟨j,h',L,vq⟩:=gh; dsimp only at hF1 hN1 ⊢
 obtain ⟨hj,eL,hL⟩:=hF1
 have hK:=hK.mono hGl1
 have lL:L.length=xs.length+ys.length-64*j:=by rw [eL]; simp
 refine .g (lE rfl bU rfl (cP rfl rfl rfl rfl (.g (cD rfl (fun c4=>?_) (fun c4=>?_)))))
 ·have c4k:=c4
  try simp only [aC,aD] at c4
  refine .g (ka rfl (.inr rfl) aEk (aB rfl (aB rfl aF)) (bL .here) (aCm _ L h' _ _ _ _ hL hK (by omega)) ?_)
  rintro _ G65 μ65 hG65 ⟨rfl,rfl⟩
  have hL:=hL.mono hG65
  refine .g (kD (64) rfl .no aI hL (.u rfl) (.u rfl) (by omega) (by omega) ?_)
  intro h62 L62 eL62 lL62 hs62
  have lL62:=lL62 rfl
  refine .g (aP (j+1,h62,L62,vq) ?_ ?_ ?_ ?_ ?_)
  ·exact (aA rfl (aA rfl eZ))
  ·exact (mS .here (aHt eL (by omega)) (mS .here rfl mN))
  ·first|omega|(dsimp only; omega)
  ·exact (hGl1).trans hG65
  refine ⟨?_,?_,?_⟩
  ·(try dsimp only)<;>(omega)
  ·(try dsimp only)<;>(rw [eL62,eL,List.drop_drop]; congr 1)
  (try dsimp only)<;>(exact hs62)
 have c4k:=c4
 try simp only [aC,aD] at c4
 refine .exit (.xcode (.xlp (.xblk (.code (rZ rfl rfl (mV rfl rfl ?_))))))
 refine oF rfl aI ?_; intro b67
 refine .p (oD rfl aI bF (.u rfl) (.u rfl) .here hL.sc (by (try simp only [bM,bK]); omega) ?_)
 intro v69 L69 _ ov69 eL69
 have lL69:L69.length=L.length:=by rw [eL69]
 refine nC rfl rfl (fZ rfl rD rfl (dE rfl (.u rfl) (.u rfl) .here nH aE (by first|decide|(simp only [iO,bV,bT,bM]; omega)) (by first|exact aAQ|exact aAR) ?_))
 refine .g (We.fin Tryz.results128 .nil (mS .here rfl (mS .here rfl mN)) ?_)
 have ej:(xs++ys).length / 64=j:=by rw [List.length_append]; omega
 exact ⟨v69,by rw [aEB ej (by simp),eL69,eL,eV,ej],rfl⟩
theorem aCZ:iD Tryz.prog 181=some ([.int .u32 0,.int .u32 0,.int .u32 0,.int .u32 0,.int .u32 0,.int .u32 0,.int .u32 0,.int .u32 0,.slice none 0 0,.int .i64 0]):=by kernel_rfl
theorem aSY:eS Tryz.prog 181 [0]=some ([.int .u32 0,.int .u32 0,.int .u32 0,.int .u32 0,.int .u32 0,.int .u32 0,.int .u32 0,.int .u32 0,.slice none 0 0,.int .i64 0],[(0,8)]):=by kernel_rfl
theorem aAs:dL Tryz.prog 181=some 10:=by kernel_rfl
theorem aSS:dJ Tryz.prog 181=some (some 10):=by kernel_rfl
theorem aEh:aU Tryz.prog 127=true:=by kernel_rfl
theorem aKu:xA Tryz.prog 193=true:=by kernel_rfl
theorem aEi:aU Tryz.prog 128=true:=by kernel_rfl
theorem fQ:iD Tryz.prog 23=some (ba 32 (fun _=>0#8)):=by kernel_rfl
theorem aAa:dJ Tryz.prog 179=some (some 8):=by kernel_rfl
theorem aSZ:eS Tryz.prog 181 [0,1,2]=some ([.int .u32 0,.int .u32 0,.int .u32 0,.int .u32 0,.int .u32 0,.int .u32 0,.int .u32 0,.int .u32 0,.slice none 0 0,.int .i64 0],[(0,8),(8,1),(9,1)]):=by kernel_rfl
theorem gG:jF Tryz.prog 3 26=some .u64:=by kernel_rfl
theorem nY:jF Tryz.prog 26 5=some .u8:=by kernel_rfl
theorem fU:gP Tryz.prog 23=some (32,5,1):=by kernel_rfl
theorem dY:dJ Tryz.prog 23=some (some 32):=by kernel_rfl
theorem fB:dL Tryz.prog 23=some 32:=by kernel_rfl
theorem aCj (G:PM):Ct Tryz.prog 127 ([]:List Value).toArray G [] (fun _ μ' u=>μ'=[]∧u=.agg (iO [] (.slice none 0 0)).toArray):=by
 refine Ct.of Tryz.func127 rfl Tryz.ntmps127 rfl fun w0 hs0=>?_
 refine .seq (aL rfl rfl ?_)
 refine al rfl aCZ ?_; intro b0
 refine .g (dK (wa 8 ivW) rfl .no aCN (.cons (.u rfl) rfl (.cons (.u rfl) rfl (.cons (.u rfl) rfl (.cons (.u rfl) rfl (.cons (.u rfl) rfl (.cons (.u rfl) rfl (.cons (.u rfl) rfl (.cons (.u rfl) rfl .nil)))))))) rfl (by rfl) ?_)
 refine dK (iO [] (.slice none 0 0)) rfl .no aSY (.cons (.u rfl) rfl .nil) rfl (by rfl) ?_
 refine sw rfl (.u rfl) (.u rfl) rfl aAs .here (by rfl) (uZ (oT _ _) (uY rfl rfl)) ?_
 refine .nil (.code (.ret (aM Tryz.results127 (.cell rfl (fun w hw=>bI aSS (RdN.own .here) ((by rfl)) hw) .nil) ?_)))
 exact ⟨rfl,rfl⟩
theorem aK6 (G:PM):Ct Tryz.prog 144 ([]:List Value).toArray G [] (fun _ μ' u=>∃ b,μ'=[.blk b (cl (iO [] (.slice none 0 0)) 181),rB (.slice none 0 0) 5 (eV [])]∧u=.pointer (some ⟨b,0,none⟩)):=by
 refine Ct.of Tryz.func144 rfl Tryz.ntmps144 rfl fun w0 hs0=>?_
 refine .g (kv rfl .no aEh aF (fun _=>aCj _) ?_)
 refine al rfl aCZ ?_; intro b1
 refine sw rfl (.u rfl) (.u rfl) rfl aAs .here (by rfl) (uZ (oT _ _) (uY rfl rfl)) ?_
 refine .nil (.code (.seq (aL rfl rfl (aS rfl rfl (.nil (vJ 5 ?_))))))
 refine .code (.ret (We.fin Tryz.results144 (.tmp rfl .nil) (mS aE rfl (mS .here rfl mN)) ?_))
 exact ⟨_,rfl,rfl⟩
theorem aFC (xs ys:List Y) (h:Sh) (vp:Value) (bs:Nat) (G:PM) (hs:SlR G 1 aQ h ys) (hK:RdNP G 1 0 (wa 64 kW)) (hl:xs.length+ys.length≤4611686018427387904):Ct Tryz.prog 145 ([.pointer (some ⟨bs,0,none⟩),h.val ys.length]:List Value).toArray G [.blk bs (cl (iO xs vp) 181),rB vp 5 (eV xs)] (fun _ μ' u=>∃ vp',μ'=[.blk bs (cl (iO (xs++ys) vp') 181),rB vp' 5 (eV (xs++ys))]∧u=.tuple #[]):=by
 refine Ct.of Tryz.func145 rfl Tryz.ntmps145 rfl fun w0 hs0=>?_
 refine .g (pn rfl .no aKu (.u rfl) (.u rfl) ?_)
 refine .g (jQ rfl rfl ?_)
 refine .g (ka rfl (.inr rfl) aEi (aB rfl (aB rfl aF)) (gT .here .here) (aDp _ _ _ _ _ _ hs hK hl) ?_)
 rintro _ G8 μ8 hG8 ⟨vq,rfl,rfl⟩
 refine .g (We.fin Tryz.results145 .nil (mS .here rfl (mS .here rfl mN)) ?_)
 exact ⟨vq,rfl,rfl⟩
theorem aRK {xs:List Y} {vp:Value}:((iO xs vp).drop 0).take 8=wa 8 (eY xs (xs.length / 64)):=by
 rw [List.drop_zero,iO,List.take_append_of_le_length (by rw [bV]; exact Nat.le_refl _),List.take_of_length_le (by rw [bV]; exact Nat.le_refl _)]
theorem aRF {zs:List Value} {xs:List Y} {v:Value} (h:zs.length=10):qG zs [(0,8),(8,1),(9,1)] [wa 8 (eY xs (xs.length / 64)),[v],[.int .i64 (xs.length:Int)]]=iO xs v:=by
 match zs,h with
 | [a,b,c,d,e,f,g,h,i,j],_=>rfl
theorem aNe {n q:Nat} (h:q<8):aBa n q=((BitVec.ofInt 64 (n:Int)*8#64) >>> (56-8*(q:Int)).toNat).setWidth 8:=by
 rw [show (56-8*(q:Int)).toNat=56-8*q by omega]; rfl
theorem aE9 (xs:List Y) (vp:Value) (bs:Nat) (G:PM) (hK:RdNP G 1 0 (wa 64 kW)) (hl:xs.length≤1152921504606846976):Ct Tryz.prog 129 ([.pointer (some ⟨bs,0,none⟩)]:List Value).toArray G [.blk bs (cl (iO xs vp) 181),rB vp 5 (eV xs)] (fun _ μ' u=>μ'=[.blk bs (cl (iO xs vp) 181),rB vp 5 (eV xs)]∧u=.agg (ba 32 (gM xs)).toArray):=by
 refine Ct.of Tryz.func129 rfl Tryz.ntmps129 rfl fun w0 hs0=>?_
 have hr:=xJ xs
 have hz:jL xs.length=(119-xs.length%64)%64:=rfl
 refine .seq (aL rfl rfl ?_)
 refine al rfl fQ ?_; intro b2
 refine .g (kv rfl .no aEh aF (fun _=>aCj _) ?_)
 refine al rfl aCZ ?_; intro b3
 refine sw rfl (.u rfl) (.u rfl) rfl aAs .here (by rfl) (uZ (oT _ _) (uY rfl rfl)) ?_
 refine .g (pn rfl .no aKu (.u rfl) (.u rfl) ?_)
 refine .g (jQ rfl rfl ?_)
 refine aAV bB ?_; intro sRP bbRP evRP lcRP oaRP; subst evRP
 refine bA (mc:=⟨false,true⟩) [0,1,2,3,5,6,7,8,10,11,12,13,4,9,14,15] aX (by kernel_rfl) ?_
 refine .p (nC rfl rfl (fZ rfl pA rfl (lA rfl .no aAa (.u rfl) (fun _=>RdN.part (n:=8) (cs':=wa 8 (eY xs (xs.length / 64))) aN (aRK)) (fun _=>(by first|exact qE|exact qL|rfl)) ?_)))
 refine .p (nC rfl rfl (fZ rfl rD rfl (lO rfl cX rfl aN (by first|exact aJ rfl|rfl) ?_)))
 refine .p (nC rfl rfl (fZ rfl aAd rfl (lO rfl dH rfl aN (by first|exact aJ rfl|rfl) ?_)))
 refine oF rfl aI ?_; intro b16
 refine oD rfl aI bF (.u rfl) (.u rfl) .here (aCb cJ oaRP) (by (try simp only [bM,bK]); omega) ?_
 intro v21 L21 _ ov21 eL21
 have lL21:L21.length=(eV xs).length:=by rw [eL21]
 refine dK (iO xs v21) rfl .no aSZ (.cons (.u rfl) rfl (.cons (.u rfl) (aBD ov21) (.cons (.u rfl) rfl .nil))) rfl (aRF rfl) ?_
 refine sw rfl (.u rfl) (.u rfl) rfl aAs aE (by rfl) (uZ (oT _ _) (uY ov21 rfl)) ?_
 refine .nil (.code (.seq ?_))
 subst eL21
 refine .g (fZ rfl aAd rfl (lO rfl dH rfl .here (by first|exact aJ rfl|rfl) ?_))
 refine ci rfl .no rfl gG (.u rfl) ?_
 refine bw (k:=.u64) (b:=8#64) rfl .no rfl (.u rfl) (.u rfl) rfl (aS rfl rfl (.nc (.seq (bJ rfl rfl ?_))))
 refine wW (1) (72) rfl aI bF (.u rfl) (.u rfl) (by first|rfl|omega) (by first|rfl|omega) (by omega) (by omega) ?_; intro b31
 have lR31:(List.replicate (1) (0#8:Y)).length=1:=List.length_replicate
 refine .g (ia rfl .no aI (.u rfl) (.u rfl) (by omega) (by omega) ?_)
 refine s1r (z:=128#8) rfl (.u rfl) (.u rfl) gQ .here (by omega) ?_; intro Ls6_2 eLs6_2 lLs6_2
 refine .nil (.code (.seq (.block ?_)))
 refine aV (α:=Nat×Value×List Y) (fun gh=>[(5,true,gh.2.1)]) (fun gh=>[rB gh.2.1 5 gh.2.2])
  (fun gh Gl=>(gh.1≤jL xs.length)∧(gh.2.2=128#8 :: List.replicate gh.1 0#8)) (fun gh=>jL xs.length-gh.1) (0,_,_) [(2,true,_),(3,true,_),(4,true,_)] [_,_,_,_,_]
  (aA rfl (aA rfl (aA rfl (aA rfl eZ))))
  (mS .here rfl (mS .here rfl (mS .here rfl (mS .here rfl (mS .here rfl (mS .here rfl mN)))))) ?_ ?_
 ·refine ⟨?_,?_⟩
  ·(try dsimp only)<;>(exact Nat.zero_le _)
  (try dsimp only)<;>(rw [eLs6_2]; rfl)
 intro gh N0 Gl0 hN0 hGl0 hF0
 obtain ⟨j,v,L⟩:=gh; dsimp only at hF0 hN0 ⊢
 obtain ⟨hj,eL⟩:=hF0
 have hK:=hK.mono hGl0
 have lL:L.length=j+1:=by rw [eL]; simp
 have hz:jL xs.length=(119-xs.length%64)%64:=rfl
 refine .g (fZ rfl aAd rfl (lO rfl dH rfl aE (by first|exact aJ rfl|rfl) ?_))
 refine .p (lr rfl .no bU (.u rfl) .here ?_)
 refine aW (((xs.length+L.length):Nat):Int) rfl rfl rfl rfl ?_
 refine rmn ((xs.length+L.length)) (64) rfl .no (.u rfl) (.u rfl) (by omega) (by omega) (fun _=>by first|decide|omega) ?_
 refine cP rfl rfl rfl rfl (.g (cD rfl (fun c1=>?_) (fun c1=>?_)))
 ·have c1k:=c1
  try simp only [aC,aD] at c1
  refine .skip (.code (.block (gK rfl rfl (mV rfl rfl ?_))))
  refine Go.Tan.b1 rfl aI bF (.u rfl) rfl rfl (by decide) ?_; intro b42
  refine dC rfl aI bF (.u rfl) (.u rfl) aE (Sc.one (y:=0#8) .here) (by show _+1≤_; omega) ?_
  intro v43 L43 ov43 eL43
  have lL43:L43.length=L.length+1:=by rw [eL43,List.length_append]; first|rfl | simp [bK]
  refine .g (aP (j+1,v43,L43) ?_ ?_ ?_ ?_ ?_)
  ·exact (aA rfl (aA rfl (aA rfl (aA rfl eZ))))
  ·exact (mS .here rfl (mS aE rfl (mS aE rfl (mS aE rfl (mS aE rfl (mS aE rfl mN))))))
  ·(try dsimp only); omega
  ·exact hGl0
  refine ⟨?_,?_⟩
  ·(try dsimp only)<;>(omega)
  (try dsimp only)<;>(rw [eL43,eL,List.cons_append,←List.replicate_succ'])
 have c1k:=c1
 try simp only [aC,aD] at c1
 refine .exit (.xcode (.xlp (.xblk (.code (.seq (.seq (aL rfl rfl (aS rfl rfl (.nc (.block ?_))))))))))
 refine aV (α:=Nat×Value×List Y) (fun gh=>[(5,true,gh.2.1),(6,true,.int .i64 (56-8*(gh.1:Int)))]) (fun gh=>[rB gh.2.1 5 gh.2.2])
  (fun gh Gl=>(gh.1≤8)∧(gh.2.2=(128#8 :: List.replicate (jL xs.length) 0#8)++qP xs.length gh.1)) (fun gh=>8-gh.1) (0,_,_) [(2,true,_),(3,true,_),(4,true,_)] [_,_,_,_,_]
  (aA rfl (aK rfl (aA rfl (aA rfl (aA rfl eZ)))))
  (mS .here rfl (mS .here rfl (mS .here rfl (mS .here rfl (mS .here rfl (mS .here rfl mN)))))) ?_ ?_
 ·refine ⟨?_,?_⟩
  ·(try dsimp only)<;>(first|omega|rfl|assumption|(simp; done))
  (try dsimp only)<;>(rw [eL,show j=jL xs.length by omega]; simp [qP])
 intro gh N1 Gl1 hN1 hGl1 hF1
 obtain ⟨q,v,L⟩:=gh; dsimp only at hF1 hN1 ⊢
 obtain ⟨hq,eL⟩:=hF1
 have hK:=hK.mono hGl1
 have lL:L.length=jL xs.length+1+q:=by rw [eL]; simp [aDP]; omega
 refine .g (cP rfl rfl rfl rfl (.g (cD rfl (fun c2=>?_) (fun c2=>?_))))
 ·have c2k:=c2
  try simp only [aC,aD] at c2
  refine .g (jH (k:=.u64) rfl .no (.u rfl) (.u rfl) (by omega) ?_)
  refine cu (k:=.u64) rfl .no rfl nY (.u rfl) ?_
  refine Go.Tan.b1 rfl aI bF (.u rfl) rfl rfl (by decide) ?_; intro b53
  refine dC rfl aI bF (.u rfl) (.u rfl) aE (Sc.one .here) (by show _+1≤_; omega) ?_
  intro v54 L54 ov54 eL54
  have lL54:L54.length=L.length+1:=by rw [eL54,List.length_append]; first|rfl | simp [bK]
  refine .g (aR rfl rfl rfl rfl ?_)
  refine .g (aP (q+1,v54,L54) ?_ ?_ ?_ ?_ ?_)
  ·exact (aA rfl (aK rfl (aA rfl (aA rfl (aA rfl eZ)))))
  ·exact (mS .here rfl (mS aE rfl (mS aE rfl (mS aE rfl (mS aE rfl (mS aE rfl mN))))))
  ·first|omega|(dsimp only; omega)
  ·exact hGl1
  refine ⟨?_,?_⟩
  ·(try dsimp only)<;>(first|omega|rfl|assumption|(simp; done))
  (try dsimp only)<;>(rw [eL54,eL,aGz,←List.append_assoc,aNe (by omega)]; rfl)
 have c2k:=c2
 try simp only [aC,aD] at c2
 refine .exit (.xcode (.xlp (.xblk (.code (.seq ?_)))))
 have e8:L=aAS xs.length:=by rw [eL,show q=8 by omega]; rfl
 subst e8
 have lt:=aEE xs.length
 have hz:jL xs.length=(119-xs.length%64)%64:=rfl
 refine iP .here (aNZ (mS bB rfl (mS bB rfl mN))) ?_; intro GfR31 hR31 hleR31 evR31 hsR31; subst evR31
 have hK:=hK.mono hleR31
 refine .g (ka rfl (.inr rfl) aEi (aB rfl (aB rfl aF)) (gT .here .here) (aDp xs (aAS xs.length) _ _ _ _ hsR31 hK (by omega)) ?_)
 rintro _ G56 μ56 hG56 ⟨vq,rfl,rfl⟩
 refine .nil (.code (.seq (aL rfl rfl ?_)))
 refine al rfl fQ ?_; intro b7
 refine .nil (.code (.seq (.seq (aL rfl rfl (mV rfl rfl (.nc (.block ?_)))))))
 refine aV (α:=Nat×(Nat→Y)) (fun gh=>[(57,true,.int .i64 (gh.1:Int))]) (fun gh=>[.blk b7 (cl (ba 32 gh.2) 23)])
  (fun gh Gl=>(gh.1≤32)∧(gh.2=gB (gM xs) gh.1)) (fun gh=>32-gh.1) (0,fun _=>0#8) [(2,true,_),(3,true,_),(7,true,_)] [_,_,_,_,_]
  (aK rfl (aA rfl (aA rfl (aA rfl eZ))))
  (mS .here rfl (mS .here rfl (mS .here rfl (mS .here rfl (mS .here rfl (mS .here rfl mN)))))) ?_ ?_
 ·refine ⟨?_,?_⟩
  ·(try dsimp only)<;>(first|omega|rfl|assumption|(simp; done))
  (try dsimp only)<;>(first|omega|rfl|assumption|(simp; done))
 intro gh N2 Gl2 hN2 hGl2 hF2
 obtain ⟨i,f⟩:=gh; dsimp only at hF2 hN2 ⊢
 obtain ⟨hi,ef⟩:=hF2
 refine .g (cP rfl rfl rfl rfl (.g (cD rfl (fun c3=>?_) (fun c3=>?_))))
 ·have c3k:=c3
  try simp only [aC,aD] at c3
  refine .g (qun (i) (4) rfl .no (.u rfl) (.u rfl) (by omega) (by omega) (fun _=>by first|decide|omega) (by omega) ?_)
  refine fZ rfl pA rfl (iW rfl dN rfl rfl ?_)
  refine lO rfl bH rfl aE (by first|exact bG ((i / 4)) (by omega) (by omega)|exact cU ((i / 4)) (by omega) (by omega)|exact dB ((i / 4)) (by omega) (by omega)|rfl) ?_
  refine .p (rmn (i) (4) rfl .no (.u rfl) (.u rfl) (by omega) (by omega) (fun _=>by first|decide|omega) ?_)
  refine cQ (((8*(i%4)):Nat):Int) rfl .no (.u rfl) (.u rfl) rfl (by omega) (fun _=>bO (by omega) (by omega)) ?_
  refine cQ (((24-8*(i%4)):Nat):Int) rfl .no (.u rfl) (.u rfl) rfl (by omega) (fun _=>bO (by omega) (by omega)) ?_
  refine jH (k:=.u32) rfl .no (.u rfl) (.u rfl) (by omega) ?_
  refine cu (k:=.u32) rfl .no rfl vK (.u rfl) ?_
  refine iW rfl fU rfl rfl ?_
  refine s1 rfl (.u rfl) (.u rfl) rfl gQ .here (by first|decide|(simp only [bV,bT,bM]; omega)) (by first|exact cY (i) (by omega)|exact iH (i) (by omega)|exact mJ (i) (by omega) (by omega)|rfl) ?_
  refine .g (aW (((i+1):Nat):Int) rfl rfl rfl rfl ?_)
  refine .g (aP (i+1,upd f i (gM xs i)) ?_ ?_ ?_ ?_ ?_)
  ·exact (aK rfl (aA rfl (aA rfl (aA rfl eZ))))
  ·exact (mS .here rfl (mS .here rfl (mS .here rfl (mS .here rfl (mS .here rfl (mS .here rfl mN))))))
  ·first|omega|(dsimp only; omega)
  ·exact hGl2
  refine ⟨?_,?_⟩
  ·(try dsimp only)<;>(first|omega|rfl|assumption|(simp; done))
  (try dsimp only)<;>(rw [ef]; rfl)
 have c3k:=c3
 try simp only [aC,aD] at c3
 refine .g (lB rfl dY rfl .here ?_)
 refine sW rfl rfl rfl rfl fB bB ?_
 refine .nil (.code (.ret (We.fin Tryz.results129 (.cell rfl (fun w hw=>bI dY (RdN.own .here) ((by first|exact qE|exact qL|rfl)) hw) .nil) (mS cJ rfl (mS cJ rfl mN)) ?_)))
 obtain rfl:i=32:=by omega
 exact ⟨rfl,by rw [ef,iG (fun i hi=>(kO (gM xs) hi).symm)]; rfl⟩
end Go.Proofs.YtdeobooblmjlfaaGreatDoor
namespace Go.Tan
open Go.RowKit
structure PB (G:PM) (b:Nat) (o:Obj):Prop where
 h:G b=some o
theorem PB.mono {G G':PM} {b:Nat} {o:Obj} (h:PB G b o) (hle:PM.le G G'):PB G' b o:=⟨hle b o h.h⟩
theorem PB.rdn {G:PM} {b o m:Nat} {cs cs':List Value} {T:TypeId} (h:PB G b (cl cs T)) (hc:(cs.drop o).take m=cs'):RdNP G b o cs':=fun j v hj=>by
 subst hc
 refine RdP.blk h.h ?_
 rw [List.getElem?_take] at hj
 split at hj
 ·rw [List.getElem?_drop] at hj; exact hj
 cases hj
theorem PB.rd {G:PM} {b o:Nat} {cs:List Value} {T:TypeId} {v:Value} (h:PB G b (cl cs T)) (hv:cs[o]? = some v):RdP G ⟨b,o,none⟩ v:=RdP.blk h.h hv
theorem PB.sl {G:PM} {b o m cap:Nat} {cs:List Value} {T:TypeId} {f:Nat→Y} (h:PB G b (cl cs T)) (hc:(cs.drop o).take m=ba m f) (hm:m≤cap):SlR G 1 aQ ⟨some ⟨b,o,none⟩,cap⟩ (yl m f) :=
 SlR.ofRow (fun _ _=>rfl) (by rw [bK]; exact hm) (fun _=>rfl) (by rw [aEW]; exact h.rdn hc)
theorem SlR.arr {G:PM} {s:Sh} {xs:List Y} {m:Nat} (h:SlR G 1 aQ s xs) (hm:m≤xs.length):RdNP G s.b s.o (ba m (fun i=>xs.getD i 0)):=by
 intro j v hj
 have hlt:j<m:=by have:=(List.getElem?_eq_some_iff.1 hj).1; rwa [bT] at this
 rw [wE hlt] at hj
 obtain rfl:=Option.some.inj hj
 have:=h.rd j (xs.getD j 0) (by simp [show j<xs.length by omega]) 0 _ rfl
 simpa using this
theorem aCh {m q:Nat} {f:Nat→Y} (h:q≤m):((ba m f).drop 0).take q=ba q f:=by
 rw [List.drop_zero]
 refine List.ext_getElem? fun j=>?_
 rw [List.getElem?_take]
 by_cases hj:j<q
 ·rw [if_pos hj,wE hj,wE (by omega)]
 rw [if_neg hj,List.getElem?_eq_none (by rw [bT]; omega)]
theorem oG {m:Nat} {f:Nat→Y}:((ba m f).drop 0).take m=ba m f:=aCh (Nat.le_refl m)
theorem mT {m:Nat} {f:Nat→Y} {r:List Value}:((ba m f++r).drop 0).take m=ba m f:=by
 rw [List.drop_zero,List.take_append_of_le_length (by rw [bT]; exact Nat.le_refl _),List.take_of_length_le (by rw [bT]; exact Nat.le_refl _)]
theorem oE {m q:Nat} {f f':Nat→Y}:((ba m f++ba q f').drop m).take q=ba q f':=by
 have h:(ba m f++ba q f').drop m=ba q f':=by have:=List.drop_left (l₁:=ba m f) (l₂:=ba q f'); rwa [bT] at this
 rw [h,List.take_of_length_le (by rw [bT]; exact Nat.le_refl _)]
def oH (p:Sh×List Y):List Value:=[p.1.val p.2.length]
structure SlP (G:PM) (h:Sh) (ps:List (Sh×List Y)):Prop where
 sl:SlR G 1 oH h ps
 all:∀ p∈ps,SlR G 1 aQ p.1 p.2
theorem SlP.mono {G G':PM} {h:Sh} {ps:List (Sh×List Y)} (s:SlP G h ps) (hle:PM.le G G'):SlP G' h ps:=⟨s.sl.mono hle,fun p hp=>(s.all p hp).mono hle⟩
theorem iJ {α:Type} {k:Nat} {xs:List α} (h:k<xs.length):∃ x,xs[k]? = some x:=⟨xs[k],by simp [h]⟩
theorem SlP.at {G:PM} {h:Sh} {ps:List (Sh×List Y)} (s:SlP G h ps) {j:Int} (k:Nat) {p:Sh×List Y} (hj:j.toNat=k) (hp:ps[k]? = some p):RdP G ⟨h.b,h.o+j.toNat*1,none⟩ (p.1.val p.2.length):=by
 have:=(s.sl.nth k hj hp) 0 _ rfl
 simpa using this
theorem SlP.get {G:PM} {h:Sh} {ps:List (Sh×List Y)} (s:SlP G h ps) {k:Nat} {p:Sh×List Y} (hp:ps[k]? = some p):SlR G 1 aQ p.1 p.2:=s.all p (List.mem_of_getElem? hp)
def cV (ps:List (Sh×List Y)):List Y:=ps.flatMap (·.2)
theorem wF {ps:List (Sh×List Y)} {k:Nat} {p:Sh×List Y} (hp:ps[k]? = some p):cV (ps.take (k+1))=cV (ps.take k)++p.2:=by
 have hlt:k<ps.length:=(List.getElem?_eq_some_iff.1 hp).1
 have e:ps[k]=p:=(List.getElem?_eq_some_iff.1 hp).2
 rw [cV,List.take_succ_eq_append_getElem hlt,List.flatMap_append,e]; simp [cV]
theorem aCp {ps:List (Sh×List Y)} {k:Nat} {p:Sh×List Y} (hp:ps[k]? = some p):(cV (ps.take k)).length+p.2.length≤(cV ps).length:=by
 have h1:=congrArg List.length (wF hp)
 rw [List.length_append] at h1
 rw [← h1]
 conv=>rhs; rw [← List.take_append_drop (k+1) ps]
 rw [cV,cV,List.flatMap_append,List.length_append]; omega
section
variable {dr:Bool} {mc:Md} {P:Program} {n:Nat} {l:List Oper} {K:aO→PM→aH→Prop} {i:Nat} {σ:List Nat} {ρ:aO} {G:PM} {μ:aH}
variable {d t:Nat} {p:String} {af:Array Edge} {g:Option (Nat×Bool)} {c:Bool}
theorem fP {X:Cx} {cd:Code} {k:List KI} {b:Nat} {o:Obj} {μ':aH} (hm:MTake μ (.blk b o) μ') (hK:∀ b∈X.K0,b∈keys μ') (h:∀ G',PM.le G G'→PB G' b o→Wk X cd k ρ G' μ'):Wk X cd k ρ G μ :=
 ⟨fun a w ha ht=>by
  have ht':=ht.perm hm.perm
  have hk:keys (.blk b o :: μ')=b :: keys μ':=by simp [keys,Res.keys]
  have hnd:=ht'.sat.nodup
  rw [hk] at hnd
  have hG:G b=none:=ht'.sat.apart b (by rw [hk]; exact List.mem_cons_self ..)
  exact (h _ (sK hG) ⟨gI G b o⟩).out a w ha (ht'.freeze fun hb=>(List.nodup_cons.1 hnd).1 (hK b hb))⟩
theorem kA {T T' m e b o:Nat} {x:Operand} {cs:List Value} {f:Nat→Y} (ho:nth l i=some ⟨some d,.slice T x none none none,t,p,af,g⟩) (hg:Gd l ρ g c) (hT:gP P T=some (m,e,1)) (hx:Ev ρ c x (.pointer (some ⟨b,o,none⟩))) (hG:PB G b (cl cs T')) (hc:(cs.drop o).take m=ba m f)
  (h:∀ s' L,L=yl m f→L.length=m→SlR G 1 aQ s' L→Wo dr mc P n l K σ ((d,c,s'.val L.length) :: ρ) G μ):Wo dr mc P n l K (i :: σ) ρ G μ:=by
 refine lG ho hg hT hx ?_
 have:=h ⟨some ⟨b,o,none⟩,m⟩ (yl m f) rfl (bK m f) (hG.sl hc (Nat.le_refl m))
 rw [bK] at this
 exact this
theorem sah {T m e sz:Nat} {x z:Operand} {k:IntKind} {b o:Nat} {hi:Int} (ho:nth l i=some ⟨some d,.slice T x none (some z) none,t,p,af,g⟩) (hg:Gd l ρ g c) (hT:gP P T=some (m,e,sz)) (hx:Ev ρ c x (.pointer (some ⟨b,o,none⟩))) (hz:Ev ρ c z (.int k hi))
  (h0:c=true→0≤hi) (h1:c=true→hi≤m) (h:Wo dr mc P n l K σ ((d,c,.slice (some ⟨b,o,none⟩) hi.toNat m) :: ρ) G μ):Wo dr mc P n l K (i :: σ) ρ G μ :=
 .pure ho (.inl rfl) hg (fun hc a w ha=>by
  obtain ⟨hu,inf,hi',hs⟩:=sM hT
  have e0:=h0 hc; have e1:=h1 hc
  simp [execOp,hx.eval ha hc,hz.eval ha hc,Instr.sliceAt,run_underlying hu,Instr.sureAddr,Instr.sliceBounds,Instr.sliceBound,asIntOf,sizeOf,typeInfo,hi',e0,e1,aA7]) h
theorem sp {T m e sz k cap:Nat} {x:Operand} {ad:Addr} (ho:nth l i=some ⟨some d,.sliceToArrayPointer T x,t,p,af,g⟩) (hg:Gd l ρ g c) (hT:gP P T=some (m,e,sz)) (hx:Ev ρ c x (.slice (some ad) k cap)) (hm:c=true→m≤k)
  (h:Wo dr mc P n l K σ ((d,c,.pointer (some ad)) :: ρ) G μ):Wo dr mc P n l K (i :: σ) ρ G μ :=
 .pure ho (.inl rfl) hg (fun hc a w ha=>by
  obtain ⟨hu,inf,hi',hs⟩:=sM hT
  have:=hm hc
  simp [execOp,hx.eval ha hc,Instr.arrayAt,run_underlying hu,show ¬ k<m by omega]) h
theorem spS {T m e sz:Nat} {x:Operand} {s:Sh} {xs:List Y} (ho:nth l i=some ⟨some d,.sliceToArrayPointer T x,t,p,af,g⟩) (hg:Gd l ρ g c) (hT:gP P T=some (m,e,sz)) (hs:SlR G 1 aQ s xs) (hx:Ev ρ c x (s.val xs.length)) (hm:c=true→m≤xs.length) (h0:0<m)
  (h:Wo dr mc P n l K σ ((d,c,.pointer (some ⟨s.b,s.o,none⟩)) :: ρ) G μ):Wo dr mc P n l K (i :: σ) ρ G μ :=
 .pure ho (.inl rfl) hg (fun hc a w ha=>by
  obtain ⟨hu,inf,hi',hsz⟩:=sM hT
  have h1:=hm hc
  have e:=hs.nn (k:=0) (by omega)
  have hx':=hx.eval ha hc
  simp only [Sh.val] at hx'
  rw [e] at hx'
  simp [execOp,hx',Instr.arrayAt,run_underlying hu,show ¬ xs.length<m by omega]) h
def wD (P:Program) (T m:Nat):Bool:=match P.underlying T with
 | some (.array k e)=>(match P.underlying e with | some (.int .u8)=>true | _=>false)&&Nat.beq k m&&Nat.beq (P.cellsOf e) 1&&Nat.beq (P.cellsOf T) m&&P.keyTypeAt 2 T && !P.eqGuardType P.depth T
 | _=>false
theorem aCf {T m:Nat} {f:Nat→Y} (h:wD P T m=true):P.keyLits 2 T (ba m f)=some ((yl m f).map fun y=>Lit.int .u8 y.toNat)∧(Value.agg (ba m f).toArray).formed P T=true∧P.keyTypeAt 2 T=true∧P.eqGuardType P.depth T=false:=by
 unfold wD at h
 split at h
 ·rename_i k e hu
  simp only [Bool.and_eq_true,Bool.not_eq_true'] at h
  obtain ⟨⟨⟨⟨⟨he,hk⟩,hce⟩,hcT⟩,hkt⟩,hgu⟩:=h
  split at he
  ·rename_i hue
   have hk:=Nat.eq_of_beq_eq_true hk
   have hce:=Nat.eq_of_beq_eq_true hce
   have hcT:=Nat.eq_of_beq_eq_true hcT
   subst hk
   refine ⟨?_,?_,hkt,hgu⟩
   ·have hone:∀ q∈List.range k,P.keyLits 1 e (((ba k f).drop (q*P.cellsOf e)).take (P.cellsOf e))=some [Lit.int .u8 (f q).toNat]:=by
     intro q hq
     have hq:=List.mem_range.1 hq
     rw [hce,Nat.mul_one]
     have hd:((ba k f).drop q).take 1=[V (f q)]:=by
      refine List.ext_getElem? fun j=>?_
      rw [List.getElem?_take,List.getElem?_drop]
      cases j with
      | zero=>simp [wE hq]
      | succ j=>simp
     rw [hd]
     have hlt:=(f q).isLt
     unfold Program.keyLits
     simp [hue,Lit.wf,V,uv,IntKind.min,IntKind.max,IntKind.signed,IntKind.bits]
     omega
    have hmap:∀ (r:List Nat),(∀ q∈r,P.keyLits 1 e (((ba k f).drop (q*P.cellsOf e)).take (P.cellsOf e))=some [Lit.int .u8 (f q).toNat]) →
      r.mapM (fun q=>P.keyLits 1 e (((ba k f).drop (q*P.cellsOf e)).take (P.cellsOf e)))=some (r.map fun q=>[Lit.int .u8 (f q).toNat]):=by
     intro r
     induction r with
     | nil=>intro _; simp
     | cons a r ih=>intro hr; simp [List.mapM_cons,hr a (List.mem_cons_self ..),ih (fun q hq=>hr q (List.mem_cons_of_mem _ hq))]
    have hfl:∀ r:List Nat,(r.map fun q=>[Lit.int .u8 (f q).toNat]).flatten=(r.map f).map fun y=>Lit.int .u8 y.toNat:=by
     intro r
     induction r with
     | nil=>rfl
     | cons a r ih=>simp only [List.map_cons,List.flatten_cons,ih]; rfl
    unfold Program.keyLits
    simp only [hu,bT,hcT,if_true,hmap _ hone,Option.map_some,hfl]
    rfl
   simp [Value.formed,hu,bT,hcT]
  cases he
 cases h
theorem aNg {m:Nat} {f f':Nat→Y} (h:((yl m f).map fun y=>Lit.int .u8 y.toNat)=(yl m f').map fun y=>Lit.int .u8 y.toNat):yl m f=yl m f':=by
 have key:∀ (xs ys:List Y),(xs.map fun y=>Lit.int .u8 y.toNat)=(ys.map fun y=>Lit.int .u8 y.toNat)→xs=ys:=by
  intro xs
  induction xs with
  | nil=>intro ys h; cases ys with
   | nil=>rfl
   | cons y ys=>simp at h
  | cons x xs ih=>intro ys h; cases ys with
   | nil=>simp at h
   | cons y ys =>
    simp only [List.map_cons,List.cons.injEq,Lit.int.injEq,true_and] at h
    rw [ih ys h.2,BitVec.eq_of_toNat_eq (x:=x) (y:=y) (by omega)]
 exact key _ _ h
theorem aQT {T m:Nat} {f f':Nat→Y} (h:wD P T m=true) (w:World):(Op.equal T (.agg (ba m f).toArray) (.agg (ba m f').toArray)).run P w=.ok (decide (yl m f=yl m f')) w:=by
 obtain ⟨h1,h2,h3,h4⟩:=aCf (f:=f) h
 obtain ⟨h1',h2',_,_⟩:=aCf (f:=f') h
 obtain ⟨r,hr,hiff⟩:=run_equalIn_deep 9998 2 T h3 w 2 2 _ _ _ _ h2 h2' (by simpa [Value.cells] using h1) (by simpa [Value.cells] using h1')
 have:r=decide (yl m f=yl m f'):=by
  by_cases e:yl m f=yl m f'
  ·rw [decide_eq_true e]; exact hiff.2 (by rw [e])
  ·rw [decide_eq_false e]
   cases r with
   | false=>rfl
   | true=>exact absurd (aNg (hiff.1 rfl)) e
 rw [← this]; exact hr
theorem nqB {T T' m:Nat} {x y:Operand} {f f':Nat→Y} (ho:nth l i=some ⟨some d,.binOp .neq T x y T',t,p,af,g⟩) (hg:Gd l ρ g c) (hT:wD P T m=true) (hx:Ev ρ c x (.agg (ba m f).toArray)) (hy:Ev ρ c y (.agg (ba m f').toArray))
  (h:Wo dr mc P n l K σ ((d,c,.bool (!decide (yl m f=yl m f'))) :: ρ) G μ):Wo dr mc P n l K (i :: σ) ρ G μ :=
 .pure ho (.inl rfl) hg (fun hc a w ha=>by
  simp [execOp,hx.eval ha hc,hy.eval ha hc,aC3 (aCf (f:=f) hT).2.2.2,binOp,aQT hT]) h
def WoT (P:Program) (n:Nat) (l:List Oper) (K:aO→PM→aH→Prop):Nat→Array Bool→aO→PM→aH→Prop
 | 0,listed,ρ,G,μ=>dX l listed=[]∧K ρ G μ
 | m+1,listed,ρ,G,μ=>dX l listed≠[]∧∀ j∈dX l listed,Wo false (⟨false,false⟩ : Md) P n l (fun ρ' G' μ'=>WoT P n l K m (listed.setIfInBounds j true) ρ' G' μ') [j] ρ G μ
theorem WoT.any {K:aO→PM→aH→Prop} {Q:Exit→Act→World→Prop} {G0:PM} {K0:List Nat} {w0:World} (hds:∀ j oj,nth l j=some oj→kI n oj.dst)
  (hQ:∀ ρ G μ,K ρ G μ→∀ a w,Ag n ρ a→Tr G0 K0 w0 G μ w→Q .normal a w) :
  ∀ (m:Nat) (listed:Array Bool) (ρ:aO) (G:PM) (μ:aH) (a:Act) (w:World),WoT P n l K m listed ρ G μ→Ag n ρ a→Tr G0 K0 w0 G μ w→wpAny P .any l.toArray Q m listed a w
 | 0,listed,ρ,G,μ,a,w,H,ha,ht=>⟨H.1,hQ _ _ _ H.2 a w ha ht⟩
 | m+1,listed,ρ,G,μ,a,w,H,ha,ht=>by
  refine ⟨fun h0=>absurd h0 H.1,fun j hj=>?_⟩
  obtain ⟨o,ho,h⟩:=(H.2 j hj).head ha ht (next:=wpAny P .any l.toArray Q m (listed.setIfInBounds j true)) (Q:=Q) hds
   (fun ρ' G' μ' a' w' H' ha' ht'=>by cases H' with | nil h=>exact WoT.any hds hQ m _ ρ' G' μ' a' w' h ha' ht')
  simp only [wpOp,oL,ho]
  split
  ·rename_i hw; rw [if_pos hw] at h; exact .inl h
  rename_i hw; rw [if_neg hw] at h; exact h
theorem aCc {X:Cx} {k:List KI} {id:Nat} {ρ:aO} {G:PM} {μ:aH} {l:List Oper} (hm:X.P.follows .mixedOrders=true) (hds:kH X.n l=true)
  (h:WoT X.P X.n l (fun ρ G μ=>We X .normal k ρ G μ) l.length (Array.replicate l.length false) ρ G μ):Wk X (.region id l.toArray true) k ρ G μ:=by
 refine ⟨fun a w ha ht=>wp_region_any hm ?_⟩
 have:=WoT.any (Q:=nJ X k) (aFy hds) (fun _ _ _ h a w ha ht=>h.out a w ha ht) l.length (Array.replicate l.length false) ρ G μ a _ h ha ht.drew
 simpa using this
theorem WoT.last {K:aO→PM→aH→Prop} {listed:Array Bool} (hr:dX l listed=[]) (h:K ρ G μ):WoT P n l K 0 listed ρ G μ:=⟨hr,h⟩
theorem WoT.n1 {K:aO→PM→aH→Prop} {m:Nat} {listed:Array Bool} (j:Nat) (hr:dX l listed=[j]) (h:Wo false (⟨false,false⟩ : Md) P n l (fun ρ' G' μ'=>WoT P n l K m (listed.setIfInBounds j true) ρ' G' μ') [j] ρ G μ):WoT P n l K (m+1) listed ρ G μ :=
 ⟨by rw [hr]; simp,fun j' hj'=>by rw [hr] at hj'; obtain rfl:=List.mem_singleton.1 hj'; exact h⟩
theorem WoT.n2 {K:aO→PM→aH→Prop} {m:Nat} {listed:Array Bool} (j j2:Nat) (hr:dX l listed=[j,j2]) (h:Wo false (⟨false,false⟩ : Md) P n l (fun ρ' G' μ'=>WoT P n l K m (listed.setIfInBounds j true) ρ' G' μ') [j] ρ G μ)
  (h2:Wo false (⟨false,false⟩ : Md) P n l (fun ρ' G' μ'=>WoT P n l K m (listed.setIfInBounds j2 true) ρ' G' μ') [j2] ρ G μ):WoT P n l K (m+1) listed ρ G μ :=
 ⟨by rw [hr]; simp,fun j' hj'=>by
  rw [hr] at hj'
  rcases List.mem_cons.1 hj' with rfl | hj'
  ·exact h
  ·obtain rfl:=List.mem_singleton.1 hj'; exact h2⟩
def csT (P:Program) (S:TypeId):Bool:=match P.underlying S with
 | some (.slice e)=>match P.underlying e with | some (.int .u8)=>true | _=>false
 | _=>false
theorem aMy {w:World} {b k E:Nat} {C:Array Value} (hb:w.heap[b]? = some (.cells C E (0,0))):∃ fr,(w.freeze ⟨b,k,none⟩ 1).heap[b]? = some (.cells C E fr)∧(∀ c,c≠b→(w.freeze ⟨b,k,none⟩ 1).heap[c]? = w.heap[c]?)∧(w.freeze ⟨b,k,none⟩ 1).heap.size=w.heap.size∧(w.freeze ⟨b,k,none⟩ 1).os=w.os∧(w.freeze ⟨b,k,none⟩ 1).tape=w.tape∧(w.freeze ⟨b,k,none⟩ 1).output=w.output:=by
 unfold World.freeze
 rw [if_neg (by decide)]
 refine ⟨(k,k+1),?_,fun c hc=>?_,by simp,rfl,rfl,rfl⟩
 ·have hlt:b<w.heap.size:=(Array.getElem?_eq_some_iff.1 hb).1
  have hv:=(Array.getElem?_eq_some_iff.1 hb).2
  rw [Array.getElem?_eq_getElem (by simpa using hlt),Array.getElem_modify]; simp [hv]
 simp only [Array.getElem?_modify]
 rw [if_neg (fun e=>hc e.symm)]
theorem mkS {S E b m cap:Nat} {x:Operand} {cs:List Value} {μ':aH} (ys:List Y) (hdf:dr=false) (ho:nth l i=some ⟨some d,.convert S S x,t,p,af,none⟩) (hS:csT P S=true) (hx:Ev ρ true x (.slice (some ⟨b,0,none⟩) m cap)) (hm:MTake μ (.blk b (cl cs E)) μ') (hcs:cs=ys.map V) (hn:ys.length=m) (hcap:m≤cap)
  (h:∀ G',PM.le G G'→SlR G' 1 aQ ⟨some ⟨b,0,none⟩,cap⟩ ys→Wo dr mc P n l K σ ((d,true,Sh.val ⟨some ⟨b,0,none⟩,cap⟩ ys.length) :: ρ) G' μ'):Wo dr mc P n l K (i :: σ) ρ G μ:=by
 subst hn; subst hcs
 refine .act (μ₁:=[.blk b (cl (ys.map V) E)]) (μ₂:=μ') (post:=fun G' μ' v=>μ'=[]∧v=.slice (some ⟨b,0,none⟩) ys.length cap∧∃ fr,G' b=some (.cells (ys.map V).toArray E fr)) ho (.inr hdf) .no hm.perm (fun a w ha hs=>.inl ?_) ?_
 ·unfold csT at hS
  split at hS
  ·rename_i e hu
   split at hS
   ·rename_i hue
    have hs':=hs.left
    have hb:w.heap[b]? = some (cl (ys.map V) E):=hs'.own _ (List.mem_singleton.2 rfl)
    have hG:G b=none:=hs'.apart b (by simp [keys,Res.keys])
    obtain ⟨fr,h1,h2,h3,h4,h5,h6⟩:=aMy (k:=(ys.map V).toArray.size) hb
    have hsh:w.shape? b=some (E,(ys.map V).toArray.size):=by unfold World.shape?; rw [hb]
    refine ⟨_,w.freeze ⟨b,(ys.map V).toArray.size,none⟩ 1,G.add b (.cells (ys.map V).toArray E fr),[],.inl ?_,?_,rfl,rfl,fr,gI _ _ _⟩
    ·simp [execOp,hx.eval ha rfl,convert,run_underlying hu,run_underlying hue,markStringish,hsh]
    refine ⟨⟨fun c u hc=>?_,(fun r hr=>nomatch hr),(fun c hc=>nomatch hc),List.nodup_nil⟩,h4,h5,h6,by omega,fun c hc hK=>?_,(fun c hc=>nomatch hc),fun c u hK hc=>?_⟩
    ·unfold PM.add at hc
     split at hc
     ·rename_i e; subst e; rw [← hc]; exact h1
     rename_i hne; rw [h2 c hne]; exact hs.sub c u hc
    ·have hne:c≠b:=fun e=>hK (by simp [keys,Res.keys,e])
     exact ⟨h2 c hne,by unfold PM.add; rw [if_neg hne]⟩
    have hne:c≠b:=fun e=>hK (by simp [keys,Res.keys,e])
    unfold PM.add; rw [if_neg hne]; exact hc
   cases hS
  cases hS
 rintro v G' μ'' hle ⟨rfl,rfl,fr,hG'⟩
 refine h G' hle (SlR.ofRow (fun _ _=>rfl) hcap (fun _=>rfl) ?_)
 rw [uN]
 intro j u hj w hs
 show w.cell? ⟨b,0+j,none⟩=some u
 rw [Nat.zero_add,cell_of_row w b j _ E fr (hs b _ hG')]
 simpa using hj
theorem fT {e:Bool} {dd:Nat} (e':Bool) (h:e=e') (H:Wo dr mc P n l K σ ((dd,c,.bool e') :: ρ) G μ):Wo dr mc P n l K σ ((dd,c,.bool e) :: ρ) G μ:=by rw [h]; exact H
theorem eH {o:Oper} (v:Value) (ho:nth l i=some o) (hk:cA mc o.op=.pure) (hg:Gd l ρ o.guard false) (h:Wo dr mc P n l K σ (dM ρ o.dst false v) G μ):Wo dr mc P n l K (i :: σ) ρ G μ :=
 .pure ho (.inl hk) hg (fun hc=>nomatch hc) h
theorem iB {o:Oper} (v:Value) (ho:nth l i=some o) (hk:cA mc o.op=.read) (hg:Gd l ρ o.guard false) (h:Wo dr mc P n l K σ (dM ρ o.dst false v) G μ):Wo dr mc P n l K (i :: σ) ρ G μ :=
 .read ho (.inl hk) hg (fun hc=>nomatch hc) h
theorem ska {o:Oper} (v:Value) (ho:nth l i=some o) (hk:cA mc o.op=.act) (hg:Gd l ρ o.guard false) (h:Wo dr mc P n l K σ (dM ρ o.dst false v) G μ):Wo dr mc P n l K (i :: σ) ρ G μ :=
 .callv (f:=0) (args:=#[]) (Gp:=G) ho (.inr (.inl hk)) hg (fun hc=>nomatch hc) (fun hc=>nomatch hc) h
theorem xQ {o:Oper} (v:Value) (ho:nth l i=some o) (hk:cA mc o.op=.call) (hg:Gd l ρ o.guard false) (h:Wo dr mc P n l K σ (dM ρ o.dst false v) G μ):Wo dr mc P n l K (i :: σ) ρ G μ :=
 .callv (f:=0) (args:=#[]) (Gp:=G) ho (.inl hk) hg (fun hc=>nomatch hc) (fun hc=>nomatch hc) h
theorem mw {T T':TypeId} {x y:Operand} {k:IntKind} {a b:BitVec k.bits} (ho:nth l i=some ⟨some d,.binOp .rem T x y T',t,p,af,g⟩) (hg:Gd l ρ g c) (hx:Ev ρ c x (uv k a)) (hy:Ev ρ c y (uv k b)) (h0:c=true→b≠0#k.bits)
  (h:Wo dr mc P n l K σ ((d,c,uv k (a%b)) :: ρ) G μ):Wo dr mc P n l K (i :: σ) ρ G μ :=
 .pure ho (.inl rfl) hg (fun hc q w ha=>by
  have e1:=hx.eval ha hc; have e2:=hy.eval ha hc
  have hq:(eqGuard .rem T x y (uv k a) (uv k b)).run P w=.ok () w:=kX ..
  have hb:(b.toNat:Int)≠0:=fun e=>h0 hc (BitVec.eq_of_toNat_eq (by simpa using e))
  have e3:((a.toNat:Int).tmod (b.toNat:Int))=(((a%b).toNat:Nat):Int):=by rw [BitVec.toNat_umod]; rfl
  have hb2:¬ b.toNat=0:=fun e=>hb (by rw [e]; rfl)
  simp only [execOp,e1,e2,Sem.run_bind,hq,Result.andThen_ok]
  simp [binOp,uv,Op.intDiv,hb2]
  simpa using e3) h
theorem dw {T T':TypeId} {x y:Operand} {k:IntKind} {a b:BitVec k.bits} (ho:nth l i=some ⟨some d,.binOp .quo T x y T',t,p,af,g⟩) (hg:Gd l ρ g c) (hk:k.signed=false) (hx:Ev ρ c x (uv k a)) (hy:Ev ρ c y (uv k b)) (h0:c=true→b≠0#k.bits)
  (h:Wo dr mc P n l K σ ((d,c,uv k (a / b)) :: ρ) G μ):Wo dr mc P n l K (i :: σ) ρ G μ :=
 .pure ho (.inl rfl) hg (fun hc q w ha=>by
  have e1:=hx.eval ha hc; have e2:=hy.eval ha hc
  have hq:(eqGuard .quo T x y (uv k a) (uv k b)).run P w=.ok () w:=kX ..
  have hb:(b.toNat:Int)≠0:=fun e=>h0 hc (BitVec.eq_of_toNat_eq (by simpa using e))
  have e3:k.wrap ((a.toNat:Int).tdiv (b.toNat:Int))=(((a / b).toNat:Nat):Int):=by
   have:((a.toNat:Int).tdiv (b.toNat:Int))=(((a / b).toNat:Nat):Int):=by rw [BitVec.toNat_udiv]; rfl
   rw [this,yC hk]
  have hb2:¬ b.toNat=0:=fun e=>hb (by rw [e]; rfl)
  simp only [execOp,e1,e2,Sem.run_bind,hq,Result.andThen_ok]
  simp [binOp,uv,Op.intDiv,hb2]
  simpa using e3) h
end
def dO (n:BitVec 64) (many:Nat):List Y:=(List.range many).map fun j=>(n >>> (8*j)).setWidth 8
theorem fI (n:BitVec 64) (many:Nat):(dO n many).length=many:=by simp [dO]
theorem aGB (n:BitVec 64) (k:Nat):dO n (k+1)=dO n k++[(n >>> (8*k)).setWidth 8]:=by simp [dO,List.range_succ]
def mU (key nonce:Nat→Y) (count:W) (xs:List Y) (m:Nat):List Y:=yl xs.length fun i=>if i<m then qI key nonce count xs i else xs.getD i 0
theorem aFg (key nonce:Nat→Y) (count:W) (xs:List Y) (m:Nat):(mU key nonce count xs m).length=xs.length:=bK _ _
theorem aAX {n:Nat} {f f':Nat→Y} (h:∀ i,i<n→f i=f' i):yl n f=yl n f':=by
 unfold yl
 refine List.map_congr_left fun i hi=>?_
 rw [h i (List.mem_range.1 hi)]
theorem aCC (xs:List Y):yl xs.length (fun i=>xs.getD i 0)=xs:=by
 refine List.ext_getElem? fun i=>?_
 by_cases h:i<xs.length
 ·simp [yl,h]
 simp [yl,h]
theorem aSQ {n j:Nat} {f:Nat→Y} {z:Y}:(yl n f).set j z=yl n (upd f j z):=by
 refine List.ext_getElem? fun i=>?_
 rw [List.getElem?_set]
 by_cases h:j=i
 ·subst h
  by_cases hj:j<n
  ·simp [yl,upd,hj]
  simp [yl,hj]
 simp only [if_neg h]
 by_cases hi:i<n
 ·simp [yl,upd,hi,show ¬ i=j from fun e=>h e.symm]
 simp [yl,hi]
theorem aMF (key nonce:Nat→Y) (count:W) (xs:List Y):mU key nonce count xs 0=xs:=by
 unfold mU
 rw [aAX (f':=fun i=>xs.getD i 0) (fun i _=>by simp),aCC]
theorem aMD {key nonce:Nat→Y} {count:W} {xs:List Y} {m:Nat} (h:xs.length≤m):mU key nonce count xs m=jE key nonce count xs:=by
 unfold mU jE
 exact aAX fun i hi=>by rw [if_pos (by omega)]
theorem aME {key nonce:Nat→Y} {count:W} {xs:List Y} {j i:Nat} (hi:i<64) (hl:64*j+i<xs.length) :
  (mU key nonce count xs (64*j+i)).set (64*j+i) ((mU key nonce count xs (64*j+i)).getD (64*j+i) 0 ^^^ kG key nonce (count+BitVec.ofNat 32 j) i)=mU key nonce count xs (64*j+(i+1)):=by
 unfold mU
 rw [aEV hl,if_neg (by omega),aSQ]
 refine aAX fun q hq=>?_
 unfold upd
 by_cases h:q=64*j+i
 ·rw [if_pos h,if_pos (by omega),h]
  unfold qI
  rw [show (64*j+i) / 64=j by omega,show (64*j+i)%64=i by omega]
 rw [if_neg h]
 show (if q<64*j+i then qI key nonce count xs q else xs.getD q 0)=_
 by_cases h2:q<64*j+i
 ·rw [if_pos h2,if_pos (by omega)]
 rw [if_neg h2,if_neg (by omega)]
def oJ (key:List Y):List Y:=if key.length > 64 then aB1 key else key
def dW (key:List Y) (by':Y):Nat→Y:=fun i=>if i<(oJ key).length then by' ^^^ (oJ key).getD i 0 else by'
def pK (key xs:List Y):Nat→Y:=gM (yl 64 (dW key 92#8)++aB1 (yl 64 (dW key 54#8)++xs))
def aRe (ad nonce crossed:List Y):List Y:=dO (BitVec.ofInt 64 (ad.length:Int)) 8++ad++nonce++crossed
def vF (mac nonce:Nat→Y) (ad crossed:List Y):Nat→Y:=pK (yl 32 mac) (aRe ad (yl 12 nonce) crossed)
def tG (enc mac nonce:Nat→Y) (ad text:List Y):List Y:=jE enc nonce 1#32 text++yl 16 (vF mac nonce ad (jE enc nonce 1#32 text))
def oN (enc mac nonce:Nat→Y) (ad s:List Y):Option (List Y) :=
 if s.length<16 then none
 else if yl 16 (vF mac nonce ad (s.take (s.length-16)))=s.drop (s.length-16) then some (jE enc nonce 1#32 (s.take (s.length-16))) else none
theorem aBI (key nonce:Nat→Y) (count:W) (xs:List Y):(jE key nonce count xs).length=xs.length:=bK _ _
theorem aIo (enc mac nonce:Nat→Y) (ad text:List Y):(tG enc mac nonce ad text).length=text.length+16:=by simp [tG,aBI,bK]
theorem aMG {key nonce:Nat→Y} {count:W} {xs:List Y} {j i:Nat} (h:i=min (xs.length-64*j) 64):mU key nonce count xs (64*j+i)=mU key nonce count xs (64*(j+1)):=by
 unfold mU
 refine aAX fun q hq=>?_
 by_cases h1:q<64*j+i
 ·rw [if_pos h1,if_pos (by omega)]
 rw [if_neg h1,if_neg (by omega)]
theorem aMN {b o lo cap:Nat} (h:lo<cap) {q:Nat} (hq:q=o+lo):(Sh.cut ⟨some ⟨b,o,none⟩,cap⟩ lo 1).oa=some ⟨b,q,none⟩:=by
 subst hq
 unfold Sh.cut
 rw [if_neg (by show ¬ cap=lo; omega)]
 simp [jD]
theorem aHg {enc mac nonce:Nat→Y} {ad s:List Y} (h:s.length<16):oN enc mac nonce ad s=none:=by unfold oN; rw [if_pos h]
theorem aHf {enc mac nonce:Nat→Y} {ad s:List Y} (h:16≤s.length) (hn:¬ yl 16 (vF mac nonce ad (s.take (s.length-16)))=s.drop (s.length-16)):oN enc mac nonce ad s=none:=by
 unfold oN; rw [if_neg (by omega),if_neg hn]
theorem aDl {enc mac nonce:Nat→Y} {ad s:List Y} (h:16≤s.length) (hn:yl 16 (vF mac nonce ad (s.take (s.length-16)))=s.drop (s.length-16)):oN enc mac nonce ad s=some (jE enc nonce 1#32 (s.take (s.length-16))):=by
 unfold oN; rw [if_neg (by omega),if_pos hn]
theorem aMM (key nonce:Nat→Y) (count:W) (xs:List Y):jE key nonce count (jE key nonce count xs)=xs:=by
 conv=>rhs; rw [← aCC xs]
 rw [jE,aBI]
 refine aAX fun i hi=>?_
 unfold qI
 rw [show (jE key nonce count xs).getD i 0=qI key nonce count xs i from aEV hi]
 unfold qI
 rw [BitVec.xor_assoc,BitVec.xor_self,BitVec.xor_zero]
theorem aOU (enc mac nonce:Nat→Y) (ad text:List Y):oN enc mac nonce ad (tG enc mac nonce ad text)=some text:=by
 have hl:=aIo enc mac nonce ad text
 have hc:=aBI enc nonce 1#32 text
 have ht:(tG enc mac nonce ad text).take ((tG enc mac nonce ad text).length-16)=jE enc nonce 1#32 text:=by
  rw [hl,show text.length+16-16=(jE enc nonce 1#32 text).length by omega]; exact List.take_left
 have hd:(tG enc mac nonce ad text).drop ((tG enc mac nonce ad text).length-16)=yl 16 (vF mac nonce ad (jE enc nonce 1#32 text)):=by
  rw [hl,show text.length+16-16=(jE enc nonce 1#32 text).length by omega]; exact List.drop_left
 rw [aDl (by omega) (by rw [ht,hd]),ht,aMM]
def aE4 (o:Option (List Y)) (L:List Y) (e:Int):Prop:=(o=some L∧e=0)∨(o=none∧L=[]∧e=60)
theorem aCD (k:Nat) (f:Nat→Y):yl (k+1) f=yl k f++[f k]:=by simp [yl,List.range_succ]
theorem aLs (m:BitVec 64):(m%256#64).setWidth 8=m.setWidth 8:=by
 apply BitVec.eq_of_toNat_eq
 simp [BitVec.toNat_setWidth,BitVec.toNat_umod]
theorem aMZ (m:BitVec 64):m / 256#64=m >>> 8:=by
 apply BitVec.eq_of_toNat_eq
 simp [BitVec.toNat_udiv,BitVec.toNat_ushiftRight,Nat.shiftRight_eq_div_pow]
theorem aLF {G:PM} {μ μ':aH} {b cap m q:Nat} {f:Nat→Y} {T:TypeId} (hm:MTake μ (.blk b (cl (ba m f) T)) μ') (hq:q≤m):Sc G μ (.slice (some ⟨b,0,none⟩) q cap) (yl q f) :=
 Sc.blk hm (bK q f) (by rw [aEU]; exact aCh hq)
end Go.Tan
namespace Go.Proofs.YtdeobooblmjlfaaGreatDoor
open Go.Tan Go.RowKit
theorem aS1:aU Tryz.prog 130=true:=by kernel_rfl
theorem jB:cL Tryz.prog 54=some (24,1,24):=by kernel_rfl
theorem sH:(cL Tryz.prog 54).isSome=true:=by kernel_rfl
theorem aKa:aU Tryz.prog 129=true:=by kernel_rfl
theorem aAY (xs:List Y) (h:Sh) (n:BitVec 64) (many:Nat) (G:PM) (hs:SlR G 1 aQ h xs) (hl:xs.length≤140737488351232) (hm:many≤8):Ct Tryz.prog 24 ([h.val xs.length,uv .u64 n,.int .i64 (many:Int)]:List Value).toArray G [] (PR 5 (fun L=>L=xs++dO n many)):=by
 refine Ct.of Tryz.func24 rfl Tryz.ntmps24 rfl fun w0 hs0=>?_
 refine .seq (aL rfl rfl (aS rfl rfl (.nc (.seq (gK rfl rfl ?_)))))
 refine oF rfl aI ?_; intro b8
 refine .p (oD rfl aI bF (.u rfl) (.u rfl) .here hs.sc (by (try simp only [bM,bK]); omega) ?_)
 intro v10 L10 _ ov10 eL10
 have lL10:L10.length=xs.length:=by rw [eL10]
 refine .g (mIn (many) (8) rfl .no (.u rfl) (.u rfl) (by omega) (by omega) ?_)
 refine mAn (0) ((min many 8)) rfl .no (.u rfl) (.u rfl) (by omega) (by omega) ?_
 refine mV rfl rfl (.nc (.block ?_))
 refine aV (α:=Nat×Value×List Y×BitVec 64) (fun gh=>[(1,true,uv .u64 gh.2.2.2),(7,true,gh.2.1),(14,true,.int .i64 (gh.1:Int))]) (fun gh=>[rB gh.2.1 5 gh.2.2.1])
  (fun gh Gl=>(gh.1≤many)∧(gh.2.2.1=xs++dO n gh.1)∧(gh.2.2.2=n >>> (8*gh.1))) (fun gh=>many-gh.1) (0,_,_,n) [(13,true,_)] []
  (aA rfl (aA rfl (aK rfl (aA rfl eZ))))
  (mS .here rfl mN) ?_ ?_
 ·refine ⟨?_,?_,?_⟩
  ·(try dsimp only)<;>(first|omega|rfl|assumption|(simp; done))
  ·(try dsimp only)<;>(rw [eL10]; simp [dO])
  (try dsimp only)<;>(simp)
 intro gh N0 Gl0 hN0 hGl0 hF0
 obtain ⟨k,v,L,m⟩:=gh; dsimp only at hF0 hN0 ⊢
 obtain ⟨hk,eL,em⟩:=hF0
 have lL:L.length=xs.length+k:=by rw [eL]; simp [fI]
 refine .g (cP rfl rfl rfl rfl (.g (cD rfl (fun c1=>?_) (fun c1=>?_))))
 ·have c1k:=c1
  try simp only [aC,aD] at c1
  refine .g (cu (k:=.u64) rfl .no rfl nY (.u rfl) ?_)
  refine Go.Tan.b1 rfl aI bF (.u rfl) rfl rfl (by decide) ?_; intro b19
  refine dC rfl aI bF (.u rfl) (.u rfl) aE (Sc.one .here) (by show _+1≤_; omega) ?_
  intro v20 L20 ov20 eL20
  have lL20:L20.length=L.length+1:=by rw [eL20,List.length_append]; first|rfl | simp [bK]
  refine .g (jH (k:=.u64) rfl .no (.u rfl) (.u rfl) (fun _=>by decide) ?_)
  refine .g (aW (((k+1):Nat):Int) rfl rfl rfl rfl ?_)
  refine .g (aP (k+1,v20,L20,m >>> 8) ?_ ?_ ?_ ?_ ?_)
  ·exact (aA rfl (aA rfl (aK rfl (aA rfl eZ))))
  ·exact (mS .here rfl mN)
  ·first|omega|(dsimp only; omega)
  ·exact hGl0
  refine ⟨?_,?_,?_⟩
  ·(try dsimp only)<;>(first|omega|rfl|assumption|(simp; done))
  ·(try dsimp only)<;>(rw [eL20,eL,em,aGB,List.append_assoc]; rfl)
  (try dsimp only)<;>(rw [em,←BitVec.shiftRight_add]; rfl)
 have c1k:=c1
 try simp only [aC,aD] at c1
 refine .exit (.xcode (.xlp (.xblk (.code (.seq (bJ rfl rfl (mV rfl rfl (aS rfl rfl (.nc (.ret (We.fin Tryz.results24 (.tmp rfl .nil) (mS .here rfl mN) ?_)))))))))))
 obtain rfl:k=many:=by omega
 exact ⟨L,eL,rfl⟩
theorem aJ0 (key nonce:Nat→Y) (count:W) (h:Sh) (xs:List Y) (G:PM) (hs:SlR G 1 aQ h xs) (hl:xs.length≤140737488351232):Ct Tryz.prog 104 ([.agg (ba 32 key).toArray,.agg (ba 12 nonce).toArray,U count,h.val xs.length]:List Value).toArray G [] (PR 5 (fun L=>L=jE key nonce count xs)):=by
 refine Ct.of Tryz.func104 rfl Tryz.ntmps104 rfl fun w0 hs0=>?_
 refine .seq (dU rfl rfl ?_)
 refine bX rfl rfl rfl ?_; intro b4
 refine bX rfl rfl rfl ?_; intro b5
 refine aS rfl rfl (.nc (.seq (gK rfl rfl ?_)))
 refine oF rfl aI ?_; intro b14
 refine .p (oD rfl aI bF (.u rfl) (.u rfl) .here hs.sc (by (try simp only [bM,bK]); omega) ?_)
 intro v16 L16 _ ov16 eL16
 have lL16:L16.length=xs.length:=by rw [eL16]
 refine aS rfl rfl (.nc (.seq (.seq ?_)))
 refine aAV .here ?_; intro sR16 bbR16 evR16 lcR16 oaR16; subst evR16
 obtain rfl:=eL16.symm
 refine bJ rfl rfl (mV rfl rfl (aS rfl rfl (.nc (.block ?_))))
 refine aV (α:=Nat×Sh×List Y) (fun gh=>[(2,true,U (count+BitVec.ofNat 32 gh.1)),(10,true,gh.2.1.val (xs.length-64*gh.1))]) (fun gh=>[rB (sR16.val xs.length) 5 gh.2.2])
  (fun gh Gl=>(gh.2.2.length=xs.length)∧(gh.2.2=mU key nonce count xs (64*gh.1))∧(64*gh.1<xs.length→gh.2.1.oa=some ⟨bbR16,64*gh.1,none⟩)∧(xs.length-64*gh.1≤gh.2.1.cap)) (fun gh=>xs.length-64*gh.1) (0,sR16,xs) [(4,true,_),(5,true,_),(9,true,_)] [_,_]
  (cI rfl (by simp) (aA rfl (aA rfl (aA rfl (aA rfl eZ)))))
  (mS .here rfl (mS .here rfl (mS .here rfl mN))) ?_ ?_
 ·refine ⟨?_,?_,?_,?_⟩
  ·(try dsimp only)<;>(rfl)
  ·(try dsimp only)<;>(exact (aMF _ _ _ _).symm)
  ·(try dsimp only)<;>(exact oaR16)
  (try dsimp only)<;>(exact lcR16)
 intro gh N0 Gl0 hN0 hGl0 hF0
 obtain ⟨j,r,L⟩:=gh; dsimp only at hF0 hN0 ⊢
 obtain ⟨lL,eL,hr,hrc⟩:=hF0
 refine .g (lE rfl bU rfl (cP rfl rfl rfl rfl (.g (cD rfl (fun c1=>?_) (fun c1=>?_)))))
 ·have c1k:=c1
  try simp only [aC,aD] at c1
  refine .skip (.code (.seq (.block (.seq ?_))))
  have hlt:64*j<xs.length:=by omega
  have e1:=oaR16 (by omega)
  have e2:=hr hlt
  obtain ⟨so,sc⟩:=sR16
  obtain ⟨ro,rc⟩:=r
  simp only at e1 e2
  subst e1; subst e2
  refine .g (lB rfl yG rfl aN ?_)
  refine lB rfl aJ7 rfl aE ?_
  refine .p (kV rfl aS1 (aB rfl (aB rfl (aB rfl aF))) (aJy _ _ _ _) ?_)
  refine al rfl rI ?_; intro b11
  refine sw rfl (.u rfl) (.u rfl) rfl kC .here (by first|exact qE|exact qL|rfl) (jR _ _) ?_
  refine .g (lE rfl bU rfl (mIn ((xs.length-64*j)) (64) rfl .no (.u rfl) (.u rfl) (by omega) (by omega) ?_))
  refine aS rfl rfl (.nc (.seq (.seq (bJ rfl rfl (mV rfl rfl (mV rfl rfl (.nc (.block ?_))))))))
  refine aV (α:=Nat×List Y) (fun gh=>[(31,true,.int .i64 (gh.1:Int))]) (fun gh=>[rB (Sh.val ⟨some ⟨bbR16,0,none⟩,sc⟩ xs.length) 5 gh.2])
   (fun gh Gl=>(gh.1≤min (xs.length-64*j) 64)∧(gh.2=mU key nonce count xs (64*j+gh.1))) (fun gh=>64-gh.1) (0,L) [(2,true,_),(4,true,_),(5,true,_),(9,true,_),(10,true,_),(11,true,_),(12,true,_),(30,true,_)] [_,_,_]
   (aK rfl (aA rfl (aA rfl (aA rfl (aA rfl (aA rfl (aA rfl (aA rfl (aA rfl eZ)))))))))
   (mS aE rfl (mS .here rfl (mS .here rfl (mS .here rfl mN)))) ?_ ?_
  ·refine ⟨?_,?_⟩
   ·(try dsimp only)<;>(exact Nat.zero_le _)
   (try dsimp only)<;>(rw [eL]; rfl)
  intro gh N1 Gl1 hN1 hGl1 hF1
  obtain ⟨i,L2⟩:=gh; dsimp only at hF1 hN1 ⊢
  obtain ⟨hi,eL2⟩:=hF1
  have lL2:L2.length=xs.length:=by rw [eL2,aFg]
  refine .g (cP rfl rfl rfl rfl (.g (cD rfl (fun c2=>?_) (fun c2=>?_))))
  ·have c2k:=c2
   try simp only [aC,aD] at c2
   refine .g (bA (mc:=⟨false,false⟩) [0,1,2,3,4,5,6,7,8,9] aX (by kernel_rfl) ?_)
   refine mV rfl rfl (mV rfl rfl (ih rfl .no aI (.u rfl) (.u rfl) (by omega) (by omega) (fun _=>rfl) ?_))
   refine lN rfl aZ rfl (Rd.row .here (qQ (o:=64*j) (64*j+i) (by omega) (by omega))) ?_
   refine .p (iW rfl jN rfl rfl ?_)
   refine lO rfl aZ rfl aE (by first|exact bG (i) (by omega) (by omega)|exact cU (i) (by omega) (by omega)|exact dB (i) (by omega) (by omega)|rfl) ?_
   refine bw (k:=.u8) rfl .no rfl (.u rfl) (.u rfl) rfl (ih rfl .no aI (.u rfl) (.u rfl) (by omega) (by omega) (fun _=>rfl) ?_)
   refine s1r rfl (.u rfl) (.u rfl) gQ .here (by show 64*j+_*1<_; omega) ?_; intro L9 eL9 lL9
   refine .g (aW (((i+1):Nat):Int) rfl rfl rfl rfl ?_)
   refine .g (aP (i+1,L9) ?_ ?_ ?_ ?_ ?_)
   ·exact (aK rfl (aA rfl (aA rfl (aA rfl (aA rfl (aA rfl (aA rfl (aA rfl (aA rfl eZ)))))))))
   ·exact (mS .here rfl (mS .here rfl (mS .here rfl (mS .here rfl mN))))
   ·first|omega|(dsimp only; omega)
   ·exact hGl1
   refine ⟨?_,?_⟩
   ·(try dsimp only)<;>(omega)
   (try dsimp only)<;>(rw [eL9,eL2,show (Sh.o ⟨some ⟨bbR16,64*j,none⟩,rc⟩+(i:Int).toNat*1)=64*j+i from (by show 64*j+_*1=_; omega)]; exact aME (xs:=xs) (j:=j) (i:=i) (by omega) (by omega))
  have c2k:=c2
  try simp only [aC,aD] at c2
  refine .g (sd rfl .no aI (.u rfl) (.u rfl) (by omega) (by omega) ?_)
  refine .g (bw (k:=.u32) (b:=1#32) rfl .no rfl (.u rfl) (.u rfl) rfl (.g (aP (j+1,Sh.cut ⟨some ⟨bbR16,64*j,none⟩,rc⟩ (min (xs.length-64*j) 64) 1,L2) ?_ ?_ ?_ ?_ ?_)))
  ·exact (cI rfl (by show U (count+BitVec.ofNat 32 j+1#32)=U (count+BitVec.ofNat 32 (j+1)); rw [BitVec.add_assoc,←BitVec.ofNat_add]) (cI rfl (congrArg (Sh.val _) (by omega)) (aA rfl (aA rfl (aA rfl eZ)))))
  ·exact (mS .here (by rfl) (mS aE rfl (mS aE rfl mN)))
  ·first|omega|(dsimp only; omega)
  ·exact (hGl0).trans hGl1
  refine ⟨?_,?_,?_,?_⟩
  ·(try dsimp only)<;>(rw [eL2,aFg])
  ·(try dsimp only)<;>(rw [eL2]; exact aMG (by omega))
  ·(try dsimp only)<;>(intro h3; have hrc2:xs.length-64*j≤rc:=hrc; exact aMN (by omega) (by omega))
  (try dsimp only)<;>(show _≤rc-_; have hrc2:xs.length-64*j≤rc:=hrc; omega)
 have c1k:=c1
 try simp only [aC,aD] at c1
 refine .exit (.xcode (.xlp (.xblk (.code (.seq (bJ rfl rfl (mV rfl rfl (aS rfl rfl (.nc (.ret (We.fin Tryz.results104 (.tmp rfl .nil) (mS .here rfl mN) ?_)))))))))))
 exact ⟨L,by rw [eL,aMD (by omega)],rfl⟩
theorem aAM (ps:List (Sh×List Y)) (h:Sh) (G:PM) (hs:SlP G h ps) (hK:RdNP G 1 0 (wa 64 kW)) (hl:(cV ps).length≤1152921504606846976) (hn:ps.length≤1000):Ct Tryz.prog 102 ([h.val ps.length]:List Value).toArray G [] (fun _ μ' u=>μ'=[]∧u=.agg (ba 32 (gM (cV ps))).toArray):=by
 refine Ct.of Tryz.func102 rfl Tryz.ntmps102 rfl fun w0 hs0=>?_
 refine .seq (aL rfl rfl ?_)
 refine al rfl fQ ?_; intro b2
 refine .g (kv rfl .no aEh aF (fun _=>aCj _) ?_)
 refine al rfl aCZ ?_; intro b3
 refine sw rfl (.u rfl) (.u rfl) rfl aAs .here (by rfl) (uZ (oT _ _) (uY rfl rfl)) ?_
 refine .nil (vJ 5 ?_)
 refine .g (lE rfl sH rfl (mV rfl rfl (.nc (.block ?_))))
 refine aV (α:=Nat×Value) (fun gh=>[(9,true,.int .i64 (gh.1:Int))]) (fun gh=>[rB gh.2 5 (eV (cV (ps.take gh.1))),.blk b3 (cl (iO (cV (ps.take gh.1)) gh.2) 181)])
  (fun gh Gl=>(gh.1≤ps.length)) (fun gh=>ps.length-gh.1) (0,.slice none 0 0) [(2,true,_),(3,true,_),(7,true,_),(8,true,_)] [_]
  (aK rfl (aA rfl (aA rfl (aA rfl (aA rfl eZ)))))
  (mS .here (by simp [eV,cV]) (mS .here rfl (mS .here rfl mN))) ?_ ?_
 ·(try dsimp only)<;>(first|omega|rfl|assumption|(simp; done))
 intro gh N0 Gl0 hN0 hGl0 hF0
 obtain ⟨k,vq⟩:=gh; dsimp only at hF0 hN0 ⊢
 have hk:=hF0
 have hs:=hs.mono hGl0
 have hK:=hK.mono hGl0
 refine .g (cP rfl rfl rfl rfl (.g (cD rfl (fun c1=>?_) (fun c1=>?_))))
 ·have c1k:=c1
  try simp only [aC,aD] at c1
  refine .skip (.code (.seq (.block (.seq (dU rfl rfl (ih rfl .no jB (.u rfl) (.u rfl) (by omega) (by omega) (fun _=>hs.sl.nn (k:=k) (by omega)) ?_))))))
  obtain ⟨p12,ep12⟩:=iJ (k:=k) (xs:=ps) (by omega)
  have hq12:=hs.get ep12
  refine lN rfl cX rfl ((hs.at (k) (by omega) ep12).rd) ?_
  refine .g (ka rfl (.inr rfl) aEi (aB rfl (aB rfl aF)) (gT aE .here) (aDp (cV (ps.take k)) p12.2 _ _ _ _ hq12 hK (by have:=aCp ep12; omega)) ?_)
  rintro _ G14 μ14 hG14 ⟨vq',rfl,rfl⟩
  have hK:=hK.mono hG14
  refine .g (aW (((k+1):Nat):Int) rfl rfl rfl rfl ?_)
  refine .g (aP (k+1,vq') ?_ ?_ ?_ ?_ ?_)
  ·exact (aK rfl (aA rfl (aA rfl (aA rfl (aA rfl eZ)))))
  ·exact (mS aE (by rw [wF ep12]) (mS .here (by rw [wF ep12]) (mS .here rfl mN)))
  ·first|omega|(dsimp only; omega)
  ·exact (hGl0).trans hG14
  (try dsimp only)<;>(first|omega|rfl|assumption|(simp; done))
 have c1k:=c1
 try simp only [aC,aD] at c1
 refine .exit (.xcode (.xlp (.xblk (.code (.seq ?_)))))
 obtain rfl:k=ps.length:=by omega
 rw [List.take_length]
 refine .g (ka rfl (.inr rfl) aKa (aB rfl aF) (gT aE .here) (aE9 (cV ps) _ _ _ hK hl) ?_)
 rintro _ G16 μ16 hG16 ⟨rfl,rfl⟩
 refine sW rfl rfl rfl rfl fB aN ?_
 refine .nil (.code (.ret (aM Tryz.results102 (.cell rfl (fun w hw=>bI dY (RdN.own .here) ((by first|exact qE|exact qL|rfl)) hw) .nil) ?_)))
 exact ⟨rfl,rfl⟩
theorem mR:(Tryz.prog.info? 24).bind (·.zero)=some (.slice none 0 0):=by kernel_rfl
theorem aAh:aU Tryz.prog 102=true:=by kernel_rfl
theorem SlP.one {G:PM} {b T:Nat} {h1:Sh} {L1:List Y} (hle:PM.le G (G.add b (cl [h1.val L1.length] T))) (hs:SlR G 1 aQ h1 L1):SlP (G.add b (cl [h1.val L1.length] T)) ⟨some ⟨b,0,none⟩,1⟩ [(h1,L1)] :=
 ⟨lR (T:=T) (gI _ _ _) (fun _ _=>rfl) (by simp),fun p hp=>by rw [List.mem_singleton.1 hp]; exact hs.mono hle⟩
theorem SlP.two {G:PM} {b T:Nat} {h1 h2:Sh} {L1 L2:List Y} (hle:PM.le G (G.add b (cl [h1.val L1.length,h2.val L2.length] T))) (hs:SlR G 1 aQ h1 L1) (hs2:SlR G 1 aQ h2 L2):SlP (G.add b (cl [h1.val L1.length,h2.val L2.length] T)) ⟨some ⟨b,0,none⟩,2⟩ [(h1,L1),(h2,L2)] :=
 ⟨lR (T:=T) (gI _ _ _) (fun _ _=>rfl) (by simp),fun p hp=>by
  rcases List.mem_cons.1 hp with rfl | hp
  ·exact hs.mono hle
  ·rw [List.mem_singleton.1 hp]; exact hs2.mono hle⟩
theorem SlP.four {G:PM} {b T:Nat} {h1 h2 h3 h4:Sh} {L1 L2 L3 L4:List Y} (hle:PM.le G (G.add b (cl [h1.val L1.length,h2.val L2.length,h3.val L3.length,h4.val L4.length] T))) (hs:SlR G 1 aQ h1 L1) (hs2:SlR G 1 aQ h2 L2) (hs3:SlR G 1 aQ h3 L3) (hs4:SlR G 1 aQ h4 L4) :
  SlP (G.add b (cl [h1.val L1.length,h2.val L2.length,h3.val L3.length,h4.val L4.length] T)) ⟨some ⟨b,0,none⟩,4⟩ [(h1,L1),(h2,L2),(h3,L3),(h4,L4)] :=
 ⟨lR (T:=T) (gI _ _ _) (fun _ _=>rfl) (by simp),fun p hp=>by
  simp only [List.mem_cons,List.not_mem_nil,or_false] at hp
  rcases hp with rfl|rfl|rfl|rfl
  ·exact hs.mono hle
  ·exact hs2.mono hle
  ·exact hs3.mono hle
  ·exact hs4.mono hle⟩
theorem aRV {G:PM} {b T:Nat} {h1:Sh} {L1:List Y} (hle:PM.le G (G.add b (cl [h1.val L1.length] T))) (hs:SlR G 1 aQ h1 L1) (hK:RdNP G 1 0 (wa 64 kW)) (hl:L1.length≤1152921504606846976):Ct Tryz.prog 102 ([.slice (some ⟨b,0,none⟩) 1 1]:List Value).toArray (G.add b (cl [h1.val L1.length] T)) [] (fun _ μ' u=>μ'=[]∧u=.agg (ba 32 (gM L1)).toArray):=by
 have h:=aAM [(h1,L1)] ⟨some ⟨b,0,none⟩,1⟩ _ (SlP.one hle hs) (hK.mono hle) (by simpa [cV] using hl) (by simp)
 rw [show cV [(h1,L1)]=L1 by simp [cV]] at h
 exact h
theorem aRW {G:PM} {b T:Nat} {h1 h2:Sh} {L1 L2:List Y} (hle:PM.le G (G.add b (cl [h1.val L1.length,h2.val L2.length] T))) (hs:SlR G 1 aQ h1 L1) (hs2:SlR G 1 aQ h2 L2) (hK:RdNP G 1 0 (wa 64 kW)) (hl:L1.length+L2.length≤1152921504606846976):Ct Tryz.prog 102 ([.slice (some ⟨b,0,none⟩) 2 2]:List Value).toArray (G.add b (cl [h1.val L1.length,h2.val L2.length] T)) [] (fun _ μ' u=>μ'=[]∧u=.agg (ba 32 (gM (L1++L2))).toArray):=by
 have h:=aAM [(h1,L1),(h2,L2)] ⟨some ⟨b,0,none⟩,2⟩ _ (SlP.two hle hs hs2) (hK.mono hle) (by simpa [cV] using hl) (by simp)
 rw [show cV [(h1,L1),(h2,L2)]=L1++L2 by simp [cV]] at h
 exact h
theorem aBm {f g:Nat→Y} {k:Nat} {a b:Y} (ef:f=gB g k) (h:b=g k):upd (upd f k a) k b=gB g (k+1):=by
 rw [aEO,ef,h]; rfl
theorem wZ {f g:Nat→Y} {k:Nat} {a:Y} (ef:f=gB g k) (h:a=g k):upd f k a=gB g (k+1):=by
 rw [ef,h]; rfl
theorem aOi (key:List Y) (h:Sh) (G:PM) (hs:SlR G 1 aQ h key) (hK:RdNP G 1 0 (wa 64 kW)) (hl:key.length≤140737488351232):Ct Tryz.prog 143 ([h.val key.length]:List Value).toArray G [] (fun _ μ' u=>μ'=[]∧u=.tuple #[.agg (ba 64 (dW key 54#8)).toArray,.agg (ba 64 (dW key 92#8)).toArray]):=by
 refine Ct.of Tryz.func143 rfl Tryz.ntmps143 rfl fun w0 hs0=>?_
 refine .seq (bJ rfl rfl ?_)
 refine al rfl rI ?_; intro b2
 refine al rfl rI ?_; intro b3
 refine .g (lE rfl bU rfl (cP rfl rfl rfl rfl (.g (cD rfl (fun c1=>?_) (fun c1=>?_)))))
 ·have c1k:=c1
  try simp only [aC,aD] at c1
  have ek1:oJ key=aB1 key:=by unfold oJ; rw [if_pos (by omega)]
  refine .seq (pW rfl rfl (mV rfl rfl ?_))
  refine Go.Tan.b1 rfl jB mR (.u rfl) rfl rfl (by decide) ?_; intro b10
  refine kp rfl .no aAh (aB rfl aF) (Gp.add .here Gp.nil) (fun _ hle hq=>aRV hle hs hK (by omega)) ?_
  refine al rfl fQ ?_; intro b4
  refine sW rfl rfl rfl rfl fB .here ?_
  refine .nil (.code ?_)
  refine fP .here (by intro b hb; cases hb) ?_; intro Gfb4 hleb4 hbb4
  have hs:=hs.mono hleb4
  refine bJ rfl rfl ?_
  refine kA rfl .no fU (.u rfl) hbb4 (by first|exact oG|exact mT|exact oE) ?_; intro h12 L12 eL12 lL12 hs12
  refine aS rfl rfl (.nil ?_)
  have ek1:oJ key=L12:=by rw [ek1,eL12]; rfl
  refine .code (.seq (.seq ?_))
  skip
  refine aL rfl rfl (mV rfl rfl (.nc (.block ?_)))
  refine aV (α:=Nat×(Nat→Y)×(Nat→Y)) (fun gh=>[(13,true,.int .i64 (gh.1:Int))]) (fun gh=>[.blk b3 (cl (ba 64 gh.2.2) 172),.blk b2 (cl (ba 64 gh.2.1) 172)])
   (fun gh Gl=>(gh.1≤64)∧(gh.2.1=gB (dW key 54#8) gh.1)∧(gh.2.2=gB (dW key 92#8) gh.1)) (fun gh=>64-gh.1) (0,fun _=>0#8,fun _=>0#8) [(0,true,_),(2,true,_),(3,true,_)] [_]
   (aK rfl (aA rfl (aA rfl (aA rfl eZ))))
   (mS aE rfl (mS aE rfl (mS .here rfl mN))) ?_ ?_
  ·refine ⟨?_,?_,?_⟩
   ·(try dsimp only)<;>(first|omega|rfl|assumption|(simp; done))
   ·(try dsimp only)<;>(first|omega|rfl|assumption|(simp; done))
   (try dsimp only)<;>(first|omega|rfl|assumption|(simp; done))
  intro gh N0 Gl0 hN0 hGl0 hF0
  obtain ⟨k,f,f2⟩:=gh; dsimp only at hF0 hN0 ⊢
  obtain ⟨hk,ef,ef2⟩:=hF0
  have hs:=hs.mono hGl0
  have hs12:=hs12.mono hGl0
  refine .g (cP rfl rfl rfl rfl (.g (cD rfl (fun c2=>?_) (fun c2=>?_))))
  ·have c2k:=c2
   try simp only [aC,aD] at c2
   refine .g (iW rfl jN rfl rfl ?_)
   refine s1 rfl (.u rfl) (.u rfl) rfl gQ aE (by first|decide|(simp only [bV,bT,bM]; omega)) (by first|exact iH (z:=54#8) (k) (by omega)|exact cY (z:=54#32) (k) (by omega)|rfl) ?_
   refine iW rfl jN rfl rfl ?_
   refine s1 rfl (.u rfl) (.u rfl) rfl gQ aE (by first|decide|(simp only [bV,bT,bM]; omega)) (by first|exact iH (z:=92#8) (k) (by omega)|exact cY (z:=92#32) (k) (by omega)|rfl) ?_
   refine .g (lE rfl bU rfl (cP rfl rfl rfl rfl (.g (cD rfl (fun c3=>?_) (fun c3=>?_)))))
   ·have c3k:=c3
    try simp only [aC,aD] at c3
    refine .seq (bA (mc:=⟨false,false⟩) [0,1,2,3,4,5,6,7,8,9] aX (by kernel_rfl) ?_)
    refine .p (iW rfl jN rfl rfl ?_)
    refine lO rfl aZ rfl aE (by first|exact bG (k) (by omega) (by omega)|exact cU (k) (by omega) (by omega)|exact dB (k) (by omega) (by omega)|rfl) ?_
    refine mV rfl rfl (mV rfl rfl (ih rfl .no aI (.u rfl) (.u rfl) (by omega) (by omega) (fun _=>hs12.nn (k:=k) (by omega)) ?_))
    refine lN rfl aZ rfl ((hs12.yat (k) (by omega) (by omega)).rd) ?_
    refine bw (k:=.u8) rfl .no rfl (.u rfl) (.u rfl) rfl (iW rfl jN rfl rfl ?_)
    refine s1 rfl (.u rfl) (.u rfl) rfl gQ aE (by first|decide|(simp only [bV,bT,bM]; omega)) (by first|exact cY (k) (by omega)|exact iH (k) (by omega)|exact mJ (k) (by omega) (by omega)|rfl) ?_
    refine .g (bA (mc:=⟨false,false⟩) [0,1,2,3,4,5,6,7,8,9] aX (by kernel_rfl) ?_)
    refine .p (iW rfl jN rfl rfl ?_)
    refine lO rfl aZ rfl aE (by first|exact bG (k) (by omega) (by omega)|exact cU (k) (by omega) (by omega)|exact dB (k) (by omega) (by omega)|rfl) ?_
    refine mV rfl rfl (mV rfl rfl (ih rfl .no aI (.u rfl) (.u rfl) (by omega) (by omega) (fun _=>hs12.nn (k:=k) (by omega)) ?_))
    refine lN rfl aZ rfl ((hs12.yat (k) (by omega) (by omega)).rd) ?_
    refine bw (k:=.u8) rfl .no rfl (.u rfl) (.u rfl) rfl (iW rfl jN rfl rfl ?_)
    refine s1 rfl (.u rfl) (.u rfl) rfl gQ aE (by first|decide|(simp only [bV,bT,bM]; omega)) (by first|exact cY (k) (by omega)|exact iH (k) (by omega)|exact mJ (k) (by omega) (by omega)|rfl) ?_
    refine .g (aW (((k+1):Nat):Int) rfl rfl rfl rfl ?_)
    refine .g (aP (k+1,upd (upd f k 54#8) k (upd f k 54#8 k ^^^ L12.getD k 0),upd (upd f2 k 92#8) k (upd f2 k 92#8 k ^^^ L12.getD k 0)) ?_ ?_ ?_ ?_ ?_)
    ·exact (aK rfl (aA rfl (aA rfl (aA rfl eZ))))
    ·exact (mS .here rfl (mS .here rfl (mS .here rfl mN)))
    ·first|omega|(dsimp only; omega)
    ·exact hGl0
    refine ⟨?_,?_,?_⟩
    ·(try dsimp only)<;>(first|omega|rfl|assumption|(simp; done))
    ·(try dsimp only)<;>(exact aBm ef (by rw [vI,dW,ek1,if_pos (by omega)]))
    (try dsimp only)<;>(exact aBm ef2 (by rw [vI,dW,ek1,if_pos (by omega)]))
   have c3k:=c3
   try simp only [aC,aD] at c3
   refine .g (aW (((k+1):Nat):Int) rfl rfl rfl rfl ?_)
   refine .g (aP (k+1,upd f k 54#8,upd f2 k 92#8) ?_ ?_ ?_ ?_ ?_)
   ·exact (aK rfl (aA rfl (aA rfl (aA rfl eZ))))
   ·exact (mS .here rfl (mS .here rfl (mS .here rfl mN)))
   ·first|omega|(dsimp only; omega)
   ·exact hGl0
   refine ⟨?_,?_,?_⟩
   ·(try dsimp only)<;>(first|omega|rfl|assumption|(simp; done))
   ·(try dsimp only)<;>(exact wZ ef (by rw [dW,ek1,if_neg (by omega)]))
   (try dsimp only)<;>(exact wZ ef2 (by rw [dW,ek1,if_neg (by omega)]))
  have c2k:=c2
  try simp only [aC,aD] at c2
  refine .exit (.xcode (.xlp (.xblk (.code (.seq (aCc aX rfl ?_))))))
  refine WoT.n2 0 1 (by kernel_rfl) ?_ ?_
  ·refine lB rfl gF rfl aE ?_
   refine .nil (WoT.n2 1 2 (by kernel_rfl) ?_ ?_)
   ·refine lB rfl gF rfl .here ?_
    refine .nil (WoT.n1 2 (by kernel_rfl) ?_)
    refine sW rfl rfl rfl rfl kC aE ?_
    refine .nil (WoT.n1 3 (by kernel_rfl) ?_)
    refine sW rfl rfl rfl rfl kC aE ?_
    refine .nil (WoT.last (by kernel_rfl) ?_)
    refine .code (.ret (aM Tryz.results143 (.cell rfl (fun w hw=>bI gF (RdN.own aE) ((by first|exact qE|exact qL|rfl)) hw) (.cell rfl (fun w hw=>bI gF (RdN.own .here) ((by first|exact qE|exact qL|rfl)) hw) .nil)) ?_))
    obtain rfl:k=64:=by omega
    exact ⟨rfl,by rw [ef,ef2,iG (fun i hi=>kO (dW key 54#8) hi),iG (fun i hi=>kO (dW key 92#8) hi)]; rfl⟩
   refine sW rfl rfl rfl rfl kC aE ?_
   refine .nil (WoT.n1 1 (by kernel_rfl) ?_)
   refine lB rfl gF rfl aE ?_
   refine .nil (WoT.n1 3 (by kernel_rfl) ?_)
   refine sW rfl rfl rfl rfl kC aE ?_
   refine .nil (WoT.last (by kernel_rfl) ?_)
   refine .code (.ret (aM Tryz.results143 (.cell rfl (fun w hw=>bI gF (RdN.own aE) ((by first|exact qE|exact qL|rfl)) hw) (.cell rfl (fun w hw=>bI gF (RdN.own .here) ((by first|exact qE|exact qL|rfl)) hw) .nil)) ?_))
   obtain rfl:k=64:=by omega
   exact ⟨rfl,by rw [ef,ef2,iG (fun i hi=>kO (dW key 54#8) hi),iG (fun i hi=>kO (dW key 92#8) hi)]; rfl⟩
  refine lB rfl gF rfl .here ?_
  refine .nil (WoT.n1 0 (by kernel_rfl) ?_)
  refine lB rfl gF rfl aE ?_
  refine .nil (WoT.n1 2 (by kernel_rfl) ?_)
  refine sW rfl rfl rfl rfl kC aE ?_
  refine .nil (WoT.n1 3 (by kernel_rfl) ?_)
  refine sW rfl rfl rfl rfl kC aE ?_
  refine .nil (WoT.last (by kernel_rfl) ?_)
  refine .code (.ret (aM Tryz.results143 (.cell rfl (fun w hw=>bI gF (RdN.own aE) ((by first|exact qE|exact qL|rfl)) hw) (.cell rfl (fun w hw=>bI gF (RdN.own .here) ((by first|exact qE|exact qL|rfl)) hw) .nil)) ?_))
  obtain rfl:k=64:=by omega
  exact ⟨rfl,by rw [ef,ef2,iG (fun i hi=>kO (dW key 54#8) hi),iG (fun i hi=>kO (dW key 92#8) hi)]; rfl⟩
 have c1k:=c1
 try simp only [aC,aD] at c1
 have ek2:oJ key=key:=by unfold oJ; rw [if_neg (by omega)]
 refine .skip (.code (.seq (.seq ?_)))
 skip
 refine aL rfl rfl (mV rfl rfl (.nc (.block ?_)))
 refine aV (α:=Nat×(Nat→Y)×(Nat→Y)) (fun gh=>[(13,true,.int .i64 (gh.1:Int))]) (fun gh=>[.blk b3 (cl (ba 64 gh.2.2) 172),.blk b2 (cl (ba 64 gh.2.1) 172)])
  (fun gh Gl=>(gh.1≤64)∧(gh.2.1=gB (dW key 54#8) gh.1)∧(gh.2.2=gB (dW key 92#8) gh.1)) (fun gh=>64-gh.1) (0,fun _=>0#8,fun _=>0#8) [(0,true,_),(2,true,_),(3,true,_)] []
  (aK rfl (aA rfl (aA rfl (aA rfl eZ))))
  (mS .here rfl (mS .here rfl mN)) ?_ ?_
 ·refine ⟨?_,?_,?_⟩
  ·(try dsimp only)<;>(first|omega|rfl|assumption|(simp; done))
  ·(try dsimp only)<;>(first|omega|rfl|assumption|(simp; done))
  (try dsimp only)<;>(first|omega|rfl|assumption|(simp; done))
 intro gh N1 Gl1 hN1 hGl1 hF1
 obtain ⟨k,f,f2⟩:=gh; dsimp only at hF1 hN1 ⊢
 obtain ⟨hk,ef,ef2⟩:=hF1
 have hs:=hs.mono hGl1
 refine .g (cP rfl rfl rfl rfl (.g (cD rfl (fun c4=>?_) (fun c4=>?_))))
 ·have c4k:=c4
  try simp only [aC,aD] at c4
  refine .g (iW rfl jN rfl rfl ?_)
  refine s1 rfl (.u rfl) (.u rfl) rfl gQ aE (by first|decide|(simp only [bV,bT,bM]; omega)) (by first|exact iH (z:=54#8) (k) (by omega)|exact cY (z:=54#32) (k) (by omega)|rfl) ?_
  refine iW rfl jN rfl rfl ?_
  refine s1 rfl (.u rfl) (.u rfl) rfl gQ aE (by first|decide|(simp only [bV,bT,bM]; omega)) (by first|exact iH (z:=92#8) (k) (by omega)|exact cY (z:=92#32) (k) (by omega)|rfl) ?_
  refine .g (lE rfl bU rfl (cP rfl rfl rfl rfl (.g (cD rfl (fun c5=>?_) (fun c5=>?_)))))
  ·have c5k:=c5
   try simp only [aC,aD] at c5
   refine .seq (bA (mc:=⟨false,false⟩) [0,1,2,3,4,5,6,7,8,9] aX (by kernel_rfl) ?_)
   refine .p (iW rfl jN rfl rfl ?_)
   refine lO rfl aZ rfl aE (by first|exact bG (k) (by omega) (by omega)|exact cU (k) (by omega) (by omega)|exact dB (k) (by omega) (by omega)|rfl) ?_
   refine mV rfl rfl (mV rfl rfl (ih rfl .no aI (.u rfl) (.u rfl) (by omega) (by omega) (fun _=>hs.nn (k:=k) (by omega)) ?_))
   refine lN rfl aZ rfl ((hs.yat (k) (by omega) (by omega)).rd) ?_
   refine bw (k:=.u8) rfl .no rfl (.u rfl) (.u rfl) rfl (iW rfl jN rfl rfl ?_)
   refine s1 rfl (.u rfl) (.u rfl) rfl gQ aE (by first|decide|(simp only [bV,bT,bM]; omega)) (by first|exact cY (k) (by omega)|exact iH (k) (by omega)|exact mJ (k) (by omega) (by omega)|rfl) ?_
   refine .g (bA (mc:=⟨false,false⟩) [0,1,2,3,4,5,6,7,8,9] aX (by kernel_rfl) ?_)
   refine .p (iW rfl jN rfl rfl ?_)
   refine lO rfl aZ rfl aE (by first|exact bG (k) (by omega) (by omega)|exact cU (k) (by omega) (by omega)|exact dB (k) (by omega) (by omega)|rfl) ?_
   refine mV rfl rfl (mV rfl rfl (ih rfl .no aI (.u rfl) (.u rfl) (by omega) (by omega) (fun _=>hs.nn (k:=k) (by omega)) ?_))
   refine lN rfl aZ rfl ((hs.yat (k) (by omega) (by omega)).rd) ?_
   refine bw (k:=.u8) rfl .no rfl (.u rfl) (.u rfl) rfl (iW rfl jN rfl rfl ?_)
   refine s1 rfl (.u rfl) (.u rfl) rfl gQ aE (by first|decide|(simp only [bV,bT,bM]; omega)) (by first|exact cY (k) (by omega)|exact iH (k) (by omega)|exact mJ (k) (by omega) (by omega)|rfl) ?_
   refine .g (aW (((k+1):Nat):Int) rfl rfl rfl rfl ?_)
   refine .g (aP (k+1,upd (upd f k 54#8) k (upd f k 54#8 k ^^^ key.getD k 0),upd (upd f2 k 92#8) k (upd f2 k 92#8 k ^^^ key.getD k 0)) ?_ ?_ ?_ ?_ ?_)
   ·exact (aK rfl (aA rfl (aA rfl (aA rfl eZ))))
   ·exact (mS .here rfl (mS .here rfl mN))
   ·first|omega|(dsimp only; omega)
   ·exact hGl1
   refine ⟨?_,?_,?_⟩
   ·(try dsimp only)<;>(first|omega|rfl|assumption|(simp; done))
   ·(try dsimp only)<;>(exact aBm ef (by rw [vI,dW,ek2,if_pos (by omega)]))
   (try dsimp only)<;>(exact aBm ef2 (by rw [vI,dW,ek2,if_pos (by omega)]))
  have c5k:=c5
  try simp only [aC,aD] at c5
  refine .g (aW (((k+1):Nat):Int) rfl rfl rfl rfl ?_)
  refine .g (aP (k+1,upd f k 54#8,upd f2 k 92#8) ?_ ?_ ?_ ?_ ?_)
  ·exact (aK rfl (aA rfl (aA rfl (aA rfl eZ))))
  ·exact (mS .here rfl (mS .here rfl mN))
  ·first|omega|(dsimp only; omega)
  ·exact hGl1
  refine ⟨?_,?_,?_⟩
  ·(try dsimp only)<;>(first|omega|rfl|assumption|(simp; done))
  ·(try dsimp only)<;>(exact wZ ef (by rw [dW,ek2,if_neg (by omega)]))
  (try dsimp only)<;>(exact wZ ef2 (by rw [dW,ek2,if_neg (by omega)]))
 have c4k:=c4
 try simp only [aC,aD] at c4
 refine .exit (.xcode (.xlp (.xblk (.code (.seq (aCc aX rfl ?_))))))
 refine WoT.n2 0 1 (by kernel_rfl) ?_ ?_
 ·refine lB rfl gF rfl aE ?_
  refine .nil (WoT.n2 1 2 (by kernel_rfl) ?_ ?_)
  ·refine lB rfl gF rfl .here ?_
   refine .nil (WoT.n1 2 (by kernel_rfl) ?_)
   refine sW rfl rfl rfl rfl kC aE ?_
   refine .nil (WoT.n1 3 (by kernel_rfl) ?_)
   refine sW rfl rfl rfl rfl kC aE ?_
   refine .nil (WoT.last (by kernel_rfl) ?_)
   refine .code (.ret (aM Tryz.results143 (.cell rfl (fun w hw=>bI gF (RdN.own aE) ((by first|exact qE|exact qL|rfl)) hw) (.cell rfl (fun w hw=>bI gF (RdN.own .here) ((by first|exact qE|exact qL|rfl)) hw) .nil)) ?_))
   obtain rfl:k=64:=by omega
   exact ⟨rfl,by rw [ef,ef2,iG (fun i hi=>kO (dW key 54#8) hi),iG (fun i hi=>kO (dW key 92#8) hi)]; rfl⟩
  refine sW rfl rfl rfl rfl kC aE ?_
  refine .nil (WoT.n1 1 (by kernel_rfl) ?_)
  refine lB rfl gF rfl aE ?_
  refine .nil (WoT.n1 3 (by kernel_rfl) ?_)
  refine sW rfl rfl rfl rfl kC aE ?_
  refine .nil (WoT.last (by kernel_rfl) ?_)
  refine .code (.ret (aM Tryz.results143 (.cell rfl (fun w hw=>bI gF (RdN.own aE) ((by first|exact qE|exact qL|rfl)) hw) (.cell rfl (fun w hw=>bI gF (RdN.own .here) ((by first|exact qE|exact qL|rfl)) hw) .nil)) ?_))
  obtain rfl:k=64:=by omega
  exact ⟨rfl,by rw [ef,ef2,iG (fun i hi=>kO (dW key 54#8) hi),iG (fun i hi=>kO (dW key 92#8) hi)]; rfl⟩
 refine lB rfl gF rfl .here ?_
 refine .nil (WoT.n1 0 (by kernel_rfl) ?_)
 refine lB rfl gF rfl aE ?_
 refine .nil (WoT.n1 2 (by kernel_rfl) ?_)
 refine sW rfl rfl rfl rfl kC aE ?_
 refine .nil (WoT.n1 3 (by kernel_rfl) ?_)
 refine sW rfl rfl rfl rfl kC aE ?_
 refine .nil (WoT.last (by kernel_rfl) ?_)
 refine .code (.ret (aM Tryz.results143 (.cell rfl (fun w hw=>bI gF (RdN.own aE) ((by first|exact qE|exact qL|rfl)) hw) (.cell rfl (fun w hw=>bI gF (RdN.own .here) ((by first|exact qE|exact qL|rfl)) hw) .nil)) ?_))
 obtain rfl:k=64:=by omega
 exact ⟨rfl,by rw [ef,ef2,iG (fun i hi=>kO (dW key 54#8) hi),iG (fun i hi=>kO (dW key 92#8) hi)]; rfl⟩
theorem aS6:aU Tryz.prog 143=true:=by kernel_rfl
theorem aS7:aU Tryz.prog 144=true:=by kernel_rfl
theorem aKh:aU Tryz.prog 145=true:=by kernel_rfl
theorem aT0:iD Tryz.prog 163=some (ba 16 (fun _=>0#8)):=by kernel_rfl
theorem aEe:cO Tryz.prog 80 1=some 32:=by kernel_rfl
theorem aCM:gP Tryz.prog 93=some (12,5,1):=by kernel_rfl
theorem aCU:aU Tryz.prog 24=true:=by kernel_rfl
theorem aEj:aU Tryz.prog 131=true:=by kernel_rfl
theorem aJ8:gP Tryz.prog 163=some (16,5,1):=by kernel_rfl
theorem aEZ:dJ Tryz.prog 163=some (some 16):=by kernel_rfl
theorem aTx:dL Tryz.prog 163=some 16:=by kernel_rfl
theorem aEd:cO Tryz.prog 80 0=some 0:=by kernel_rfl
theorem tP:dJ Tryz.prog 93=some (some 12):=by kernel_rfl
theorem aSq:aU Tryz.prog 104=true:=by kernel_rfl
theorem qY:dJ Tryz.prog 80=some (some 64):=by kernel_rfl
theorem aSr:aU Tryz.prog 105=true:=by kernel_rfl
theorem aSU:wD Tryz.prog 163 16=true:=by kernel_rfl
theorem aDU (key:List Y) (hk:Sh) (ps:List (Sh×List Y)) (h:Sh) (G:PM) (hsk:SlR G 1 aQ hk key) (hs:SlP G h ps) (hK:RdNP G 1 0 (wa 64 kW)) (hlk:key.length≤140737488351232) (hl:(cV ps).length≤1000000000000000) (hn:ps.length≤1000):Ct Tryz.prog 131 ([hk.val key.length,h.val ps.length]:List Value).toArray G [] (fun _ μ' u=>μ'=[]∧u=.agg (ba 32 (pK key (cV ps))).toArray):=by
 refine Ct.of Tryz.func131 rfl Tryz.ntmps131 rfl fun w0 hs0=>?_
 refine .seq (aL rfl rfl ?_)
 refine al rfl fQ ?_; intro b4
 refine .g (kV rfl aS6 (aB rfl aF) (aOi key hk _ hsk hK hlk) ?_)
 refine .p (eX rfl rfl rfl (eX rfl rfl rfl ?_))
 refine al rfl rI ?_; intro b5
 refine al rfl rI ?_; intro b6
 refine sW rfl rfl rfl rfl kC aE ?_
 refine sW rfl rfl rfl rfl kC aE ?_
 refine .nil (.code (.seq ?_))
 refine fP aE (by intro b hb; cases hb) ?_; intro Gfb5 hleb5 hbb5
 have hs:=hs.mono hleb5
 have hK:=hK.mono hleb5
 refine fP .here (by intro b hb; cases hb) ?_; intro Gfb6 hleb6 hbb6
 have hs:=hs.mono hleb6
 have hK:=hK.mono hleb6
 have hbb5:=hbb5.mono hleb6
 refine .g (kc rfl aS7 aF (aK6 _) ?_)
 rintro _ G16 μ16 hG16 ⟨b16,rfl,rfl⟩
 have hs:=hs.mono hG16
 have hK:=hK.mono hG16
 have hbb5:=hbb5.mono hG16
 have hbb6:=hbb6.mono hG16
 refine aS rfl rfl (.nc (.seq (dU rfl rfl (mV rfl rfl ?_))))
 refine kA rfl .no jN (.u rfl) hbb5 (by first|exact oG|exact mT|exact oE) ?_; intro h18 L18 eL18 lL18 hs18
 refine ka rfl (.inr rfl) aKh (aB rfl (aB rfl aF)) (gT .here .here) (aFC [] L18 _ _ _ _ hs18 hK (by simp; omega)) ?_
 rintro _ G19 μ19 hG19 ⟨vq0,rfl,rfl⟩
 have hs:=hs.mono hG19
 have hK:=hK.mono hG19
 have hbb6:=hbb6.mono hG19
 refine .g (lE rfl sH rfl (mV rfl rfl (.nc (.block ?_))))
 refine aV (α:=Nat×Value) (fun gh=>[(22,true,.int .i64 (gh.1:Int))]) (fun gh=>[.blk b16 (cl (iO (L18++cV (ps.take gh.1)) gh.2) 181),rB gh.2 5 (eV (L18++cV (ps.take gh.1)))])
  (fun gh Gl=>(gh.1≤ps.length)) (fun gh=>ps.length-gh.1) (0,vq0) [(4,true,_),(6,true,_),(7,true,_),(20,true,_),(21,true,_)] [_]
  (aK rfl (aA rfl (aA rfl (aA rfl (aA rfl (aA rfl eZ))))))
  (mS .here (by simp [cV]) (mS .here (by simp [cV]) (mS .here rfl mN))) ?_ ?_
 ·(try dsimp only)<;>(first|omega|rfl|assumption|(simp; done))
 intro gh N0 Gl0 hN0 hGl0 hF0
 obtain ⟨k,vq⟩:=gh; dsimp only at hF0 hN0 ⊢
 have hk:=hF0
 have hs:=hs.mono hGl0
 have hK:=hK.mono hGl0
 have hbb6:=hbb6.mono hGl0
 refine .g (cP rfl rfl rfl rfl (.g (cD rfl (fun c1=>?_) (fun c1=>?_))))
 ·have c1k:=c1
  try simp only [aC,aD] at c1
  refine .skip (.code (.seq (.block (.seq (dU rfl rfl (ih rfl .no jB (.u rfl) (.u rfl) (by omega) (by omega) (fun _=>hs.sl.nn (k:=k) (by omega)) ?_))))))
  obtain ⟨p25,ep25⟩:=iJ (k:=k) (xs:=ps) (by omega)
  have hq25:=hs.get ep25
  refine lN rfl cX rfl ((hs.at (k) (by omega) ep25).rd) ?_
  refine .g (ka rfl (.inr rfl) aKh (aB rfl (aB rfl aF)) (gT .here .here) (aFC (L18++cV (ps.take k)) p25.2 _ _ _ _ hq25 hK (by have:=aCp ep25; rw [List.length_append]; omega)) ?_)
  rintro _ G28 μ28 hG28 ⟨vq',rfl,rfl⟩
  have hK:=hK.mono hG28
  have hbb6:=hbb6.mono hG28
  refine .g (aW (((k+1):Nat):Int) rfl rfl rfl rfl ?_)
  refine .g (aP (k+1,vq') ?_ ?_ ?_ ?_ ?_)
  ·exact (aK rfl (aA rfl (aA rfl (aA rfl (aA rfl (aA rfl eZ))))))
  ·exact (mS .here (by rw [wF ep25,List.append_assoc]) (mS .here (by rw [wF ep25,List.append_assoc]) (mS .here rfl mN)))
  ·first|omega|(dsimp only; omega)
  ·exact (hGl0).trans hG28
  (try dsimp only)<;>(first|omega|rfl|assumption|(simp; done))
 have c1k:=c1
 try simp only [aC,aD] at c1
 refine .exit (.xcode (.xlp (.xblk (.code (.seq ?_)))))
 obtain rfl:k=ps.length:=by omega
 rw [List.take_length]
 refine .g (ka rfl (.inr rfl) aKa (aB rfl aF) (gT .here .here) (aE9 (L18++cV ps) _ _ _ hK (by rw [List.length_append]; omega)) ?_)
 rintro _ G31 μ31 hG31 ⟨rfl,rfl⟩
 have hK:=hK.mono hG31
 have hbb6:=hbb6.mono hG31
 refine al rfl fQ ?_; intro b10
 refine sW rfl rfl rfl rfl fB .here ?_
 refine .nil (.code (.seq ?_))
 refine fP .here (by intro b hb; cases hb) ?_; intro Gfb10 hleb10 hbb10
 have hK:=hK.mono hleb10
 have hbb6:=hbb6.mono hleb10
 refine bA (mc:=⟨false,false⟩) [0,1,2,3,4] aX (by kernel_rfl) ?_
 refine kA rfl .no jN (.u rfl) hbb6 (by first|exact oG|exact mT|exact oE) ?_; intro h32 L32 eL32 lL32 hs32
 refine kA rfl .no fU (.u rfl) hbb10 (by first|exact oG|exact mT|exact oE) ?_; intro h33 L33 eL33 lL33 hs33
 refine Go.Tan.bN rfl jB mR (Evp.cons (.u rfl) (Evp.cons (.u rfl) Evp.nil)) rfl (by decide) (by simp [Value.oneCell',Sh.val]) ?_; intro b34
 refine kp rfl .no aAh (aB rfl aF) (Gp.add .here Gp.nil) (fun _ hle hq=>aRW hle hs32 hs33 hK (by omega)) ?_
 refine sW rfl rfl rfl rfl fB bB ?_
 refine .nil (.code (.ret (aM Tryz.results131 (.cell rfl (fun w hw=>bI dY (RdN.own .here) ((by first|exact qE|exact qL|rfl)) hw) .nil) ?_)))
 exact ⟨rfl,by rw [eL32,eL33,eL18]; rfl⟩
theorem aNs {G:PM} {b T:Nat} {hk h1 h2 h3 h4:Sh} {key L1 L2 L3 L4:List Y} (hle:PM.le G (G.add b (cl [h1.val L1.length,h2.val L2.length,h3.val L3.length,h4.val L4.length] T))) (hsk:SlR G 1 aQ hk key) (hs:SlR G 1 aQ h1 L1) (hs2:SlR G 1 aQ h2 L2) (hs3:SlR G 1 aQ h3 L3) (hs4:SlR G 1 aQ h4 L4) (hK:RdNP G 1 0 (wa 64 kW)) (hlk:key.length≤140737488351232) (hl:L1.length+L2.length+L3.length+L4.length≤1000000000000000) :
  Ct Tryz.prog 131 ([hk.val key.length,.slice (some ⟨b,0,none⟩) 4 4]:List Value).toArray (G.add b (cl [h1.val L1.length,h2.val L2.length,h3.val L3.length,h4.val L4.length] T)) [] (fun _ μ' u=>μ'=[]∧u=.agg (ba 32 (pK key (L1++L2++L3++L4))).toArray):=by
 have h:=aDU key hk [(h1,L1),(h2,L2),(h3,L3),(h4,L4)] ⟨some ⟨b,0,none⟩,4⟩ _ (hsk.mono hle) (SlP.four hle hs hs2 hs3 hs4) (hK.mono hle) hlk (by simp [cV]; omega) (by simp)
 rw [show cV [(h1,L1),(h2,L2),(h3,L3),(h4,L4)]=L1++L2++L3++L4 by simp [cV]] at h
 exact h
theorem aLI (enc mac nonce:Nat→Y) (ad:List Y) (ha:Sh) (xs:List Y) (hx:Sh) (G:PM) (hsa:SlR G 1 aQ ha ad) (hsx:SlR G 1 aQ hx xs) (hK:RdNP G 1 0 (wa 64 kW)) (hla:ad.length≤140737488351232) (hl:xs.length≤140737488355328):Ct Tryz.prog 105 ([.agg (ba 32 enc++ba 32 mac).toArray,.agg (ba 12 nonce).toArray,ha.val ad.length,hx.val xs.length]:List Value).toArray G [] (fun _ μ' u=>μ'=[]∧u=.agg (ba 16 (vF mac nonce ad xs)).toArray):=by
 refine Ct.of Tryz.func105 rfl Tryz.ntmps105 rfl fun w0 hs0=>?_
 refine .seq (dU rfl rfl ?_)
 refine bX rfl rfl rfl ?_; intro b4
 refine bX rfl rfl rfl ?_; intro b5
 refine al rfl aT0 ?_; intro b8
 refine .nil (.code (.seq ?_))
 refine fP aN (by intro b hb; cases hb) ?_; intro Gfb4 hleb4 hbb4
 have hsa:=hsa.mono hleb4
 have hsx:=hsx.mono hleb4
 have hK:=hK.mono hleb4
 refine fP aE (by intro b hb; cases hb) ?_; intro Gfb5 hleb5 hbb5
 have hsa:=hsa.mono hleb5
 have hsx:=hsx.mono hleb5
 have hK:=hK.mono hleb5
 have hbb4:=hbb4.mono hleb5
 refine bA (mc:=⟨false,false⟩) [0,1,2,3,4,6,7,8,5,9,10,11,12] aX (by kernel_rfl) ?_
 refine fA rfl aEe rfl ?_
 refine kA rfl .no tQ (.u rfl) hbb4 (by first|exact oG|exact mT|exact oE) ?_; intro h11 L11 eL11 lL11 hs11
 refine .p (lE rfl bU rfl (ci rfl .no rfl gG (.u rfl) ?_))
 refine mV rfl rfl ?_
 refine kA rfl .no aCM (.u rfl) hbb5 (by first|exact oG|exact mT|exact oE) ?_; intro h17 L17 eL17 lL17 hs17
 refine .p (kc rfl aCU (aB rfl (aB rfl (aB rfl aF))) (Ct.frzB (aAY [] ⟨none,0⟩ _ 8 _ SlR.nul (by simp) (by decide))) ?_)
 rintro _ G15 μ15 hG15 ⟨h15,L15,eL15,rfl,rfl,hs15⟩
 have hsa:=hsa.mono hG15
 have hsx:=hsx.mono hG15
 have hK:=hK.mono hG15
 have hs11:=hs11.mono hG15
 have hs17:=hs17.mono hG15
 refine Go.Tan.bN rfl jB mR (Evp.cons (.u rfl) (Evp.cons (.u rfl) (Evp.cons (.u rfl) (Evp.cons (.u rfl) Evp.nil)))) rfl (by decide) (by simp [Value.oneCell',Sh.val]) ?_; intro b19
 have lL15:L15.length=8:=by rw [eL15,List.nil_append]; exact fI _ 8
 refine kp rfl .no aEj (aB rfl (aB rfl aF)) (Gp.add .here Gp.nil) (fun _ hle hq=>aNs hle hs11 hs15 hsa hs17 hsx hK (by omega) (by omega)) ?_
 refine al rfl fQ ?_; intro b9
 refine sW rfl rfl rfl rfl fB .here ?_
 refine .g (sah rfl .no fU (.u rfl) (.u rfl) (fun _=>by first|decide|omega) (fun _=>by first|decide|omega) ?_)
 refine sp rfl .no aJ8 (.u rfl) (fun _=>by first|decide|omega) ?_
 refine lA rfl .no aEZ (.u rfl) (fun _=>RdN.part (n:=16) (cs':=ba 16 _) .here (aCh (by decide))) (fun _=>(by first|exact qE|exact qL|rfl)) ?_
 refine sW rfl rfl rfl rfl aTx aN ?_
 refine .nil (.code (.ret (aM Tryz.results105 (.cell rfl (fun w hw=>bI aEZ (RdN.own .here) ((by first|exact qE|exact qL|rfl)) hw) .nil) ?_)))
 exact ⟨rfl,by rw [eL11,eL15,eL17]; rfl⟩
theorem aE5 (enc mac nonce:Nat→Y) (ad:List Y) (ha:Sh) (xs:List Y) (hx:Sh) (G:PM) (hsa:SlR G 1 aQ ha ad) (hsx:SlR G 1 aQ hx xs) (hK:RdNP G 1 0 (wa 64 kW)) (hla:ad.length≤140737488351232) (hl:xs.length≤140737488351248):Ct Tryz.prog 76 ([.agg (ba 32 enc++ba 32 mac).toArray,.agg (ba 12 nonce).toArray,ha.val ad.length,hx.val xs.length]:List Value).toArray G [] (fun _ μ' u=>∃ v L e,aE4 (oN enc mac nonce ad xs) L e∧μ'=[rB v 5 L]∧u=.tuple #[v,.int .i64 e]):=by
 refine Ct.of Tryz.func76 rfl Tryz.ntmps76 rfl fun w0 hs0=>?_
 refine .seq (gK rfl rfl ?_)
 refine bX rfl rfl rfl ?_; intro b4
 refine bX rfl rfl rfl ?_; intro b5
 refine .g (lE rfl bU rfl (aR rfl rfl rfl rfl ?_))
 refine .g (cP rfl rfl rfl rfl (.g (cD rfl (fun c1=>?_) (fun c1=>?_))))
 ·have c1k:=c1
  try simp only [aC,aD] at c1
  refine .seq (bJ rfl rfl (aS rfl rfl (aS rfl rfl (.nc (.ret (vJ 5 ?_))))))
  refine We.fin Tryz.results76 (.tmp rfl (.tmp rfl .nil)) (mS .here rfl mN) ?_
  rw [aHg (by omega)]; exact ⟨_,[],60,.inr ⟨rfl,rfl,rfl⟩,rfl,rfl⟩
 have c1k:=c1
 try simp only [aC,aD] at c1
 refine .g (kE ((xs.length-16)) rfl .no aI hsx (.u rfl) (.u rfl) (by omega) (by omega) ?_)
 intro h19 L19 eL19 lL19 hs19
 have lL19:=lL19 rfl
 refine .g (bA (mc:=⟨false,false⟩) [0,1,2,3,5,6,7,8,9,4,10] aX (by kernel_rfl) ?_)
 refine lB rfl qY rfl aE ?_
 refine lB rfl tP rfl .here ?_
 refine .p (kD ((xs.length-16)) rfl .no aI hsx (.u rfl) (.u rfl) (by omega) (by omega) ?_)
 intro h27 L27 eL27 lL27 hs27
 have lL27:=lL27 rfl
 refine spS rfl .no aJ8 hs27 (.u rfl) (by omega) (by decide) ?_
 refine lA rfl .no aEZ (.u rfl) (fun _=>(hs27.arr (m:=16) (by omega)).rd) (fun _=>bT _ _) ?_
 refine kV rfl aSr (aB rfl (aB rfl (aB rfl (aB rfl aF)))) (aLI enc mac nonce ad ha L19 h19 _ hsa hs19 hK hla (by omega)) ?_
 refine nqB rfl .no aSU (.u rfl) (.u rfl) ?_
 refine .g (cD rfl (fun c2=>?_) (fun c2=>?_))
 ·have c2k:=c2
  try simp only [aC,aD] at c2
  refine .seq (bJ rfl rfl (aS rfl rfl (aS rfl rfl (.nc (.ret (vJ 5 ?_))))))
  refine We.fin Tryz.results76 (.tmp rfl (.tmp rfl .nil)) (mS .here rfl mN) ?_
  rw [aHf (by omega) (by rw [← eL19,←eL27,←aCC L27,show L27.length=16 by omega]; exact c2)]; exact ⟨_,[],60,.inr ⟨rfl,rfl,rfl⟩,rfl,rfl⟩
 have c2k:=c2
 try simp only [aC,aD] at c2
 refine .g (fZ rfl aEd rfl (lA rfl .no yG (.u rfl) (fun _=>RdN.part (n:=32) (cs':=ba 32 enc) aE (mT)) (fun _=>(by first|exact qE|exact qL|rfl)) ?_))
 refine lB rfl tP rfl .here ?_
 refine .p (kc rfl aSq (aB rfl (aB rfl (aB rfl (aB rfl aF)))) (jZ (aJ0 enc nonce 1#32 h19 L19 _ hs19 (by omega))) ?_)
 rintro v35 G35 μ35 hG35 ⟨L35,ov35,eL35,rfl⟩
 refine aS rfl rfl (aS rfl rfl (.nc (.ret (We.fin Tryz.results76 (.tmp rfl (.tmp rfl .nil)) (mS .here rfl mN) ?_))))
 rw [aDl (by omega) (by rw [← eL19,←eL27,←aCC L27,show L27.length=16 by omega]; exact c2),←eL19]; exact ⟨v35,L35,0,.inl ⟨by rw [eL35],rfl⟩,rfl,rfl⟩
theorem aEb:csT Tryz.prog 24=true:=by kernel_rfl
def zF:Nat→Y:=fun _=>0#8
theorem aCa:(Tryz.prog.info? 130).bind (·.zero)=some (.int .u32 0):=by kernel_rfl
theorem rF:aU Tryz.prog 148=true:=by kernel_rfl
theorem aEw:iD Tryz.prog 179=some ([.int .u32 0,.int .u32 0,.int .u32 0,.int .u32 0,.int .u32 0,.int .u32 0,.int .u32 0,.int .u32 0]):=by kernel_rfl
theorem aS8:aU Tryz.prog 147=true:=by kernel_rfl
theorem aAr:dL Tryz.prog 179=some 8:=by kernel_rfl
theorem aS2:aU Tryz.prog 136=true:=by kernel_rfl
theorem aS3:aU Tryz.prog 137=true:=by kernel_rfl
theorem qT (x:W) (k:Nat) (G:PM) (hk:k≤32):Ct Tryz.prog 148 ([U x,.int .i64 (k:Int)]:List Value).toArray G [] (fun _ μ' u=>μ'=[]∧u=U (hH x k)):=by
 refine Ct.of Tryz.func148 rfl Tryz.ntmps148 rfl fun w0 hs0=>?_
 refine .g (bA (mc:=⟨false,false⟩) [0,1,2,3,4,5,6,7,8] aX (by kernel_rfl) ?_)
 refine .p (jH (k:=.u32) rfl .no (.u rfl) (.u rfl) (by omega) ?_)
 refine .p (aW (((32-k):Nat):Int) rfl rfl rfl rfl ?_)
 refine lw (k:=.u32) rfl .no rfl (.u rfl) (.u rfl) (by omega) ?_
 refine bw (k:=.u32) rfl .no rfl (.u rfl) (.u rfl) rfl (aS rfl rfl (.nc (.ret (aM Tryz.results148 (.tmp rfl .nil) ?_))))
 exact ⟨rfl,congrArg (fun z=>fO [uv .u32 z]) (BitVec.or_comm ..)⟩
theorem aR6 {n:Nat} {y:Nat→W} {z:W}:wa n y++[U z]=wa (n+1) (upd y n z):=by
 refine List.ext_getElem? fun i=>?_
 rw [List.getElem?_append,bV]
 by_cases h:i<n
 ·rw [if_pos h,tO h,tO (by omega),upd,if_neg (by omega)]
 rw [if_neg h]
 by_cases h2:i=n
 ·subst h2; rw [tO (by omega),vI]; simp
 rw [List.getElem?_eq_none (by simp; omega),List.getElem?_eq_none (by rw [bV]; omega)]
theorem aIW {v:Value} {E n:Nat} {y:Nat→W} {z:W}:Res.row v E 1 (n+1) (wa n y++[U z])=Res.row v E 1 (n+1) (wa (n+1) (upd y n z)):=by rw [aR6]
theorem aR0 {s x:Nat→W} {k:Nat}:upd (fun i=>if i<k then s i+x i else x i) k ((if k<k then s k+x k else x k)+s k)=fun i=>if i<k+1 then s i+x i else x i:=by
 funext i
 unfold upd
 by_cases h:i=k
 ·subst h; simp [BitVec.add_comm]
 ·rw [if_neg h]
  by_cases h2:i<k
  ·simp [h2,show i<k+1 by omega]
  ·simp [h2,show ¬ i<k+1 by omega]
theorem aNf {n q:Nat} (h:q<8):aBa n q=((BitVec.ofInt 64 (n:Int)*8#64) >>> (((8*(7-q):Nat):Int)).toNat).setWidth 8:=by
 rw [Int.toNat_natCast,show 8*(7-q)=56-8*q by omega]; rfl
theorem aLn {zs L:List Y} {j b T:Nat} (eL:L=(zs.drop (64*j)).take (64*j+64-64*j)):Res.blk b (cl (wa 8 (oR (eY zs j) (fun i=>L.getD i 0))) T)=.blk b (cl (wa 8 (eY zs (j+1))) T):=by
 rw [eY,aBz (b':=uG zs j)]
 intro i hi
 rw [eL,uG,aGV (by omega)]
theorem aB0 (xs:List Y) (i q:Nat) (hq:q<4):gM xs (4*i+q)=((eY (lF xs) ((lF xs).length / 64) i) >>> (24-8*q)).setWidth 8:=by
 unfold gM
 rw [show (4*i+q) / 4=i by omega,show (4*i+q)%4=q by omega]
theorem aLP (a b c d:W):a+b+c+d=a+c+b+d:=by rw [BitVec.add_assoc a b c,BitVec.add_comm b c,←BitVec.add_assoc]
theorem aP7 (x:Nat→W) (k w:W):x 7+(hH (x 4) 6 ^^^ hH (x 4) 11 ^^^ hH (x 4) 25)+((x 4 &&& x 5) ^^^ (~~~x 4 &&& x 6))+k+w+((hH (x 0) 2 ^^^ hH (x 0) 13 ^^^ hH (x 0) 22)+((x 0 &&& x 1) ^^^ (x 0 &&& x 2) ^^^ (x 1 &&& x 2)))=rY x k w 0:=by rw [aFY,aNu]; rfl
theorem aP9 (x:Nat→W) (k w:W):x 3+(x 7+(hH (x 4) 6 ^^^ hH (x 4) 11 ^^^ hH (x 4) 25)+((x 4 &&& x 5) ^^^ (~~~x 4 &&& x 6))+k+w)=rY x k w 4:=by rw [aFY]; rfl
theorem aQs (xs:List Y) (i:Nat):gM xs (4*i)=((eY (lF xs) ((lF xs).length / 64) i) >>> 24).setWidth 8:=aB0 xs i 0 (by decide)
theorem aQX (xs:List Y) (h:Sh) (G:PM) (hs:SlR G 1 aQ h xs) (hl:64≤xs.length):Ct Tryz.prog 147 ([h.val xs.length]:List Value).toArray G [] (fun _ μ' u=>μ'=[.row u 130 1 64 (wa 64 (iN (fun i=>xs.getD i 0) 48))]):=by
 refine Ct.of Tryz.func147 rfl Tryz.ntmps147 rfl fun w0 hs0=>?_
 refine .seq (aL rfl rfl (aS rfl rfl (.nc (.seq (aL rfl rfl (aS rfl rfl (.nc (.seq (.seq (aAU 130 1 ?_))))))))))
 refine aL rfl rfl (aS rfl rfl (.nc (.block ?_)))
 refine aV (α:=Nat×Value×(Nat→W)) (fun gh=>[(3,true,gh.2.1),(4,true,.int .i64 (gh.1:Int))]) (fun gh=>[.row gh.2.1 130 1 gh.1 (wa gh.1 gh.2.2)])
  (fun gh Gl=>(gh.1≤16)∧(gh.2.2=nV (fun i=>xs.getD i 0) gh.1)) (fun gh=>16-gh.1) (0,.slice none 0 0,fun _=>0#32) [(0,true,_)] []
  (aA rfl (aK rfl (aA rfl eZ)))
  (mS .here rfl mN) ?_ ?_
 ·refine ⟨?_,?_⟩
  ·(try dsimp only)<;>(first|omega|rfl|assumption|(simp; done))
  (try dsimp only)<;>(first|omega|rfl|assumption|(simp; done))
 intro gh N0 Gl0 hN0 hGl0 hF0
 obtain ⟨k,v,y⟩:=gh; dsimp only at hF0 hN0 ⊢
 obtain ⟨hk,ey⟩:=hF0
 have hs:=hs.mono hGl0
 refine .g (cP rfl rfl rfl rfl (.g (cD rfl (fun c1=>?_) (fun c1=>?_))))
 ·have c1k:=c1
  try simp only [aC,aD] at c1
  refine .g (bA (mc:=⟨false,false⟩) [0,1,2,3,4,5,6,7,8,9,10,11,12,13,14,15,16,17,18,19,20,21,22,23,24,25,26,27,28,29,30,31,32,33,34,35,36] aX (by kernel_rfl) ?_)
  refine .p (aW (((4*k):Nat):Int) rfl rfl rfl rfl ?_)
  refine ih rfl .no aI (.u rfl) (.u rfl) (by omega) (by omega) (fun _=>hs.nn (k:=(4*k)) (by omega)) ?_
  refine lN rfl aZ rfl ((hs.yat ((4*k)) (by omega) (by omega)).rd) ?_
  refine cu (k:=.u8) rfl .no rfl oX (.u rfl) ?_
  refine lw (k:=.u32) rfl .no rfl (.u rfl) (.u rfl) (fun _=>by decide) ?_
  refine .p (aW (((4*k):Nat):Int) rfl rfl rfl rfl ?_)
  refine cQ ((((4*k)+1):Nat):Int) rfl .no (.u rfl) (.u rfl) rfl (by omega) (fun _=>bO (by omega) (by omega)) ?_
  refine ih rfl .no aI (.u rfl) (.u rfl) (by omega) (by omega) (fun _=>hs.nn (k:=((4*k)+1)) (by omega)) ?_
  refine ld rfl .no aZ (.u rfl) (fun _=>(hs.yat (((4*k)+1)) (by omega) (by omega)).rd) ?_
  refine cu (k:=.u8) rfl .no rfl oX (.u rfl) ?_
  refine lw (k:=.u32) rfl .no rfl (.u rfl) (.u rfl) (fun _=>by decide) ?_
  refine bw (k:=.u32) rfl .no rfl (.u rfl) (.u rfl) rfl (.p (aW (((4*k):Nat):Int) rfl rfl rfl rfl ?_))
  refine cQ ((((4*k)+2):Nat):Int) rfl .no (.u rfl) (.u rfl) rfl (by omega) (fun _=>bO (by omega) (by omega)) ?_
  refine ih rfl .no aI (.u rfl) (.u rfl) (by omega) (by omega) (fun _=>hs.nn (k:=((4*k)+2)) (by omega)) ?_
  refine ld rfl .no aZ (.u rfl) (fun _=>(hs.yat (((4*k)+2)) (by omega) (by omega)).rd) ?_
  refine cu (k:=.u8) rfl .no rfl oX (.u rfl) ?_
  refine lw (k:=.u32) rfl .no rfl (.u rfl) (.u rfl) (fun _=>by decide) ?_
  refine bw (k:=.u32) rfl .no rfl (.u rfl) (.u rfl) rfl (.p (aW (((4*k):Nat):Int) rfl rfl rfl rfl ?_))
  refine cQ ((((4*k)+3):Nat):Int) rfl .no (.u rfl) (.u rfl) rfl (by omega) (fun _=>bO (by omega) (by omega)) ?_
  refine ih rfl .no aI (.u rfl) (.u rfl) (by omega) (by omega) (fun _=>hs.nn (k:=((4*k)+3)) (by omega)) ?_
  refine ld rfl .no aZ (.u rfl) (fun _=>(hs.yat (((4*k)+3)) (by omega) (by omega)).rd) ?_
  refine cu (k:=.u8) rfl .no rfl oX (.u rfl) ?_
  refine bw (k:=.u32) rfl .no rfl (.u rfl) (.u rfl) rfl ?_
  refine Go.Tan.b1 rfl mQ aCa (.u rfl) rfl rfl (by decide) ?_; intro b46
  refine ap rfl mQ aCa rfl (.u rfl) (.u rfl) aE (rfl) (fun _=>⟨_,_,rfl,RdN.own .here⟩) (one1 rfl) (by omega) (by unfold maxLen; omega) ?_; intro v47
  refine .g (aW (((k+1):Nat):Int) rfl rfl rfl rfl ?_)
  refine .g (aP (k+1,v47,upd y k (zE (fun i=>xs.getD i 0) (4*k))) ?_ ?_ ?_ ?_ ?_)
  ·exact (aA rfl (aK rfl (aA rfl eZ)))
  ·exact (mS .here aIW mN)
  ·first|omega|(dsimp only; omega)
  ·exact hGl0
  refine ⟨?_,?_⟩
  ·(try dsimp only)<;>(first|omega|rfl|assumption|(simp; done))
  (try dsimp only)<;>(rw [ey]; rfl)
 have c1k:=c1
 try simp only [aC,aD] at c1
 refine .exit (.xcode (.xlp (.xblk (.code (.seq (.seq (aL rfl rfl (aS rfl rfl (.nc (.block ?_))))))))))
 obtain rfl:k=16:=by omega
 refine aV (α:=Nat×Value×(Nat→W)) (fun gh=>[(3,true,gh.2.1),(5,true,.int .i64 ((16+gh.1:Nat):Int))]) (fun gh=>[.row gh.2.1 130 1 (16+gh.1) (wa (16+gh.1) gh.2.2)])
  (fun gh Gl=>(gh.1≤48)∧(gh.2.2=iN (fun i=>xs.getD i 0) gh.1)) (fun gh=>48-gh.1) (0,_,y) [] []
  (aA rfl (aK rfl eZ))
  (mS .here rfl mN) ?_ ?_
 ·refine ⟨?_,?_⟩
  ·(try dsimp only)<;>(first|omega|rfl|assumption|(simp; done))
  (try dsimp only)<;>(rw [ey]; rfl)
 intro gh N1 Gl1 hN1 hGl1 hF1
 obtain ⟨k1,v,y⟩:=gh; dsimp only at hF1 hN1 ⊢
 obtain ⟨hk1,ey⟩:=hF1
 refine .g (cP rfl rfl rfl rfl (.g (cD rfl (fun c2=>?_) (fun c2=>?_))))
 ·have c2k:=c2
  try simp only [aC,aD] at c2
  refine .skip (.code (.seq (.block (.seq ?_))))
  refine nX .here (by omega) ?_; intro bRW cRW evRW lcRW; subst evRW
  refine bA (mc:=⟨false,false⟩) [0,1,2,3,4,6,7,8,9,10,13,14,15,16,17,18,5,11,12,19,20] aX (by kernel_rfl) ?_
  refine .p (aW (((1+k1):Nat):Int) rfl rfl rfl rfl ?_)
  refine ia rfl .no mQ (.u rfl) (.u rfl) (by omega) (by omega) ?_
  refine lN rfl bH rfl (Rd.row .here (by first|exact qQ ((1+k1)) (by omega) (by omega)|exact bG ((1+k1)) (by omega) (by omega))) ?_
  refine .p (aW (((1+k1):Nat):Int) rfl rfl rfl rfl ?_)
  refine ia rfl .no mQ (.u rfl) (.u rfl) (by omega) (by omega) ?_
  refine lN rfl bH rfl (Rd.row .here (by first|exact qQ ((1+k1)) (by omega) (by omega)|exact bG ((1+k1)) (by omega) (by omega))) ?_
  refine .p (aW (((1+k1):Nat):Int) rfl rfl rfl rfl ?_)
  refine ia rfl .no mQ (.u rfl) (.u rfl) (by omega) (by omega) ?_
  refine lN rfl bH rfl (Rd.row .here (by first|exact qQ ((1+k1)) (by omega) (by omega)|exact bG ((1+k1)) (by omega) (by omega))) ?_
  refine jH (k:=.u32) rfl .no (.u rfl) (.u rfl) (fun _=>by decide) ?_
  refine kV rfl rF (aB rfl (aB rfl aF)) (qT _ 7 _ (by decide)) ?_
  refine kV rfl rF (aB rfl (aB rfl aF)) (qT _ 18 _ (by decide)) ?_
  refine bw (k:=.u32) rfl .no rfl (.u rfl) (.u rfl) rfl (bw (k:=.u32) rfl .no rfl (.u rfl) (.u rfl) rfl (.g (bA (mc:=⟨false,false⟩) [0,1,2,3,4,6,7,8,9,10,13,14,15,16,17,18,5,11,12,19,20] aX (by kernel_rfl) ?_)))
  refine .p (aW (((14+k1):Nat):Int) rfl rfl rfl rfl ?_)
  refine ia rfl .no mQ (.u rfl) (.u rfl) (by omega) (by omega) ?_
  refine lN rfl bH rfl (Rd.row .here (by first|exact qQ ((14+k1)) (by omega) (by omega)|exact bG ((14+k1)) (by omega) (by omega))) ?_
  refine .p (aW (((14+k1):Nat):Int) rfl rfl rfl rfl ?_)
  refine ia rfl .no mQ (.u rfl) (.u rfl) (by omega) (by omega) ?_
  refine lN rfl bH rfl (Rd.row .here (by first|exact qQ ((14+k1)) (by omega) (by omega)|exact bG ((14+k1)) (by omega) (by omega))) ?_
  refine .p (aW (((14+k1):Nat):Int) rfl rfl rfl rfl ?_)
  refine ia rfl .no mQ (.u rfl) (.u rfl) (by omega) (by omega) ?_
  refine lN rfl bH rfl (Rd.row .here (by first|exact qQ ((14+k1)) (by omega) (by omega)|exact bG ((14+k1)) (by omega) (by omega))) ?_
  refine jH (k:=.u32) rfl .no (.u rfl) (.u rfl) (fun _=>by decide) ?_
  refine kV rfl rF (aB rfl (aB rfl aF)) (qT _ 17 _ (by decide)) ?_
  refine kV rfl rF (aB rfl (aB rfl aF)) (qT _ 19 _ (by decide)) ?_
  refine bw (k:=.u32) rfl .no rfl (.u rfl) (.u rfl) rfl (bw (k:=.u32) rfl .no rfl (.u rfl) (.u rfl) rfl (.g (bA (mc:=⟨false,false⟩) [0,1,2,3,4,5,6,7,8,9,10,11,12,13,14,15,16,17,18] aX (by kernel_rfl) ?_)))
  refine .p (aW ((k1:Nat):Int) rfl rfl rfl rfl ?_)
  refine ia rfl .no mQ (.u rfl) (.u rfl) (by omega) (by omega) ?_
  refine lN rfl bH rfl (Rd.row .here (by first|exact qQ (k1) (by omega) (by omega)|exact bG (k1) (by omega) (by omega))) ?_
  refine .p (bw (k:=.u32) rfl .no rfl (.u rfl) (.u rfl) rfl (.p (aW (((9+k1):Nat):Int) rfl rfl rfl rfl ?_)))
  refine ia rfl .no mQ (.u rfl) (.u rfl) (by omega) (by omega) ?_
  refine lN rfl bH rfl (Rd.row .here (by first|exact qQ ((9+k1)) (by omega) (by omega)|exact bG ((9+k1)) (by omega) (by omega))) ?_
  refine bw (k:=.u32) rfl .no rfl (.u rfl) (.u rfl) rfl (.p (bw (k:=.u32) rfl .no rfl (.u rfl) (.u rfl) rfl ?_))
  refine Go.Tan.b1 rfl mQ aCa (.u rfl) rfl rfl (by decide) ?_; intro b108
  refine ap rfl mQ aCa rfl (.u rfl) (.u rfl) aE (rfl) (fun _=>⟨_,_,rfl,RdN.own .here⟩) (one1 rfl) (by omega) (by unfold maxLen; omega) ?_; intro v109
  refine .g (cQ (((((16+k1:Nat))+1):Nat):Int) rfl .no (.u rfl) (.u rfl) rfl (by omega) (fun _=>bO (by omega) (by omega)) ?_)
  refine .g (aP (k1+1,v109,upd y (16+k1) (y k1+s0W (y (1+k1))+y (9+k1)+s1W (y (14+k1)))) ?_ ?_ ?_ ?_ ?_)
  ·exact (aA rfl (aK rfl eZ))
  ·exact (mS .here aIW mN)
  ·first|omega|(dsimp only; omega)
  ·exact hGl1
  refine ⟨?_,?_⟩
  ·(try dsimp only)<;>(first|omega|rfl|assumption|(simp; done))
  (try dsimp only)<;>(rw [ey,iN]; exact congrArg (upd _ _) (aLP ..))
 have c2k:=c2
 try simp only [aC,aD] at c2
 refine .exit (.xcode (.xlp (.xblk (.code (.seq (bJ rfl rfl (mV rfl rfl (aS rfl rfl (.nc (.ret (We.fin Tryz.results147 (.tmp rfl .nil) (mS .here rfl mN) ?_)))))))))))
 obtain rfl:k1=48:=by omega
 rw [ey]; rfl
theorem aP8 {x y:Nat→W} {k:Nat} {zs:List Value} (h:zs.length=8) (a e:W) (ha:a=rY x (kW k) (y k) 0) (he:e=rY x (kW k) (y k) 4):qG zs [(0,1),(1,1),(2,1),(3,1),(4,1),(5,1),(6,1),(7,1)] [[U a],[U (x 0)],[U (x 1)],[U (x 2)],[U e],[U (x 4)],[U (x 5)],[U (x 6)]]=wa 8 (rY x (kW k) (y k)):=by
 subst ha; subst he
 match zs,h with
 | [a,b,c,d,e,f,g,h],_=>rfl
set_option maxHeartbeats 1000000 in
theorem aPb (s:Nat→W) (xs:List Y) (h:Sh) (G:PM) (hs:SlR G 1 aQ h xs) (hR:RdNP G 0 0 (wa 64 kW)) (hl:64≤xs.length):Ct Tryz.prog 137 ([.agg (wa 8 s).toArray,h.val xs.length]:List Value).toArray G [] (fun _ μ' u=>μ'=[]∧u=.agg (wa 8 (oR s (fun i=>xs.getD i 0))).toArray):=by
 refine Ct.of Tryz.func137 rfl Tryz.ntmps137 rfl fun w0 hs0=>?_
 refine .seq (bJ rfl rfl ?_)
 refine bX rfl rfl rfl ?_; intro b2
 refine al rfl aEw ?_; intro b4
 refine .g (kc rfl aS8 (aB rfl aF) (aQX xs h _ hs hl) ?_)
 rintro v12 G12 μ12 hG12 rfl
 have hR:=hR.mono hG12
 refine .g (lB rfl aAa rfl aN ?_)
 refine al rfl aEw ?_; intro b6
 refine sW rfl rfl rfl rfl aAr .here ?_
 refine .nil (.code (.seq (.seq ?_)))
 refine nX aE (by omega) ?_; intro bRW cRW evRW lcRW; subst evRW
 refine aL rfl rfl (aS rfl rfl (.nc (.block ?_)))
 refine aV (α:=Nat×(Nat→W)) (fun gh=>[(7,true,.int .i64 (gh.1:Int))]) (fun gh=>[.blk b6 (cl (wa 8 gh.2) 179)])
  (fun gh Gl=>(gh.1≤64)∧(gh.2=vE (iN (fun i=>xs.getD i 0) 48) s gh.1)) (fun gh=>64-gh.1) (0,s) [(2,true,_),(4,true,_),(5,true,_),(6,true,_)] [_,_,_]
  (aK rfl (aA rfl (aA rfl (aA rfl (aA rfl eZ)))))
  (mS .here rfl (mS .here rfl (mS .here rfl (mS .here rfl mN)))) ?_ ?_
 ·refine ⟨?_,?_⟩
  ·(try dsimp only)<;>(first|omega|rfl|assumption|(simp; done))
  (try dsimp only)<;>(first|omega|rfl|assumption|(simp; done))
 intro gh N0 Gl0 hN0 hGl0 hF0
 obtain ⟨k,x⟩:=gh; dsimp only at hF0 hN0 ⊢
 obtain ⟨hk,ex⟩:=hF0
 have hR:=hR.mono hGl0
 refine .g (cP rfl rfl rfl rfl (.g (cD rfl (fun c1=>?_) (fun c1=>?_))))
 ·have c1k:=c1
  try simp only [aC,aD] at c1
  refine .g (bA (mc:=⟨false,false⟩) [0,1,2,3,5,6,9,10,14,15,16,17,18,19,20,21,22,23,24,25,27,28,29,31,32,33,34,4,7,8,11,12,13,26,30,35,36] aX (by kernel_rfl) ?_)
  refine iW rfl dN rfl rfl ?_
  refine lO rfl bH rfl .here (by first|exact bG (7) (by omega) (by omega)|exact cU (7) (by omega) (by omega)|exact dB (7) (by omega) (by omega)|rfl) ?_
  refine iW rfl dN rfl rfl ?_
  refine lO rfl bH rfl .here (by first|exact bG (4) (by omega) (by omega)|exact cU (4) (by omega) (by omega)|exact dB (4) (by omega) (by omega)|rfl) ?_
  refine iW rfl dN rfl rfl ?_
  refine lO rfl bH rfl .here (by first|exact bG (4) (by omega) (by omega)|exact cU (4) (by omega) (by omega)|exact dB (4) (by omega) (by omega)|rfl) ?_
  refine iW rfl dN rfl rfl ?_
  refine lO rfl bH rfl .here (by first|exact bG (4) (by omega) (by omega)|exact cU (4) (by omega) (by omega)|exact dB (4) (by omega) (by omega)|rfl) ?_
  refine iW rfl dN rfl rfl ?_
  refine lO rfl bH rfl .here (by first|exact bG (4) (by omega) (by omega)|exact cU (4) (by omega) (by omega)|exact dB (4) (by omega) (by omega)|rfl) ?_
  refine iW rfl dN rfl rfl ?_
  refine lO rfl bH rfl .here (by first|exact bG (5) (by omega) (by omega)|exact cU (5) (by omega) (by omega)|exact dB (5) (by omega) (by omega)|rfl) ?_
  refine bw (k:=.u32) rfl .no rfl (.u rfl) (.u rfl) rfl (iW rfl dN rfl rfl ?_)
  refine lO rfl bH rfl .here (by first|exact bG (4) (by omega) (by omega)|exact cU (4) (by omega) (by omega)|exact dB (4) (by omega) (by omega)|rfl) ?_
  refine xw (k:=.u32) rfl .no rfl (.u rfl) ?_
  refine iW rfl dN rfl rfl ?_
  refine lO rfl bH rfl .here (by first|exact bG (6) (by omega) (by omega)|exact cU (6) (by omega) (by omega)|exact dB (6) (by omega) (by omega)|rfl) ?_
  refine bw (k:=.u32) rfl .no rfl (.u rfl) (.u rfl) rfl (bw (k:=.u32) rfl .no rfl (.u rfl) (.u rfl) rfl (.p (iW rfl qZ rfl rfl ?_)))
  refine lN rfl bH rfl ((hR.wat (k) (by omega) (by omega)).rd) ?_
  refine .p (ia rfl .no mQ (.u rfl) (.u rfl) (by omega) (by omega) ?_)
  refine lN rfl bH rfl (Rd.row aE (by first|exact qQ (k) (by omega) (by omega)|exact bG (k) (by omega) (by omega))) ?_
  refine kV rfl rF (aB rfl (aB rfl aF)) (qT _ 6 _ (by decide)) ?_
  refine kV rfl rF (aB rfl (aB rfl aF)) (qT _ 11 _ (by decide)) ?_
  refine bw (k:=.u32) rfl .no rfl (.u rfl) (.u rfl) rfl (kV rfl rF (aB rfl (aB rfl aF)) (qT _ 25 _ (by decide)) ?_)
  refine bw (k:=.u32) rfl .no rfl (.u rfl) (.u rfl) rfl (bw (k:=.u32) rfl .no rfl (.u rfl) (.u rfl) rfl (bw (k:=.u32) rfl .no rfl (.u rfl) (.u rfl) rfl (bw (k:=.u32) rfl .no rfl (.u rfl) (.u rfl) rfl (bw (k:=.u32) rfl .no rfl (.u rfl) (.u rfl) rfl (.g (bA (mc:=⟨false,false⟩) [0,1,3,4,7,8,11,12,13,14,15,16,17,18,19,20,21,22,23,24,25,26,27,2,5,6,9,10,28,29] aX (by kernel_rfl) ?_))))))
  refine iW rfl dN rfl rfl ?_
  refine lO rfl bH rfl .here (by first|exact bG (0) (by omega) (by omega)|exact cU (0) (by omega) (by omega)|exact dB (0) (by omega) (by omega)|rfl) ?_
  refine iW rfl dN rfl rfl ?_
  refine lO rfl bH rfl .here (by first|exact bG (0) (by omega) (by omega)|exact cU (0) (by omega) (by omega)|exact dB (0) (by omega) (by omega)|rfl) ?_
  refine iW rfl dN rfl rfl ?_
  refine lO rfl bH rfl .here (by first|exact bG (0) (by omega) (by omega)|exact cU (0) (by omega) (by omega)|exact dB (0) (by omega) (by omega)|rfl) ?_
  refine iW rfl dN rfl rfl ?_
  refine lO rfl bH rfl .here (by first|exact bG (0) (by omega) (by omega)|exact cU (0) (by omega) (by omega)|exact dB (0) (by omega) (by omega)|rfl) ?_
  refine iW rfl dN rfl rfl ?_
  refine lO rfl bH rfl .here (by first|exact bG (1) (by omega) (by omega)|exact cU (1) (by omega) (by omega)|exact dB (1) (by omega) (by omega)|rfl) ?_
  refine bw (k:=.u32) rfl .no rfl (.u rfl) (.u rfl) rfl (iW rfl dN rfl rfl ?_)
  refine lO rfl bH rfl .here (by first|exact bG (0) (by omega) (by omega)|exact cU (0) (by omega) (by omega)|exact dB (0) (by omega) (by omega)|rfl) ?_
  refine iW rfl dN rfl rfl ?_
  refine lO rfl bH rfl .here (by first|exact bG (2) (by omega) (by omega)|exact cU (2) (by omega) (by omega)|exact dB (2) (by omega) (by omega)|rfl) ?_
  refine bw (k:=.u32) rfl .no rfl (.u rfl) (.u rfl) rfl (bw (k:=.u32) rfl .no rfl (.u rfl) (.u rfl) rfl (iW rfl dN rfl rfl ?_))
  refine lO rfl bH rfl .here (by first|exact bG (1) (by omega) (by omega)|exact cU (1) (by omega) (by omega)|exact dB (1) (by omega) (by omega)|rfl) ?_
  refine iW rfl dN rfl rfl ?_
  refine lO rfl bH rfl .here (by first|exact bG (2) (by omega) (by omega)|exact cU (2) (by omega) (by omega)|exact dB (2) (by omega) (by omega)|rfl) ?_
  refine bw (k:=.u32) rfl .no rfl (.u rfl) (.u rfl) rfl (bw (k:=.u32) rfl .no rfl (.u rfl) (.u rfl) rfl (kV rfl rF (aB rfl (aB rfl aF)) (qT _ 2 _ (by decide)) ?_))
  refine kV rfl rF (aB rfl (aB rfl aF)) (qT _ 13 _ (by decide)) ?_
  refine bw (k:=.u32) rfl .no rfl (.u rfl) (.u rfl) rfl (kV rfl rF (aB rfl (aB rfl aF)) (qT _ 22 _ (by decide)) ?_)
  refine bw (k:=.u32) rfl .no rfl (.u rfl) (.u rfl) rfl (bw (k:=.u32) rfl .no rfl (.u rfl) (.u rfl) rfl (.g (bw (k:=.u32) rfl .no rfl (.u rfl) (.u rfl) rfl (iW rfl dN rfl rfl ?_))))
  refine lO rfl bH rfl .here (by first|exact bG (0) (by omega) (by omega)|exact cU (0) (by omega) (by omega)|exact dB (0) (by omega) (by omega)|rfl) ?_
  refine iW rfl dN rfl rfl ?_
  refine lO rfl bH rfl .here (by first|exact bG (1) (by omega) (by omega)|exact cU (1) (by omega) (by omega)|exact dB (1) (by omega) (by omega)|rfl) ?_
  refine iW rfl dN rfl rfl ?_
  refine lO rfl bH rfl .here (by first|exact bG (2) (by omega) (by omega)|exact cU (2) (by omega) (by omega)|exact dB (2) (by omega) (by omega)|rfl) ?_
  refine iW rfl dN rfl rfl ?_
  refine lO rfl bH rfl .here (by first|exact bG (3) (by omega) (by omega)|exact cU (3) (by omega) (by omega)|exact dB (3) (by omega) (by omega)|rfl) ?_
  refine .p (bw (k:=.u32) rfl .no rfl (.u rfl) (.u rfl) rfl (iW rfl dN rfl rfl ?_))
  refine lO rfl bH rfl .here (by first|exact bG (4) (by omega) (by omega)|exact cU (4) (by omega) (by omega)|exact dB (4) (by omega) (by omega)|rfl) ?_
  refine iW rfl dN rfl rfl ?_
  refine lO rfl bH rfl .here (by first|exact bG (5) (by omega) (by omega)|exact cU (5) (by omega) (by omega)|exact dB (5) (by omega) (by omega)|rfl) ?_
  refine iW rfl dN rfl rfl ?_
  refine lO rfl bH rfl .here (by first|exact bG (6) (by omega) (by omega)|exact cU (6) (by omega) (by omega)|exact dB (6) (by omega) (by omega)|rfl) ?_
  refine dK (wa 8 (rY x (kW k) (iN (fun i=>xs.getD i 0) 48 k))) rfl .no aCN (.cons (.u rfl) rfl (.cons (.u rfl) rfl (.cons (.u rfl) rfl (.cons (.u rfl) rfl (.cons (.u rfl) rfl (.cons (.u rfl) rfl (.cons (.u rfl) rfl (.cons (.u rfl) rfl .nil)))))))) rfl (aP8 (y:=iN (fun i=>xs.getD i 0) 48) rfl _ _ (aP7 x _ _) (aP9 x _ _)) ?_
  refine sW rfl rfl rfl rfl aAr .here ?_
  refine .g (aW (((k+1):Nat):Int) rfl rfl rfl rfl ?_)
  refine .g (aP (k+1,rY x (kW k) (iN (fun i=>xs.getD i 0) 48 k)) ?_ ?_ ?_ ?_ ?_)
  ·exact (aK rfl (aA rfl (aA rfl (aA rfl (aA rfl eZ)))))
  ·exact (mS .here rfl (mS .here rfl (mS .here rfl (mS .here rfl mN))))
  ·first|omega|(dsimp only; omega)
  ·exact hGl0
  refine ⟨?_,?_⟩
  ·(try dsimp only)<;>(first|omega|rfl|assumption|(simp; done))
  (try dsimp only)<;>(rw [ex]; rfl)
 have c1k:=c1
 try simp only [aC,aD] at c1
 refine .exit (.xcode (.xlp (.xblk (.code (.seq (.seq (aL rfl rfl (aS rfl rfl (.nc (.block ?_))))))))))
 obtain rfl:k=64:=by omega
 refine aV (α:=Nat×(Nat→W)) (fun gh=>[(10,true,.int .i64 (gh.1:Int))]) (fun gh=>[.blk b6 (cl (wa 8 gh.2) 179)])
  (fun gh Gl=>(gh.1≤8)∧(gh.2=fun i=>if i<gh.1 then s i+x i else x i)) (fun gh=>8-gh.1) (0,x) [(2,true,_),(4,true,_),(6,true,_)] [_,_,_]
  (aK rfl (aA rfl (aA rfl (aA rfl eZ))))
  (mS .here rfl (mS .here rfl (mS .here rfl (mS .here rfl mN)))) ?_ ?_
 ·refine ⟨?_,?_⟩
  ·(try dsimp only)<;>(first|omega|rfl|assumption|(simp; done))
  (try dsimp only)<;>(funext i; simp)
 intro gh N1 Gl1 hN1 hGl1 hF1
 obtain ⟨q,z⟩:=gh; dsimp only at hF1 hN1 ⊢
 obtain ⟨hq,ez⟩:=hF1
 refine .g (cP rfl rfl rfl rfl (.g (cD rfl (fun c2=>?_) (fun c2=>?_))))
 ·have c2k:=c2
  try simp only [aC,aD] at c2
  refine .g (bA (mc:=⟨false,false⟩) [0,1,2,3,4,5,6,7,8,9] aX (by kernel_rfl) ?_)
  refine .p (iW rfl dN rfl rfl ?_)
  refine lO rfl bH rfl .here (by first|exact bG (q) (by omega) (by omega)|exact cU (q) (by omega) (by omega)|exact dB (q) (by omega) (by omega)|rfl) ?_
  refine .p (iW rfl dN rfl rfl ?_)
  refine lO rfl bH rfl bB (by first|exact bG (q) (by omega) (by omega)|exact cU (q) (by omega) (by omega)|exact dB (q) (by omega) (by omega)|rfl) ?_
  refine bw (k:=.u32) rfl .no rfl (.u rfl) (.u rfl) rfl (iW rfl dN rfl rfl ?_)
  refine s1 rfl (.u rfl) (.u rfl) rfl dZ .here (by first|decide|(simp only [bV,bT,bM]; omega)) (by first|exact cY (q) (by omega)|exact iH (q) (by omega)|exact mJ (q) (by omega) (by omega)|rfl) ?_
  refine .g (aW (((q+1):Nat):Int) rfl rfl rfl rfl ?_)
  refine .g (aP (q+1,upd z q (z q+s q)) ?_ ?_ ?_ ?_ ?_)
  ·exact (aK rfl (aA rfl (aA rfl (aA rfl eZ))))
  ·exact (mS .here rfl (mS .here rfl (mS .here rfl (mS .here rfl mN))))
  ·first|omega|(dsimp only; omega)
  ·exact hGl1
  refine ⟨?_,?_⟩
  ·(try dsimp only)<;>(first|omega|rfl|assumption|(simp; done))
  (try dsimp only)<;>(rw [ez]; exact aR0)
 have c2k:=c2
 try simp only [aC,aD] at c2
 refine .g (lB rfl aAa rfl .here ?_)
 refine sW rfl rfl rfl rfl aAr aN ?_
 refine .nil (.code (.ret (aM Tryz.results137 (.cell rfl (fun w hw=>bI aAa (RdN.own .here) ((by first|exact qE|exact qL|rfl)) hw) .nil) ?_)))
 obtain rfl:q=8:=by omega
 exact ⟨rfl,by rw [ez,ex,aJj (f:=fun i=>if i<8 then s i+vE (iN (fun i=>xs.getD i 0) 48) s 64 i else vE (iN (fun i=>xs.getD i 0) 48) s 64 i) (f':=oR s (fun i=>xs.getD i 0)) (fun i hi=>by rw [if_pos hi]; rfl)]; rfl⟩
theorem aOh (xs:List Y) (h:Sh) (G:PM) (hs:SlR G 1 aQ h xs) (hl:xs.length≤1000000000000):Ct Tryz.prog 136 ([h.val xs.length]:List Value).toArray G [] (PR 5 (fun L=>L=lF xs)):=by
 refine Ct.of Tryz.func136 rfl Tryz.ntmps136 rfl fun w0 hs0=>?_
 have hz:jL xs.length=(119-xs.length%64)%64:=rfl
 refine .seq (aL rfl rfl (aS rfl rfl (.nc (.seq (gK rfl rfl ?_)))))
 refine oF rfl aI ?_; intro b6
 refine .p (oD rfl aI bF (.u rfl) (.u rfl) .here hs.sc (by (try simp only [bM,bK]); omega) ?_)
 intro v8 L8 _ ov8 eL8
 have lL8:L8.length=xs.length:=by rw [eL8]
 refine aS rfl rfl (.nc (.seq (gK rfl rfl (mV rfl rfl ?_))))
 refine Go.Tan.b1 rfl aI bF (.u rfl) rfl rfl (by decide) ?_; intro b10
 refine dC rfl aI bF (.u rfl) (.u rfl) aE (Sc.one (y:=128#8) .here) (by show _+1≤_; omega) ?_
 intro v11 L11 ov11 eL11
 have lL11:L11.length=L8.length+1:=by rw [eL11,List.length_append]; first|rfl | simp [bK]
 refine aS rfl rfl (.nc (.seq (.block ?_)))
 refine aV (α:=Nat×Value×List Y) (fun gh=>[(3,true,gh.2.1)]) (fun gh=>[rB gh.2.1 5 gh.2.2])
  (fun gh Gl=>(gh.1≤jL xs.length)∧(gh.2.2=xs++128#8 :: List.replicate gh.1 0#8)) (fun gh=>jL xs.length-gh.1) (0,_,_) [(0,true,_)] [_]
  (aA rfl (aA rfl eZ))
  (mS .here rfl (mS .here rfl mN)) ?_ ?_
 ·refine ⟨?_,?_⟩
  ·(try dsimp only)<;>(exact Nat.zero_le _)
  (try dsimp only)<;>(rw [eL11,eL8]; rfl)
 intro gh N0 Gl0 hN0 hGl0 hF0
 obtain ⟨j,v,L⟩:=gh; dsimp only at hF0 hN0 ⊢
 obtain ⟨hj,eL⟩:=hF0
 have lL:L.length=xs.length+1+j:=by rw [eL]; simp; omega
 refine .g (lr rfl .no bU (.u rfl) .here ?_)
 refine rmn (L.length) (64) rfl .no (.u rfl) (.u rfl) (by omega) (by omega) (fun _=>by first|decide|omega) ?_
 refine cP rfl rfl rfl rfl (.g (cD rfl (fun c1=>?_) (fun c1=>?_)))
 ·have c1k:=c1
  try simp only [aC,aD] at c1
  refine .skip (.code (.block (gK rfl rfl (mV rfl rfl ?_))))
  refine Go.Tan.b1 rfl aI bF (.u rfl) rfl rfl (by decide) ?_; intro b17
  refine dC rfl aI bF (.u rfl) (.u rfl) aE (Sc.one (y:=0#8) .here) (by show _+1≤_; omega) ?_
  intro v18 L18 ov18 eL18
  have lL18:L18.length=L.length+1:=by rw [eL18,List.length_append]; first|rfl | simp [bK]
  refine .g (aP (j+1,v18,L18) ?_ ?_ ?_ ?_ ?_)
  ·exact (aA rfl (aA rfl eZ))
  ·exact (mS .here rfl (mS aE rfl mN))
  ·(try dsimp only); omega
  ·exact hGl0
  refine ⟨?_,?_⟩
  ·(try dsimp only)<;>(omega)
  (try dsimp only)<;>(rw [eL18,eL,List.append_assoc,List.cons_append,←List.replicate_succ'])
 have c1k:=c1
 try simp only [aC,aD] at c1
 refine .g (lE rfl bU rfl (ci rfl .no rfl gG (.u rfl) ?_))
 refine bw (k:=.u64) (b:=8#64) rfl .no rfl (.u rfl) (.u rfl) rfl (aS rfl rfl (.nc (.seq (.seq (aL rfl rfl (aS rfl rfl (.nc (.block ?_))))))))
 refine aV (α:=Nat×Value×List Y) (fun gh=>[(3,true,gh.2.1),(5,true,.int .i64 (7-(gh.1:Int)))]) (fun gh=>[rB gh.2.1 5 gh.2.2])
  (fun gh Gl=>(gh.1≤8)∧(gh.2.2=xs++(128#8 :: List.replicate (jL xs.length) 0#8++qP xs.length gh.1))) (fun gh=>8-gh.1) (0,_,_) [(4,true,_)] [_]
  (aA rfl (aK rfl (aA rfl eZ)))
  (mS .here rfl (mS .here rfl mN)) ?_ ?_
 ·refine ⟨?_,?_⟩
  ·(try dsimp only)<;>(first|omega|rfl|assumption|(simp; done))
  (try dsimp only)<;>(rw [eL,show j=jL xs.length by omega]; simp [qP])
 intro gh N1 Gl1 hN1 hGl1 hF1
 obtain ⟨q,v,L⟩:=gh; dsimp only at hF1 hN1 ⊢
 obtain ⟨hq,eL⟩:=hF1
 have lL:L.length=xs.length+jL xs.length+1+q:=by rw [eL]; simp [aDP]; omega
 refine .g (cP rfl rfl rfl rfl (.g (cD rfl (fun c2=>?_) (fun c2=>?_))))
 ·have c2k:=c2
  try simp only [aC,aD] at c2
  refine .g (cQ (((8*(7-q)):Nat):Int) rfl .no (.u rfl) (.u rfl) rfl (by omega) (fun _=>bO (by omega) (by omega)) ?_)
  refine jH (k:=.u64) rfl .no (.u rfl) (.u rfl) (by omega) ?_
  refine cu (k:=.u64) rfl .no rfl nY (.u rfl) ?_
  refine Go.Tan.b1 rfl aI bF (.u rfl) rfl rfl (by decide) ?_; intro b33
  refine dC rfl aI bF (.u rfl) (.u rfl) aE (Sc.one .here) (by show _+1≤_; omega) ?_
  intro v34 L34 ov34 eL34
  have lL34:L34.length=L.length+1:=by rw [eL34,List.length_append]; first|rfl | simp [bK]
  refine .g (aR rfl rfl rfl rfl ?_)
  refine .g (aP (q+1,v34,L34) ?_ ?_ ?_ ?_ ?_)
  ·exact (aA rfl (aK rfl (aA rfl eZ)))
  ·exact (mS .here rfl (mS aE rfl mN))
  ·first|omega|(dsimp only; omega)
  ·exact hGl1
  refine ⟨?_,?_⟩
  ·(try dsimp only)<;>(first|omega|rfl|assumption|(simp; done))
  (try dsimp only)<;>(rw [eL34,eL,aGz,List.append_assoc,List.append_assoc,aNf (by omega)]; rfl)
 have c2k:=c2
 try simp only [aC,aD] at c2
 refine .exit (.xcode (.xlp (.xblk (.code (.seq (bJ rfl rfl (mV rfl rfl (aS rfl rfl (.nc (.ret (We.fin Tryz.results136 (.tmp rfl .nil) (mS .here rfl mN) ?_)))))))))))
 obtain rfl:q=8:=by omega
 exact ⟨L,eL,rfl⟩
theorem aAD (xs:List Y) (h:Sh) (G:PM) (hs:SlR G 1 aQ h xs) (hR:RdNP G 0 0 (wa 64 kW)) (hl:xs.length≤1000000000000):Ct Tryz.prog 119 ([h.val xs.length]:List Value).toArray G [] (fun _ μ' u=>μ'=[]∧u=.agg (ba 32 (gM xs)).toArray):=by
 refine Ct.of Tryz.func119 rfl Tryz.ntmps119 rfl fun w0 hs0=>?_
 refine .seq (aL rfl rfl ?_)
 refine al rfl fQ ?_; intro b2
 refine .g (kc rfl aS2 (aB rfl aF) (jZ (aOh xs h _ hs hl)) ?_)
 rintro v9 G9 μ9 hG9 ⟨L9,ov9,eL9,rfl⟩
 have hR:=hR.mono hG9
 refine aS rfl rfl (.nc (.seq ?_))
 refine iP .here (by first|(intro b hb; cases hb; done) | simp [keys,Res.keys]) ?_; intro GfR9 hR9 hleR9 evR9 hsR9; subst evR9
 have hR:=hR.mono hleR9
 subst eL9
 have lp:=aOg xs
 have lt:=aEE xs.length
 have hz:jL xs.length=(119-xs.length%64)%64:=rfl
 have lp2:(lF xs).length=xs.length+(jL xs.length+9):=by rw [lF,List.length_append,lt]
 refine .g (dK (wa 8 ivW) rfl .no aCN (.cons (.u rfl) rfl (.cons (.u rfl) rfl (.cons (.u rfl) rfl (.cons (.u rfl) rfl (.cons (.u rfl) rfl (.cons (.u rfl) rfl (.cons (.u rfl) rfl (.cons (.u rfl) rfl .nil)))))))) rfl (by rfl) ?_)
 refine al rfl aEw ?_; intro b4
 refine sW rfl rfl rfl rfl aAr .here ?_
 refine .nil (.code (.seq (.seq (aL rfl rfl (aS rfl rfl (.nc (.block ?_)))))))
 refine aV (α:=Nat) (fun j=>[(5,true,.int .i64 ((64*j:Nat):Int))]) (fun j=>[.blk b4 (cl (wa 8 (eY (lF xs) j)) 179)])
  (fun j Gl=>(64*j≤(lF xs).length)) (fun j=>(lF xs).length-64*j) 0 [(2,true,_),(3,true,_),(4,true,_)] [_]
  (aK rfl (aA rfl (aA rfl (aA rfl eZ))))
  (mS .here rfl (mS .here rfl mN)) ?_ ?_
 ·(try dsimp only)<;>(first|omega|rfl|assumption|(simp; done))
 intro j N0 Gl0 hN0 hGl0 hF0
 try dsimp only at hF0 hN0 ⊢
 have hj:=hF0
 have hR:=hR.mono hGl0
 have hsR9:=hsR9.mono hGl0
 refine .g (lE rfl bU rfl (cP rfl rfl rfl rfl (.g (cD rfl (fun c1=>?_) (fun c1=>?_)))))
 ·have c1k:=c1
  try simp only [aC,aD] at c1
  refine .g (bA (mc:=⟨false,false⟩) [0,1,2,3,4,5,6,7] aX (by kernel_rfl) ?_)
  refine lB rfl aAa rfl .here ?_
  refine .p (cQ (((((64*j:Nat))+64):Nat):Int) rfl .no (.u rfl) (.u rfl) rfl (by omega) (fun _=>bO (by omega) (by omega)) ?_)
  refine kS (((64*j:Nat))) ((((64*j:Nat))+64)) rfl .no aI hsR9 (.u rfl) (.u rfl) (.u rfl) (by omega) (by omega) (by omega) (by omega) ?_
  intro h22 L22 eL22 lL22 hs22
  have lL22:=lL22 rfl
  refine kV rfl aS3 (aB rfl (aB rfl aF)) (aPb (eY (lF xs) j) L22 h22 _ hs22 hR (by omega)) ?_
  refine sW rfl rfl rfl rfl aAr .here ?_
  refine .g (cQ (((((64*j:Nat))+64):Nat):Int) rfl .no (.u rfl) (.u rfl) rfl (by omega) (fun _=>bO (by omega) (by omega)) ?_)
  refine .g (aP (j+1) ?_ ?_ ?_ ?_ ?_)
  ·exact (aK rfl (aA rfl (aA rfl (aA rfl eZ))))
  ·exact (mS .here (aLn eL22) (mS .here rfl mN))
  ·first|omega|(dsimp only; omega)
  ·exact hGl0
  (try dsimp only)<;>(first|omega|rfl|assumption|(simp; done))
 have c1k:=c1
 try simp only [aC,aD] at c1
 refine .exit (.xcode (.xlp (.xblk (.code (.seq (aL rfl rfl ?_))))))
 refine al rfl fQ ?_; intro b6
 refine .nil (.code (.seq (.seq (aL rfl rfl (aS rfl rfl (.nc (.block ?_)))))))
 obtain rfl:j=(lF xs).length / 64:=by omega
 refine aV (α:=Nat×(Nat→Y)) (fun gh=>[(7,true,.int .i64 (gh.1:Int))]) (fun gh=>[.blk b6 (cl (ba 32 gh.2) 23)])
  (fun gh Gl=>(gh.1≤8)∧(gh.2=gB (gM xs) (4*gh.1))) (fun gh=>8-gh.1) (0,fun _=>0#8) [(2,true,_),(4,true,_),(6,true,_)] [_,_]
  (aK rfl (aA rfl (aA rfl (aA rfl eZ))))
  (mS .here rfl (mS .here rfl (mS .here rfl mN))) ?_ ?_
 ·refine ⟨?_,?_⟩
  ·(try dsimp only)<;>(first|omega|rfl|assumption|(simp; done))
  (try dsimp only)<;>(first|omega|rfl|assumption|(simp; done))
 intro gh N1 Gl1 hN1 hGl1 hF1
 obtain ⟨i,f⟩:=gh; dsimp only at hF1 hN1 ⊢
 obtain ⟨hi,ef⟩:=hF1
 refine .g (cP rfl rfl rfl rfl (.g (cD rfl (fun c2=>?_) (fun c2=>?_))))
 ·have c2k:=c2
  try simp only [aC,aD] at c2
  refine .g (aW (((4*i):Nat):Int) rfl rfl rfl rfl ?_)
  refine .p (iW rfl dN rfl rfl ?_)
  refine lO rfl bH rfl aE (by first|exact bG (i) (by omega) (by omega)|exact cU (i) (by omega) (by omega)|exact dB (i) (by omega) (by omega)|rfl) ?_
  refine jH (k:=.u32) rfl .no (.u rfl) (.u rfl) (fun _=>by decide) ?_
  refine cu (k:=.u32) rfl .no rfl vK (.u rfl) ?_
  refine iW rfl fU rfl rfl ?_
  refine s1 rfl (.u rfl) (.u rfl) rfl gQ .here (by first|decide|(simp only [bV,bT,bM]; omega)) (by first|exact cY ((4*i)) (by omega)|exact iH ((4*i)) (by omega)|exact mJ ((4*i)) (by omega) (by omega)|rfl) ?_
  refine .g (aW (((4*i):Nat):Int) rfl rfl rfl rfl ?_)
  refine cQ ((((4*i)+1):Nat):Int) rfl .no (.u rfl) (.u rfl) rfl (by omega) (fun _=>bO (by omega) (by omega)) ?_
  refine .p (iW rfl dN rfl rfl ?_)
  refine lO rfl bH rfl aE (by first|exact bG (i) (by omega) (by omega)|exact cU (i) (by omega) (by omega)|exact dB (i) (by omega) (by omega)|rfl) ?_
  refine jH (k:=.u32) rfl .no (.u rfl) (.u rfl) (fun _=>by decide) ?_
  refine cu (k:=.u32) rfl .no rfl vK (.u rfl) ?_
  refine iW rfl fU rfl rfl ?_
  refine s1 rfl (.u rfl) (.u rfl) rfl gQ .here (by first|decide|(simp only [bV,bT,bM]; omega)) (by first|exact cY (((4*i)+1)) (by omega)|exact iH (((4*i)+1)) (by omega)|exact mJ (((4*i)+1)) (by omega) (by omega)|rfl) ?_
  refine .g (aW (((4*i):Nat):Int) rfl rfl rfl rfl ?_)
  refine cQ ((((4*i)+2):Nat):Int) rfl .no (.u rfl) (.u rfl) rfl (by omega) (fun _=>bO (by omega) (by omega)) ?_
  refine .p (iW rfl dN rfl rfl ?_)
  refine lO rfl bH rfl aE (by first|exact bG (i) (by omega) (by omega)|exact cU (i) (by omega) (by omega)|exact dB (i) (by omega) (by omega)|rfl) ?_
  refine jH (k:=.u32) rfl .no (.u rfl) (.u rfl) (fun _=>by decide) ?_
  refine cu (k:=.u32) rfl .no rfl vK (.u rfl) ?_
  refine iW rfl fU rfl rfl ?_
  refine s1 rfl (.u rfl) (.u rfl) rfl gQ .here (by first|decide|(simp only [bV,bT,bM]; omega)) (by first|exact cY (((4*i)+2)) (by omega)|exact iH (((4*i)+2)) (by omega)|exact mJ (((4*i)+2)) (by omega) (by omega)|rfl) ?_
  refine .g (aW (((4*i):Nat):Int) rfl rfl rfl rfl ?_)
  refine cQ ((((4*i)+3):Nat):Int) rfl .no (.u rfl) (.u rfl) rfl (by omega) (fun _=>bO (by omega) (by omega)) ?_
  refine .p (iW rfl dN rfl rfl ?_)
  refine lO rfl bH rfl aE (by first|exact bG (i) (by omega) (by omega)|exact cU (i) (by omega) (by omega)|exact dB (i) (by omega) (by omega)|rfl) ?_
  refine cu (k:=.u32) rfl .no rfl vK (.u rfl) ?_
  refine iW rfl fU rfl rfl ?_
  refine s1 rfl (.u rfl) (.u rfl) rfl gQ .here (by first|decide|(simp only [bV,bT,bM]; omega)) (by first|exact cY (((4*i)+3)) (by omega)|exact iH (((4*i)+3)) (by omega)|exact mJ (((4*i)+3)) (by omega) (by omega)|rfl) ?_
  refine .g (aW (((i+1):Nat):Int) rfl rfl rfl rfl ?_)
  refine .g (aP (i+1,upd (upd (upd (upd f (4*i) (gM xs (4*i))) (4*i+1) (gM xs (4*i+1))) (4*i+2) (gM xs (4*i+2))) (4*i+3) (gM xs (4*i+3))) ?_ ?_ ?_ ?_ ?_)
  ·exact (aK rfl (aA rfl (aA rfl (aA rfl eZ))))
  ·exact (mS .here (by rw [aQs,aB0 xs i 1 (by decide),aB0 xs i 2 (by decide),aB0 xs i 3 (by decide)]; rfl) (mS .here rfl (mS .here rfl mN)))
  ·first|omega|(dsimp only; omega)
  ·exact hGl1
  refine ⟨?_,?_⟩
  ·(try dsimp only)<;>(first|omega|rfl|assumption|(simp; done))
  (try dsimp only)<;>(rw [ef]; rfl)
 have c2k:=c2
 try simp only [aC,aD] at c2
 refine .g (lB rfl dY rfl .here ?_)
 refine sW rfl rfl rfl rfl fB aN ?_
 refine .nil (.code (.ret (aM Tryz.results119 (.cell rfl (fun w hw=>bI dY (RdN.own .here) ((by first|exact qE|exact qL|rfl)) hw) .nil) ?_)))
 obtain rfl:i=8:=by omega
 exact ⟨rfl,by rw [ef,iG (fun i hi=>(kO (gM xs) hi).symm)]; rfl⟩
theorem yO:aU Tryz.prog 119=true:=by kernel_rfl
theorem aKc:aU Tryz.prog 133=true:=by kernel_rfl
theorem uC:aU Tryz.prog 51=true:=by kernel_rfl
theorem aEg:aU Tryz.prog 115=true:=by kernel_rfl
theorem mL:bsT Tryz.prog 24 9=true:=by kernel_rfl
theorem aTi:aU Tryz.prog 85=true:=by kernel_rfl
theorem aTj:aU Tryz.prog 86=true:=by kernel_rfl
theorem sU (n:BitVec 64) (many:Nat) (G:PM) (hm:many≤8):Ct Tryz.prog 51 ([uv .u64 n,.int .i64 (many:Int)]:List Value).toArray G [] (PR 5 (fun L=>L=dO n many)):=by
 refine Ct.of Tryz.func51 rfl Tryz.ntmps51 rfl fun w0 hs0=>?_
 refine .seq (aL rfl rfl (aS rfl rfl (.nc (.seq (aL rfl rfl (aS rfl rfl (.nc (.seq (.seq (sD 5 ?_))))))))))
 refine aL rfl rfl (aS rfl rfl (.nc (.block ?_)))
 refine aV (α:=Nat×Value×List Y×BitVec 64) (fun gh=>[(0,true,uv .u64 gh.2.2.2),(5,true,gh.2.1),(6,true,.int .i64 (gh.1:Int))]) (fun gh=>[rB gh.2.1 5 gh.2.2.1])
  (fun gh Gl=>(gh.1≤many)∧(gh.2.2.1=dO n gh.1)∧(gh.2.2.2=n >>> (8*gh.1))) (fun gh=>many-gh.1) (0,.slice none 0 0,[],n) [(1,true,_)] []
  (aA rfl (aA rfl (aK rfl (aA rfl eZ))))
  (mS .here rfl mN) ?_ ?_
 ·refine ⟨?_,?_,?_⟩
  ·(try dsimp only)<;>(first|omega|rfl|assumption|(simp; done))
  ·(try dsimp only)<;>(rfl)
  (try dsimp only)<;>(simp)
 intro gh N0 Gl0 hN0 hGl0 hF0
 obtain ⟨k,v,L,m⟩:=gh; dsimp only at hF0 hN0 ⊢
 obtain ⟨hk,eL,em⟩:=hF0
 have lL:L.length=k:=by rw [eL,fI]
 refine .g (cP rfl rfl rfl rfl (mV rfl rfl (mv rfl (.t rfl rfl) (.u rfl) (cp rfl (.t rfl rfl) (.s rfl) (.u rfl) rfl (bR rfl .no (.u rfl) (.s rfl) (.g (cD rfl (fun c1=>?_) (fun c1=>?_))))))))
 ·have c1k:=c1
  try simp only [aC,aG,aD] at c1
  refine .g (mw (k:=.u64) (b:=256#64) rfl .no (.u rfl) (.u rfl) (fun _=>show (256#64:BitVec 64)≠0#64 by decide) ?_)
  refine cu (k:=.u64) rfl .no rfl nY (.u rfl) ?_
  refine Go.Tan.b1 rfl aI bF (.u rfl) rfl rfl (by decide) ?_; intro b20
  refine dC rfl aI bF (.u rfl) (.u rfl) aE (Sc.one .here) (by show _+1≤_; omega) ?_
  intro v21 L21 ov21 eL21
  have lL21:L21.length=L.length+1:=by rw [eL21,List.length_append]; first|rfl | simp [bK]
  refine .g (dw (k:=.u64) (b:=256#64) rfl .no rfl (.u rfl) (.u rfl) (fun _=>show (256#64:BitVec 64)≠0#64 by decide) ?_)
  refine .g (aW (((k+1):Nat):Int) rfl rfl rfl rfl ?_)
  refine .g (aP (k+1,v21,L21,m / 256#64) ?_ ?_ ?_ ?_ ?_)
  ·exact (aA rfl (aA rfl (aK rfl (aA rfl eZ))))
  ·exact (mS .here rfl mN)
  ·first|omega|(dsimp only; omega)
  ·exact hGl0
  refine ⟨?_,?_,?_⟩
  ·(try dsimp only)<;>(first|omega|rfl|assumption|(simp; done))
  ·(try dsimp only)<;>(rw [eL21,eL,em,aGB,←aLs]; rfl)
  (try dsimp only)<;>(rw [em,aMZ,←BitVec.shiftRight_add]; rfl)
 have c1k:=c1
 try simp only [aC,aG,aD] at c1
 refine .exit (.xcode (.xlp (.xblk (.code (.seq (bJ rfl rfl (mV rfl rfl (aS rfl rfl (.nc (.ret (We.fin Tryz.results51 (.tmp rfl .nil) (mS .here rfl mN) ?_)))))))))))
 obtain rfl:k=many:=by omega
 exact ⟨L,eL,rfl⟩
theorem aFi (key:List Y) (h:Sh) (b:Y) (G:PM) (hs:SlR G 1 aQ h key) (hR:RdNP G 0 0 (wa 64 kW)) (hl:key.length≤1000000000000):Ct Tryz.prog 133 ([h.val key.length,V b]:List Value).toArray G [] (PR 5 (fun L=>L=yl 64 (dW key b))):=by
 refine Ct.of Tryz.func133 rfl Tryz.ntmps133 rfl fun w0 hs0=>?_
 refine .g (lE rfl bU rfl (cP rfl rfl rfl rfl (.g (cD rfl (fun c1=>?_) (fun c1=>?_)))))
 ·have c1k:=c1
  try simp only [aC,aD] at c1
  have ek1:oJ key=aB1 key:=by unfold oJ; rw [if_pos (by omega)]
  refine .g (kV rfl yO (aB rfl aF) (aAD key h _ hs hR hl) ?_)
  refine al rfl fQ ?_; intro b6
  refine sW rfl rfl rfl rfl fB .here ?_
  refine .nil (.code ?_)
  refine fP .here (by intro b hb; cases hb) ?_; intro Gfb6 hleb6 hbb6
  have hs:=hs.mono hleb6
  refine bJ rfl rfl ?_
  refine kA rfl .no fU (.u rfl) hbb6 (by first|exact oG|exact mT|exact oE) ?_; intro h16 L16 eL16 lL16 hs16
  refine aS rfl rfl (.nil ?_)
  have ek1:oJ key=L16:=by rw [ek1,eL16]; rfl
  refine .code (.seq (aL rfl rfl (aS rfl rfl (.nc (.seq (.seq (sD 5 ?_)))))))
  refine aL rfl rfl (aS rfl rfl (.nc (.block ?_)))
  refine aV (α:=Nat×Value×List Y) (fun gh=>[(7,true,gh.2.1),(8,true,.int .i64 (gh.1:Int))]) (fun gh=>[rB gh.2.1 5 gh.2.2])
   (fun gh Gl=>(gh.1≤64)∧(gh.2.2=yl gh.1 (dW key b))) (fun gh=>64-gh.1) (0,.slice none 0 0,[]) [(1,true,_),(5,true,_)] []
   (aA rfl (aK rfl (aA rfl (aA rfl eZ))))
   (mS .here rfl mN) ?_ ?_
  ·refine ⟨?_,?_⟩
   ·(try dsimp only)<;>(first|omega|rfl|assumption|(simp; done))
   (try dsimp only)<;>(rfl)
  intro gh N0 Gl0 hN0 hGl0 hF0
  obtain ⟨k,v,M⟩:=gh; dsimp only at hF0 hN0 ⊢
  obtain ⟨hk,eM⟩:=hF0
  have hs:=hs.mono hGl0
  have hs16:=hs16.mono hGl0
  have lM:M.length=k:=by rw [eM,bK]
  refine .g (cP rfl rfl rfl rfl (.g (cD rfl (fun c2=>?_) (fun c2=>?_))))
  ·have c2k:=c2
   try simp only [aC,aD] at c2
   refine .g (lE rfl bU rfl (cP rfl rfl rfl rfl (.g (cD rfl (fun c3=>?_) (fun c3=>?_)))))
   ·have c3k:=c3
    try simp only [aC,aD] at c3
    refine pW rfl rfl (mV rfl rfl (mV rfl rfl (ih rfl .no aI (.u rfl) (.u rfl) (by omega) (by omega) (fun _=>hs16.nn (k:=k) (by omega)) ?_)))
    refine lN rfl aZ rfl ((hs16.yat (k) (by omega) (by omega)).rd) ?_
    refine .g (bw (k:=.u8) rfl .no rfl (.u rfl) (.u rfl) rfl ?_)
    refine Go.Tan.b1 rfl aI bF (.u rfl) rfl rfl (by decide) ?_; intro b33
    refine dC rfl aI bF (.u rfl) (.u rfl) aE (Sc.one .here) (by show _+1≤_; omega) ?_
    intro v34 L34 ov34 eL34
    have lL34:L34.length=M.length+1:=by rw [eL34,List.length_append]; first|rfl | simp [bK]
    refine .g (aW (((k+1):Nat):Int) rfl rfl rfl rfl ?_)
    refine .g (aP (k+1,v34,L34) ?_ ?_ ?_ ?_ ?_)
    ·exact (aA rfl (aK rfl (aA rfl (aA rfl eZ))))
    ·exact (mS .here rfl mN)
    ·first|omega|(dsimp only; omega)
    ·exact hGl0
    refine ⟨?_,?_⟩
    ·(try dsimp only)<;>(first|omega|rfl|assumption|(simp; done))
    (try dsimp only)<;>(rw [eL34,eM,aCD,dW,ek1,if_pos (by omega),BitVec.xor_comm b]; rfl)
   have c3k:=c3
   try simp only [aC,aD] at c3
   refine .g (bw (k:=.u8) (a:=0#8) rfl .no rfl (.u rfl) (.u rfl) rfl ?_)
   refine Go.Tan.b1 rfl aI bF (.u rfl) rfl rfl (by decide) ?_; intro b33
   refine dC rfl aI bF (.u rfl) (.u rfl) aE (Sc.one .here) (by show _+1≤_; omega) ?_
   intro v34 L34 ov34 eL34
   have lL34:L34.length=M.length+1:=by rw [eL34,List.length_append]; first|rfl | simp [bK]
   refine .g (aW (((k+1):Nat):Int) rfl rfl rfl rfl ?_)
   refine .g (aP (k+1,v34,L34) ?_ ?_ ?_ ?_ ?_)
   ·exact (aA rfl (aK rfl (aA rfl (aA rfl eZ))))
   ·exact (mS .here rfl mN)
   ·first|omega|(dsimp only; omega)
   ·exact hGl0
   refine ⟨?_,?_⟩
   ·(try dsimp only)<;>(first|omega|rfl|assumption|(simp; done))
   (try dsimp only)<;>(rw [eL34,eM,aCD,dW,ek1,if_neg (by omega)]; exact congrArg (fun z=>yl k (dW key b)++[z]) BitVec.zero_xor)
  have c2k:=c2
  try simp only [aC,aD] at c2
  refine .exit (.xcode (.xlp (.xblk (.code (.seq (bJ rfl rfl (mV rfl rfl (aS rfl rfl (.nc (.ret (We.fin Tryz.results133 (.tmp rfl .nil) (mS .here rfl mN) ?_)))))))))))
  obtain rfl:k=64:=by omega
  exact ⟨M,eM,rfl⟩
 have c1k:=c1
 try simp only [aC,aD] at c1
 have ek2:oJ key=key:=by unfold oJ; rw [if_neg (by omega)]
 refine .skip (.code (.seq (aL rfl rfl (aS rfl rfl (.nc (.seq (.seq (sD 5 ?_))))))))
 refine aL rfl rfl (aS rfl rfl (.nc (.block ?_)))
 refine aV (α:=Nat×Value×List Y) (fun gh=>[(7,true,gh.2.1),(8,true,.int .i64 (gh.1:Int))]) (fun gh=>[rB gh.2.1 5 gh.2.2])
  (fun gh Gl=>(gh.1≤64)∧(gh.2.2=yl gh.1 (dW key b))) (fun gh=>64-gh.1) (0,.slice none 0 0,[]) [(1,true,_),(5,true,_)] []
  (aA rfl (aK rfl (aA rfl (aA rfl eZ))))
  (mS .here rfl mN) ?_ ?_
 ·refine ⟨?_,?_⟩
  ·(try dsimp only)<;>(first|omega|rfl|assumption|(simp; done))
  (try dsimp only)<;>(rfl)
 intro gh N1 Gl1 hN1 hGl1 hF1
 obtain ⟨k,v,M⟩:=gh; dsimp only at hF1 hN1 ⊢
 obtain ⟨hk,eM⟩:=hF1
 have hs:=hs.mono hGl1
 have lM:M.length=k:=by rw [eM,bK]
 refine .g (cP rfl rfl rfl rfl (.g (cD rfl (fun c4=>?_) (fun c4=>?_))))
 ·have c4k:=c4
  try simp only [aC,aD] at c4
  refine .g (lE rfl bU rfl (cP rfl rfl rfl rfl (.g (cD rfl (fun c5=>?_) (fun c5=>?_)))))
  ·have c5k:=c5
   try simp only [aC,aD] at c5
   refine pW rfl rfl (mV rfl rfl (mV rfl rfl (ih rfl .no aI (.u rfl) (.u rfl) (by omega) (by omega) (fun _=>hs.nn (k:=k) (by omega)) ?_)))
   refine lN rfl aZ rfl ((hs.yat (k) (by omega) (by omega)).rd) ?_
   refine .g (bw (k:=.u8) rfl .no rfl (.u rfl) (.u rfl) rfl ?_)
   refine Go.Tan.b1 rfl aI bF (.u rfl) rfl rfl (by decide) ?_; intro b33
   refine dC rfl aI bF (.u rfl) (.u rfl) aE (Sc.one .here) (by show _+1≤_; omega) ?_
   intro v34 L34 ov34 eL34
   have lL34:L34.length=M.length+1:=by rw [eL34,List.length_append]; first|rfl | simp [bK]
   refine .g (aW (((k+1):Nat):Int) rfl rfl rfl rfl ?_)
   refine .g (aP (k+1,v34,L34) ?_ ?_ ?_ ?_ ?_)
   ·exact (aA rfl (aK rfl (aA rfl (aA rfl eZ))))
   ·exact (mS .here rfl mN)
   ·first|omega|(dsimp only; omega)
   ·exact hGl1
   refine ⟨?_,?_⟩
   ·(try dsimp only)<;>(first|omega|rfl|assumption|(simp; done))
   (try dsimp only)<;>(rw [eL34,eM,aCD,dW,ek2,if_pos (by omega),BitVec.xor_comm b]; rfl)
  have c5k:=c5
  try simp only [aC,aD] at c5
  refine .g (bw (k:=.u8) (a:=0#8) rfl .no rfl (.u rfl) (.u rfl) rfl ?_)
  refine Go.Tan.b1 rfl aI bF (.u rfl) rfl rfl (by decide) ?_; intro b33
  refine dC rfl aI bF (.u rfl) (.u rfl) aE (Sc.one .here) (by show _+1≤_; omega) ?_
  intro v34 L34 ov34 eL34
  have lL34:L34.length=M.length+1:=by rw [eL34,List.length_append]; first|rfl | simp [bK]
  refine .g (aW (((k+1):Nat):Int) rfl rfl rfl rfl ?_)
  refine .g (aP (k+1,v34,L34) ?_ ?_ ?_ ?_ ?_)
  ·exact (aA rfl (aK rfl (aA rfl (aA rfl eZ))))
  ·exact (mS .here rfl mN)
  ·first|omega|(dsimp only; omega)
  ·exact hGl1
  refine ⟨?_,?_⟩
  ·(try dsimp only)<;>(first|omega|rfl|assumption|(simp; done))
  (try dsimp only)<;>(rw [eL34,eM,aCD,dW,ek2,if_neg (by omega)]; exact congrArg (fun z=>yl k (dW key b)++[z]) BitVec.zero_xor)
 have c4k:=c4
 try simp only [aC,aD] at c4
 refine .exit (.xcode (.xlp (.xblk (.code (.seq (bJ rfl rfl (mV rfl rfl (aS rfl rfl (.nc (.ret (We.fin Tryz.results133 (.tmp rfl .nil) (mS .here rfl mN) ?_)))))))))))
 obtain rfl:k=64:=by omega
 exact ⟨M,eM,rfl⟩
theorem aDz (key:List Y) (hk:Sh) (xs:List Y) (hx:Sh) (G:PM) (hsk:SlR G 1 aQ hk key) (hs:SlR G 1 aQ hx xs) (hR:RdNP G 0 0 (wa 64 kW)) (hlk:key.length≤1000) (hl:xs.length≤900000000000):Ct Tryz.prog 115 ([hk.val key.length,hx.val xs.length]:List Value).toArray G [] (fun _ μ' u=>μ'=[]∧u=.agg (ba 32 (pK key xs)).toArray):=by
 refine Ct.of Tryz.func115 rfl Tryz.ntmps115 rfl fun w0 hs0=>?_
 refine .seq (aL rfl rfl ?_)
 refine al rfl fQ ?_; intro b4
 refine .g (kc rfl aKc (aB rfl (aB rfl aF)) (jZ (aFi key hk 54#8 _ hsk hR (by omega))) ?_)
 rintro v9 G9 μ9 hG9 ⟨L9,ov9,eL9,rfl⟩
 have hsk:=hsk.mono hG9
 have hs:=hs.mono hG9
 have hR:=hR.mono hG9
 refine aS rfl rfl (.nil ?_)
 have lL9:L9.length=64:=by rw [eL9,bK]
 refine .g (dC rfl aI bF (.u rfl) (.u rfl) .here hs.sc (by (try simp only [bM,bK]); omega) ?_)
 intro v12 L12 ov12 eL12
 have lL12:L12.length=L9.length+xs.length:=by rw [eL12,List.length_append]
 refine aS rfl rfl (.nc (.seq ?_))
 refine iP .here (by first|(intro b hb; cases hb; done) | simp [keys,Res.keys]) ?_; intro GfR9 hR9 hleR9 evR9 hsR9; subst evR9
 have hsk:=hsk.mono hleR9
 have hR:=hR.mono hleR9
 refine .g (kV rfl yO (aB rfl aF) (aAD L12 _ _ hsR9 hR (by omega)) ?_)
 refine al rfl fQ ?_; intro b6
 refine sW rfl rfl rfl rfl fB .here ?_
 refine .g (kc rfl aKc (aB rfl (aB rfl aF)) (jZ (aFi key hk 92#8 _ hsk hR (by omega))) ?_)
 rintro v16 G16 μ16 hG16 ⟨L16,ov16,eL16,rfl⟩
 have hR:=hR.mono hG16
 refine aS rfl rfl (.nil ?_)
 have lL16:L16.length=64:=by rw [eL16,bK]
 refine .g (lG rfl .no fU (.u rfl) (dC rfl aI bF (.u rfl) (.u rfl) .here (Sc.arr aE) (by (try simp only [bM,bK]); omega) ?_))
 intro v19 L19 ov19 eL19
 have lL19:L19.length=L16.length+32:=by rw [eL19,List.length_append]; first|rfl | simp [bK]
 refine aS rfl rfl (.nc (.seq ?_))
 refine iP .here (by first|(intro b hb; cases hb; done) | simp [keys,Res.keys]) ?_; intro GfR16 hR16 hleR16 evR16 hsR16; subst evR16
 have hR:=hR.mono hleR16
 refine .g (kV rfl yO (aB rfl aF) (aAD L19 _ _ hsR16 hR (by omega)) ?_)
 refine sW rfl rfl rfl rfl fB aE ?_
 refine .nil (.code (.ret (aM Tryz.results115 (.cell rfl (fun w hw=>bI dY (RdN.own .here) ((by first|exact qE|exact qL|rfl)) hw) .nil) ?_)))
 exact ⟨rfl,by rw [eL19,eL16,eL12,eL9]; rfl⟩
theorem aPY (enc mac nonce:Nat→Y) (ad:List Y) (ha:Sh) (xs:List Y) (hx:Sh) (G:PM) (hsa:SlR G 1 aQ ha ad) (hsx:SlR G 1 aQ hx xs) (hR:RdNP G 0 0 (wa 64 kW)) (hla:ad.length≤209715200000) (hl:xs.length≤209715200000):Ct Tryz.prog 85 ([.agg (ba 32 enc++ba 32 mac).toArray,.agg (ba 12 nonce).toArray,ha.val ad.length,hx.val xs.length]:List Value).toArray G [] (PR 5 (fun L=>L=yl 16 (vF mac nonce ad xs))):=by
 refine Ct.of Tryz.func85 rfl Tryz.ntmps85 rfl fun w0 hs0=>?_
 refine .seq (dU rfl rfl ?_)
 refine bX rfl rfl rfl ?_; intro b4
 refine bX rfl rfl rfl ?_; intro b5
 refine .g (lE rfl bU rfl (ci rfl .no rfl gG (.u rfl) ?_))
 refine kc rfl uC (aB rfl (aB rfl aF)) (jZ (sU _ 8 _ (by decide))) ?_
 rintro v14 G14 μ14 hG14 ⟨L14,ov14,eL14,rfl⟩
 have hsa:=hsa.mono hG14
 have hsx:=hsx.mono hG14
 have hR:=hR.mono hG14
 refine aS rfl rfl (.nil ?_)
 have lL14:L14.length=8:=by rw [eL14]; exact fI _ 8
 refine .g (dC rfl aI bF (.u rfl) (.u rfl) .here hsa.sc (by (try simp only [bM,bK]); omega) ?_)
 intro v17 L17 ov17 eL17
 have lL17:L17.length=L14.length+ad.length:=by rw [eL17,List.length_append]
 refine .g (lG rfl .no aCM (.u rfl) (dC rfl aI bF (.u rfl) (.u rfl) .here (Sc.arr aE) (by (try simp only [bM,bK]); omega) ?_))
 intro v20 L20 ov20 eL20
 have lL20:L20.length=L17.length+12:=by rw [eL20,List.length_append]; first|rfl | simp [bK]
 refine .g (dC rfl aI bF (.u rfl) (.u rfl) .here hsx.sc (by (try simp only [bM,bK]); omega) ?_)
 intro v23 L23 ov23 eL23
 have lL23:L23.length=L20.length+xs.length:=by rw [eL23,List.length_append]
 refine aS rfl rfl (.nc (.seq ?_))
 refine fP aN (by intro b hb; cases hb) ?_; intro Gfb4 hleb4 hbb4
 have hR:=hR.mono hleb4
 refine iP .here (by first|(intro b hb; cases hb; done) | simp [keys,Res.keys]) ?_; intro GfR14 hR14 hleR14 evR14 hsR14; subst evR14
 have hR:=hR.mono hleR14
 have hbb4:=hbb4.mono hleR14
 refine .g (fA rfl aEe rfl ?_)
 refine kA rfl .no tQ (.u rfl) hbb4 (by first|exact oG|exact mT|exact oE) ?_; intro h25 L25 eL25 lL25 hs25
 refine .p (kV rfl aEg (aB rfl (aB rfl aF)) (aDz L25 h25 L23 _ _ hs25 hsR14 hR (by omega) (by omega)) ?_)
 refine al rfl fQ ?_; intro b10
 refine sW rfl rfl rfl rfl fB .here ?_
 refine .nil (.code (.seq (gK rfl rfl ?_)))
 refine oF rfl aI ?_; intro b28
 refine sah rfl .no fU (.u rfl) (.u rfl) (fun _=>by first|decide|omega) (fun _=>by first|decide|omega) ?_
 skip
 refine oD rfl aI bF (.u rfl) (.u rfl) .here (aLF aE (by decide)) (by (try simp only [bM,bK]); omega) ?_
 intro v30 L30 _ ov30 eL30
 have lL30:L30.length=16:=by rw [eL30]; first|rfl | simp [bK]
 refine aS rfl rfl (.nc (.ret (We.fin Tryz.results85 (.tmp rfl .nil) (mS .here rfl mN) ?_)))
 exact ⟨L30,by rw [eL30,eL23,eL20,eL17,eL14,eL25]; rfl,rfl⟩
theorem aPH (key nonce:Nat→Y) (count:W) (h:Sh) (xs:List Y) (G:PM) (hs:SlR G 1 aQ h xs) (hl:xs.length≤140737488351232):Ct Tryz.prog 86 ([.agg (ba 32 key).toArray,.agg (ba 12 nonce).toArray,U count,h.val xs.length]:List Value).toArray G [] (PR 5 (fun L=>L=jE key nonce count xs)):=by
 refine Ct.of Tryz.func86 rfl Tryz.ntmps86 rfl fun w0 hs0=>?_
 refine .seq (dU rfl rfl ?_)
 refine bX rfl rfl rfl ?_; intro b4
 refine bX rfl rfl rfl ?_; intro b5
 refine aS rfl rfl (.nc (.seq (aL rfl rfl (aS rfl rfl (.nc (.seq (aL rfl rfl ?_)))))))
 refine al rfl rI ?_; intro b10
 refine .nil (.code (.seq (.seq (aL rfl rfl (aS rfl rfl (.nc (.block (aAU 5 1 ?_))))))))
 refine aV (α:=Nat×Value) (fun gh=>[(9,true,gh.2),(11,true,.int .i64 (gh.1:Int))]) (fun gh=>[.row gh.2 5 1 gh.1 (ba gh.1 (qI key nonce count xs)),.blk b10 (cl (ba 64 (aDb key nonce count gh.1)) 172)])
  (fun gh Gl=>gh.1≤xs.length) (fun gh=>xs.length-gh.1) (0,.slice none 0 0) [(2,true,_),(3,true,_),(4,true,_),(5,true,_),(10,true,_)] [.blk b5 _,.blk b4 _]
  (aA rfl (aA rfl (aA rfl (aA rfl (aA rfl (aA rfl (aA rfl eZ)))))))
  (mS .here rfl (mS .here rfl (mS .here rfl (mS .here rfl mN)))) ?_ ?_
 ·show 0≤xs.length; omega
 intro gh N0 Gl0 hN0 hGl0 hF0
 obtain ⟨k,v⟩:=gh; dsimp only at hF0 hN0 ⊢
 have hk:k≤xs.length:=hF0
 refine .g (lE rfl bU rfl (cP rfl rfl rfl rfl (.g (cD rfl (fun c1=>?_) (fun c1=>?_)))))
 ·have c1k:=c1
  try simp only [aC] at c1
  refine .g (rm rfl .no (.u rfl) (.u rfl) (fun _=>by decide) ?_)
  refine cP rfl rfl rfl rfl (.g (cD rfl (fun c2=>?_) (fun c2=>?_)))
  ·have c2k:=c2
   try simp only [aC] at c2
   refine .g (lB rfl yG rfl bB ?_)
   refine lB rfl aJ7 rfl aN ?_
   refine .p (qu rfl .no (.u rfl) (.u rfl) (fun _=>by decide) ?_)
   refine ci rfl .no rfl aSl (.u rfl) ?_
   refine bw (k:=.u32) rfl .no rfl (.u rfl) (.u rfl) rfl (kV rfl aSy (aB rfl (aB rfl (aB rfl aF))) (aPG _ _ _ _) ?_)
   refine sw rfl (.u rfl) (.u rfl) rfl kC aE ((bT _ _).trans (bT _ _).symm) (jR _ _) ?_
   refine .nil ?_
   simp only [aO6 (x:=(k:Int)) k rfl (by omega),BitVec.ofInt_natCast]
   refine .code (bA (mc:=⟨false,false⟩) [0,1,2,3,4,5,6,7,8,9,10,11,12] aX (by kernel_rfl) ?_)
   refine mV rfl rfl (mV rfl rfl (mV rfl rfl (ih rfl .no aI (.u rfl) (.u rfl) (by omega) (by omega) (fun _=>hs.nn (k:=k) (by omega)) ?_)))
   refine lN rfl aZ rfl (((hs.mono hGl0).yat k (by omega) (by omega)).rd) ?_
   refine .p (rm rfl .no (.u rfl) (.u rfl) (fun _=>by decide) ?_)
   refine iA rfl .no jN (.u rfl) (.u rfl) (fun _=>by rw [vG k rfl]; omega) (fun _=>by rw [vG k rfl]; omega) ?_
   refine lO rfl aZ rfl .here (cU (k%64) (by rw [vG k rfl]; omega) (by omega)) ?_
   refine bw (k:=.u8) rfl .no rfl (.u rfl) (.u rfl) rfl ?_
   refine Go.Tan.b1 rfl aI bF (.u rfl) rfl rfl (by decide) ?_; intro b39
   refine ap rfl aI bF rfl (.u rfl) (.u rfl) aN (rfl) (fun _=>⟨_,_,rfl,RdN.own .here⟩) (fun u hu=>by rw [List.mem_singleton.1 hu]; rfl) (by omega) (by unfold maxLen; omega) ?_; intro v40
   refine .g (aR rfl rfl rfl rfl ?_)
   refine .g (aP (k+1,v40) ?_ ?_ ?_ ?_ ?_)
   ·exact (aA rfl (aA rfl (aA rfl (aA rfl (aA rfl (aA rfl (aA rfl eZ)))))))
   ·exact (mS .here (aFh rfl) (mS aE rfl (mS aE rfl (mS aE rfl mN))))
   ·first|omega|(dsimp only; omega)
   ·exact hGl0
   show k+1≤xs.length; omega
  have c2k:=c2
  try simp only [aC] at c2
  refine .g (bA (mc:=⟨false,false⟩) [0,1,2,3,4,5,6,7,8,9,10,11,12] aX (by kernel_rfl) ?_)
  refine mV rfl rfl (mV rfl rfl (mV rfl rfl (ih rfl .no aI (.u rfl) (.u rfl) (by omega) (by omega) (fun _=>hs.nn (k:=k) (by omega)) ?_)))
  refine lN rfl aZ rfl (((hs.mono hGl0).yat k (by omega) (by omega)).rd) ?_
  refine .p (rm rfl .no (.u rfl) (.u rfl) (fun _=>by decide) ?_)
  refine iA rfl .no jN (.u rfl) (.u rfl) (fun _=>by rw [vG k rfl]; omega) (fun _=>by rw [vG k rfl]; omega) ?_
  refine lO rfl aZ rfl aE (cU (k%64) (by rw [vG k rfl]; omega) (by omega)) ?_
  refine bw (k:=.u8) rfl .no rfl (.u rfl) (.u rfl) rfl ?_
  refine Go.Tan.b1 rfl aI bF (.u rfl) rfl rfl (by decide) ?_; intro b39
  refine ap rfl aI bF rfl (.u rfl) (.u rfl) aE (rfl) (fun _=>⟨_,_,rfl,RdN.own .here⟩) (fun u hu=>by rw [List.mem_singleton.1 hu]; rfl) (by omega) (by unfold maxLen; omega) ?_; intro v40
  refine .g (aR rfl rfl rfl rfl ?_)
  refine .g (aP (k+1,v40) ?_ ?_ ?_ ?_ ?_)
  ·exact (aA rfl (aA rfl (aA rfl (aA rfl (aA rfl (aA rfl (aA rfl eZ)))))))
  ·exact (mS .here (aFh (aHU c2k)) (mS aE (by rw [aHU c2k]; rfl) (mS aE rfl (mS aE rfl mN))))
  ·first|omega|(dsimp only; omega)
  ·exact hGl0
  show k+1≤xs.length; omega
 have c1k:=c1
 try simp only [aC] at c1
 refine .exit (.xcode (.xlp (.xblk (.code (.seq (bJ rfl rfl (mV rfl rfl (aS rfl rfl (.nc (.ret ?_))))))))))
 obtain rfl:k=xs.length:=by omega
 refine We.fin Tryz.results86 (.tmp rfl .nil) (mS .here rfl mN) ?_
 exact ⟨jE key nonce count xs,rfl,by simp only [rB,jE,bK,aEU]; rfl⟩
theorem aPV (enc mac nonce:Nat→Y) (ad:List Y) (ha:Sh) (xs:List Y) (hx:Sh) (G:PM) (hsa:SlR G 1 aQ ha ad) (hsx:SlR G 1 aQ hx xs) (hR:RdNP G 0 0 (wa 64 kW)) (hla:ad.length≤209715200000) (hl:xs.length≤209715200000):Ct Tryz.prog 40 ([.agg (ba 32 enc++ba 32 mac).toArray,.agg (ba 12 nonce).toArray,ha.val ad.length,hx.val xs.length]:List Value).toArray G [] (fun _ μ' u=>∃ v L e,aE4 (oN enc mac nonce ad xs) L e∧μ'=[rB v 5 L]∧u=.tuple #[v,.int .i64 e]):=by
 refine Ct.of Tryz.func40 rfl Tryz.ntmps40 rfl fun w0 hs0=>?_
 refine .seq (gK rfl rfl ?_)
 refine bX rfl rfl rfl ?_; intro b4
 refine bX rfl rfl rfl ?_; intro b5
 refine .g (lE rfl bU rfl (aR rfl rfl rfl rfl ?_))
 refine aS rfl rfl (.nc (.seq (.seq ?_)))
 by_cases h16:xs.length<16
 ·refine bA (mc:=⟨false,false⟩) [0,1,2,3,4,5,6,7,8,11,12,13,14,9,10,15,16] aX (by kernel_rfl) ?_
  refine .p (cP rfl rfl rfl rfl (fT true (decide_eq_true (by omega)) ?_))
  refine mV rfl rfl (iB (.bool false) rfl rfl (Gd.f (b:=true) rfl rfl) ?_)
  refine iB (.bool false) rfl rfl (Gd.f (b:=true) rfl rfl) ?_
  refine eH (.bool false) rfl rfl (Gd.f (b:=true) rfl rfl) ?_
  refine eH (.bool false) rfl rfl (Gd.f (b:=true) rfl rfl) ?_
  refine eH (.bool false) rfl rfl (Gd.f (b:=true) rfl rfl) ?_
  refine eH (.bool false) rfl rfl (Gd.f (b:=true) rfl rfl) ?_
  refine eH (.bool false) rfl rfl (Gd.f (b:=true) rfl rfl) ?_
  refine eH (.bool false) rfl rfl (Gd.f (b:=true) rfl rfl) ?_
  refine eH (.bool false) rfl rfl (Gd.f (b:=true) rfl rfl) ?_
  refine iB (.bool false) rfl rfl (Gd.f (b:=true) rfl rfl) ?_
  refine xQ (.bool false) rfl rfl (Gd.f (b:=true) rfl rfl) ?_
  refine iB (.bool false) rfl rfl (Gd.f (b:=true) rfl rfl) ?_
  refine eH (.bool false) rfl rfl (Gd.f (b:=true) rfl rfl) ?_
  refine cK rfl .no (.u rfl) (.s rfl) (.g (cD rfl (fun c1=>?_) (fun c1=>?_)))
  ·have c1k:=c1
   try simp only [aC,aD] at c1
   refine .seq (bJ rfl rfl (aS rfl rfl (aS rfl rfl (.nc (.ret (vJ 5 ?_))))))
   refine We.fin Tryz.results40 (.tmp rfl (.tmp rfl .nil)) (mS .here rfl mN) ?_
   rw [aHg h16]; exact ⟨_,[],60,.inr ⟨rfl,rfl,rfl⟩,rfl,rfl⟩
  have c1k:=c1
  exact absurd c1 (by simp)
 refine bA (mc:=⟨false,false⟩) [0,1,2,3,4,5,6,7,8,11,12,13,14,9,10,15,16] aX (by kernel_rfl) ?_
 refine .p (cP rfl rfl rfl rfl (fT false (decide_eq_false (by omega)) ?_))
 refine .p (lA rfl (Gd.f (b:=false) rfl rfl) qY (.u rfl) (fun _=>RdN.own aE) (fun _=>(by first|exact qE|exact qL|rfl)) ?_)
 refine lA rfl (Gd.f (b:=false) rfl rfl) tP (.u rfl) (fun _=>RdN.own .here) (fun _=>(by first|exact qE|exact qL|rfl)) ?_
 refine mv rfl (Gd.f (b:=false) rfl rfl) (.u rfl) (mv rfl (Gd.f (b:=false) rfl rfl) (.u rfl) (mv rfl (Gd.f (b:=false) rfl rfl) (.u rfl) (kE ((xs.length-16)) rfl (Gd.f (b:=false) rfl rfl) aI hsx (.u rfl) (.u rfl) (by omega) (by omega) ?_)))
 intro h22 L22 eL22 lL22 hs22
 have lL22:=lL22 rfl
 refine mv rfl (Gd.f (b:=false) rfl rfl) (.u rfl) (mv rfl (Gd.f (b:=false) rfl rfl) (.u rfl) (kD ((xs.length-16)) rfl (Gd.f (b:=false) rfl rfl) aI hsx (.u rfl) (.u rfl) (by omega) (by omega) ?_))
 intro h27 L27 eL27 lL27 hs27
 have lL27:=lL27 rfl
 refine sB rfl (Gd.f (b:=false) rfl rfl) mL (.u rfl) (fun _=>hs27.sc) ?_
 refine kcg rfl (Gd.f (b:=false) rfl rfl) aTi (aB rfl (aB rfl (aB rfl (aB rfl aF)))) (Ct.frzB (aPY enc mac nonce ad ha L22 h22 _ hsa hs22 hR hla (by omega))) ?_
 rintro _ G23 μ23 hG23 ⟨h23,L23,eL23,rfl,rfl,hs23⟩
 have hsx:=hsx.mono hG23
 refine sB rfl (Gd.f (b:=false) rfl rfl) mL (.u rfl) (fun _=>hs23.sc) ?_
 refine wG rfl (Gd.f (b:=false) rfl rfl) (.u rfl) (.u rfl) ?_
 refine cK rfl .no (.u rfl) (.u rfl) (.g (cD rfl (fun c2=>?_) (fun c2=>?_)))
 ·have c2k:=c2
  try simp only [aC,aD] at c2
  refine .seq (bJ rfl rfl (aS rfl rfl (aS rfl rfl (.nc (.ret (vJ 5 ?_))))))
  refine We.fin Tryz.results40 (.tmp rfl (.tmp rfl .nil)) (mS .here rfl mN) ?_
  rw [aHf (by omega) (by rw [← eL22,←eL27,←eL23]; simpa using c2)]; exact ⟨_,[],60,.inr ⟨rfl,rfl,rfl⟩,rfl,rfl⟩
 have c2k:=c2
 try simp only [aC,aD] at c2
 refine .g (bA (mc:=⟨false,false⟩) [0,1,2,3,4,5,6,7,8] aX (by kernel_rfl) ?_)
 refine fZ rfl aEd rfl (lA rfl .no yG (.u rfl) (fun _=>RdN.part (n:=32) (cs':=ba 32 enc) aE (mT)) (fun _=>(by first|exact qE|exact qL|rfl)) ?_)
 refine lB rfl tP rfl .here ?_
 refine .p (kE ((xs.length-16)) rfl .no aI hsx (.u rfl) (.u rfl) (by omega) (by omega) ?_)
 intro h36 L36 eL36 lL36 hs36
 have lL36:=lL36 rfl
 refine kc rfl aTj (aB rfl (aB rfl (aB rfl (aB rfl aF)))) (jZ (aPH enc nonce 1#32 h36 L36 _ hs36 (by omega))) ?_
 rintro v37 G37 μ37 hG37 ⟨L37,ov37,eL37,rfl⟩
 refine aS rfl rfl (aS rfl rfl (.nc (.ret (We.fin Tryz.results40 (.tmp rfl (.tmp rfl .nil)) (mS .here rfl mN) ?_))))
 rw [aDl (by omega) (by rw [← eL22,←eL27,←eL23]; simpa using c2),←eL36]; exact ⟨v37,L37,0,.inl ⟨by rw [eL37],rfl⟩,rfl,rfl⟩
end Go.Proofs.YtdeobooblmjlfaaGreatDoor
namespace Go.Tan
open Go.RowKit Go.ChangeShapes
section
variable {H:Type} {R:Nat} {enc:TypeId×Value→H} {P:Program} {w:World} {base:Nat} {sp:Nat→Bool} {held:Bool} {fuel:Nat} {t:TypeId} {cs:List Value} {x:DataW H×List MemPlace}
theorem aJa {n:Nat} {e:TypeId} (ht:P.underlying t=some (.array n e)) (h:DataW.trod enc P w base sp held fuel t cs=some x) :
  ∃ (xs:List (DataW H×List MemPlace)) (m:Nat),fuel=m+1∧x=(.agg (xs.map (·.1)),xs.flatMap (·.2))∧cs.length=P.cellsOf t∧xs.length=n ∧
   ∀ i,i<n→DataW.trod enc P w base sp held m e ((cs.drop (i*P.cellsOf e)).take (P.cellsOf e))=xs[i]?:=by
 cases fuel with
 | zero=>simp [DataW.trod] at h
 | succ m =>
  unfold DataW.trod at h
  rw [ht] at h
  split at h<;>simp_all
  obtain ⟨hl,xs,hp,hd⟩:=h
  exact ⟨xs,hd.symm,by simpa using mapM_some_length hp,fun i hi=>mapM_some_get hp i i (by simp [hi])⟩
theorem aR9 {ts:List TypeId} {ds:List (DataW H)} {i:Nat} {d:DataW H} {t:TypeId} (ht:ts[i]? = some t) (hd:ds[i]? = some d) {n:Nat} (hn:n∈d.weights P t):n∈DataW.weightsEach P ts ds:=by
 induction i generalizing ts ds with
 | zero =>
  cases ts with
  | nil=>simp at ht
  | cons a r =>
   cases ds with
   | nil=>simp at hd
   | cons b q =>
    simp only [List.getElem?_cons_zero,Option.some.injEq] at ht hd
    subst ht; subst hd
    simp only [DataW.weightsEach,List.mem_append]; exact .inl hn
 | succ i ih =>
  cases ts with
  | nil=>simp at ht
  | cons a r =>
   cases ds with
   | nil=>simp at hd
   | cons b q =>
    simp only [List.getElem?_cons_succ] at ht hd
    simp only [DataW.weightsEach,List.mem_append]; exact .inr (ih ht hd)
theorem aJp {e:TypeId} {ds:List (DataW H)} {i:Nat} {d:DataW H} (hd:ds[i]? = some d) {n:Nat} (hn:n∈d.weights P e):n∈DataW.weightsAll P e ds:=by
 induction i generalizing ds with
 | zero =>
  cases ds with
  | nil=>simp at hd
  | cons b q =>
   simp only [List.getElem?_cons_zero,Option.some.injEq] at hd
   subst hd
   simp only [DataW.weightsAll,List.mem_append]; exact .inl hn
 | succ i ih =>
  cases ds with
  | nil=>simp at hd
  | cons b q =>
   simp only [List.getElem?_cons_succ] at hd
   simp only [DataW.weightsAll,List.mem_append]; exact .inr (ih hd)
def Rg (R:Nat) (enc:TypeId×Value→H) (P:Program) (w:World) (t:TypeId) (cs:List Value):Prop :=
 ∃ fuel x,DataW.trod enc P w 0 (fun _=>true) true fuel t cs=some x∧∀ n∈x.1.weights P t,n≤R
theorem Rg.elm {n:Nat} {e:TypeId} (ht:P.underlying t=some (.array n e)) (h:Rg R enc P w t cs) {i:Nat} (hi:i<n) {sz:Nat} (hsz:P.cellsOf e=sz):Rg R enc P w e ((cs.drop (i*sz)).take sz):=by
 obtain ⟨fuel,x,h,hw⟩:=h
 obtain ⟨xs,m,rfl,rfl,hl,hxs,hall⟩:=aJa ht h
 have h1:=hall i hi
 rw [List.getElem?_eq_getElem (by omega)] at h1
 rw [← hsz]
 refine ⟨m,_,h1,fun k hk=>hw k ?_⟩
 simp only [DataW.weights,ht]
 exact aJp (i:=i) (by simp [List.getElem?_eq_getElem (show i<xs.length by omega)]) hk
theorem Rg.int {k:IntKind} (ht:P.underlying t=some (.int k)) (h:Rg R enc P w t cs):∃ n,cs=[.int k n]∧k.min≤n∧n≤k.max:=by
 obtain ⟨fuel,x,h,_⟩:=h
 obtain ⟨n,rfl,_,hw⟩:=DataW.trod_int ht h
 simp only [Lit.wf,Bool.and_eq_true,decide_eq_true_eq] at hw
 exact ⟨n,rfl,hw⟩
theorem aFX {a:Addr} {n:Nat} (h:w.cells? base a n=some cs):cs.length=n∧∀ j,j<n→w.cell? (a.add j)=cs[j]?:=by
 unfold World.cells? at h
 split at h
 ·exact ⟨by simpa using mapM_some_length h,fun j hj=>mapM_some_get h j j (by simp [hj])⟩
 ·cases h
theorem RdP.heap {a:Addr} {v:Value} (h:w.cell? a=some v):RdP (fun b=>w.heap[b]?) a v:=by
 intro w' hs
 unfold World.cell? at h ⊢
 cases ho:w.heap[a.block]? with
 | none=>rw [ho] at h; cases h
 | some o =>
  rw [hs a.block o ho]
  rw [ho] at h
  exact h
theorem aQ7 {a:Addr} {v:Value} (h:w.cell? a=some v):a.spot=none:=by
 unfold World.cell? at h
 split at h
 ·split at h
  ·cases h
  ·rename_i hs; simpa using hs
 ·cases h
theorem Rg.sl {e:TypeId} {sz by':Nat} {α:Type} (en:α→List Value) (Q:α→Prop) (ht:P.underlying t=some (.slice e)) (h:Rg R enc P w t cs) (hsz:P.cellsOf e=sz) (h0:0<sz) (hby:P.bytesOf e=by')
  (hel:∀ cs',Rg R enc P w e cs'→∃ a,cs'=en a∧Q a):∃ (hd:Sh) (l:List α),cs=[hd.val l.length]∧SlR (fun b=>w.heap[b]?) sz en hd l∧hd.cap*by'≤R∧∀ a∈l,Q a:=by
 obtain ⟨fuel,x,h,hw⟩:=h
 rcases DataW.trod_slice ht h with ⟨rfl,rfl⟩ | ⟨a,len,cap,elems,rest,n,rfl,rfl,rfl,_,hlc,_,hlen,hall,hrest,_⟩
 ·exact ⟨⟨none,0⟩,[],rfl,SlR.nul,by simp,fun a ha=>by cases ha⟩
 have hcap:(elems.length+rest.length)*by'≤R:=by
  have:=hw ((elems.length+rest.length)*by') (by simp [DataW.weights,ht,hby])
  simpa using this
 rw [(hrest rfl).1,hlen,show len+(cap-len)=cap by omega] at hcap
 have hel':∀ i,i<len→∃ m:α,w.cells? 0 (a.add (i*sz)) sz=some (en m)∧Q m:=by
  intro i hi
  have h1:=hall i hi
  rw [List.getElem?_eq_getElem (by omega),hsz,Option.bind_eq_some_iff] at h1
  obtain ⟨cs',h2,h3⟩:=h1
  obtain ⟨m,rfl,hm⟩:=hel cs' ⟨n,_,h3,fun k hk=>hw k (by
   simp only [DataW.weights,ht,List.mem_cons,List.mem_append]
   exact .inr (.inl (aJp (i:=i) (by simp [List.getElem?_eq_getElem (show i<elems.length by omega)]) hk)))⟩
  exact ⟨m,h2,hm⟩
 have hspot:0<len→a.spot=none:=by
  intro hpos
  obtain ⟨m,h1,_⟩:=hel' 0 hpos
  obtain ⟨h2,h3⟩:=aFX h1
  have h4:=h3 0 h0
  rw [List.getElem?_eq_getElem (by omega)] at h4
  exact aQ7 (a:=a) (by simpa [Addr.add] using h4)
 rcases Nat.eq_zero_or_pos len with hz | hpos
 ·refine ⟨⟨some a,cap⟩,[],by rw [hz]; rfl,⟨fun h=>absurd rfl h,by simp,fun i y hy=>by simp at hy⟩,hcap,fun y hy=>by cases hy⟩
 have hne:Nonempty α:=⟨Classical.choose (hel' 0 hpos)⟩
 have hch:∀ i,∃ m:α,i<len→w.cells? 0 (a.add (i*sz)) sz=some (en m)∧Q m:=by
  intro i
  by_cases hi:i<len
  ·obtain ⟨m,hm⟩:=hel' i hi; exact ⟨m,fun _=>hm⟩
  exact ⟨Classical.choice hne,fun h=>absurd h hi⟩
 obtain ⟨M,hM⟩ : ∃ M:Nat→α,∀ i,i<len→w.cells? 0 (a.add (i*sz)) sz=some (en (M i))∧Q (M i):=⟨fun i=>Classical.choose (hch i),fun i=>Classical.choose_spec (hch i)⟩
 refine ⟨⟨some a,cap⟩,(List.range len).map M,by simp [Sh.val],⟨fun _=>?_,by simpa using hlc,fun i y hy j v hj=>?_⟩,hcap,fun y hy=>?_⟩
 ·have:=hspot hpos
  show some a=some ⟨a.block,a.off,none⟩
  cases a; simp_all
 ·have hi:i<len:=by
   have:=(List.getElem?_eq_some_iff.1 hy).1
   simpa using this
  have hy':y=M i:=by
   simp [hi] at hy; exact hy.symm
  subst hy'
  obtain ⟨h1,_⟩:=hM i hi
  obtain ⟨h2,h3⟩:=aFX h1
  have hjl:j<sz:=by rw [← h2]; exact (List.getElem?_eq_some_iff.1 hj).1
  have h4:=h3 j hjl
  rw [hj] at h4
  have h5:=RdP.heap h4
  have hadd:(a.add (i*sz)).add j=⟨a.block,a.off+i*sz+j,none⟩:=by
   have hs:=hspot hpos
   cases a with
   | mk b o s =>
    simp only at hs; subst hs
    by_cases hz1:i*sz=0<;>by_cases hz2:j=0<;>simp [Addr.add,hz1,hz2]
  rw [hadd] at h5
  exact h5
 obtain ⟨i,hi,rfl⟩:=List.mem_map.1 hy
 exact (hM i (by simpa using hi)).2
theorem aJZ {W W':World} {sp':Nat→Bool} (hl:laidOutB P=true):∀ {ts:List TypeId} {vs:List Value} {ds:List (DataW H)} {ps:List MemPlace},(∀ t∈ts,P.readableRec t=true∧t<P.types.size) →
  DataW.TrodAll enc P W 0 (fun _=>true) true ts vs ds ps→(∀ p∈ps,W.sameAt W' p)→(∀ p∈ps,sp' p.block=true)→DataW.TrodAll enc P W' 0 sp' true ts vs ds ps
 | [],_,_,_,_,h,_,_=>by
  obtain ⟨rfl,rfl,rfl⟩:=trodAll_nil h
  rfl
 | t :: ts,_,_,_,ht,h,hs,hp=>by
  obtain ⟨v,vs1,d,ds1,a,b,rfl,rfl,rfl,h1,h2⟩:=trodAll_cons h
  obtain ⟨hr,hrow⟩:=ht t (List.mem_cons_self ..)
  exact ⟨a,b,WideElems.Trod_stays hl hr hrow h1 (fun p hp'=>hs p (List.mem_append_left _ hp')) (fun p hp'=>hp p (List.mem_append_left _ hp')),
   aJZ hl (fun u hu=>ht u (List.mem_cons_of_mem _ hu)) h2 (fun p hp'=>hs p (List.mem_append_right _ hp')) (fun p hp'=>hp p (List.mem_append_right _ hp')),rfl⟩
theorem aOt {fn:Func} {s:ChangeSpec} {apart fresh handsOn again:Bool} {W W':World} {args:Array Value} {ds gs:List (DataW H)} {before:List MemPlace} {T:TypeId} (hl:laidOutB P=true)
  (hW:DataW.Whole enc P fn.params.toList s.vars apart W args.toList ds gs before) (hv:s.vars=[]) (hpar:∀ t∈fn.params.toList,P.readableRec t=true∧t<P.types.size)
  (hfn:s.fn H (ds++gs) = { results:=[.lit (.bool true)],args:=ds }) (hr:fn.resultTypes = #[T]) (hT:P.underlying T=some .bool) (hb:Below W.heap.size W W') :
  s.post enc P fn apart fresh handsOn again W args (.bool true) W':=by
 have hlt:=hW.lt
 have hW2:=hW
 obtain ⟨p,q,hA,hV,rfl,hz,hn⟩:=hW
 have hq:q=[]:=by rw [hv] at hV; exact (trodVars_none hV).2
 subst hq
 have hres:∀ (b:Nat) (sp:Nat→Bool) (hd:Bool),DataW.TrodAll enc P W' b sp hd fn.resultTypes.toList ((Value.bool true).resultList fn.resultTypes.size) [.lit (.bool true)] []:=by
  intro b sp hd
  rw [hr]
  exact trodAll_mk1 (shut_bool hT true)
 have hargs:∀ sp:Nat→Bool,(∀ x∈p,sp x.block=true)→DataW.TrodAll enc P W' 0 sp true fn.params.toList args.toList ds p:=fun sp hsp =>
  aJZ hl hpar hA (fun x hx=>hb.same (hlt x (List.mem_append_left _ hx))) hsp
 have hvars:∀ sp:Nat→Bool,DataW.TrodVars enc P W' sp s.vars ([]:List (DataW H)) []:=fun sp=>by rw [hv]; rfl
 refine ⟨ds,gs,p++[],[],p,[],hW2,?_,?_,?_,hb.frame _,fun _=>⟨?_,_,[],p++[],⟨[]++p,[],trodAll_append (hargs _ fun _ _=>rfl) (hres _ _ _),hvars _,by simp,?_,?_⟩,?_⟩⟩
 ·rw [hfn]; exact hres _ _ _
 ·rw [hfn]; exact hargs _ (fun x hx=>by simpa using hlt x (List.mem_append_left _ hx))
 ·rw [hfn]; exact hvars _
 ·rw [hr]
  intro j t r hj hrr
  match j,hj,hrr with
  | 0,hj,hrr =>
   simp [Value.resultList] at hj hrr
   subst hj; subst hrr
   simp [Value.okWide,hT,Cell.okWide,Cell.ok]
 ·intro b off hp
  rw [hb.frozen (p:=⟨b,off,none⟩) (hlt _ hp)]
  exact hz b off hp
 ·intro ha; exact hn ha
 intro x hx _; exact hx
theorem aOK {f:FuncId} {fn:Func} {s:ChangeSpec} {apart fresh handsOn again:Bool} {W:World} {args:Array Value} {ds gs:List (DataW H)} {before:List MemPlace} {T:TypeId} (hl:laidOutB P=true)
  (hW:DataW.Whole enc P fn.params.toList s.vars apart W args.toList ds gs before) (hv:s.vars=[]) (hpar:∀ t∈fn.params.toList,P.readableRec t=true∧t<P.types.size)
  (hfn:s.fn H (ds++gs) = { results:=[.lit (.bool true)],args:=ds }) (hr:fn.resultTypes = #[T]) (hT:P.underlying T=some .bool)
  (hc:Ct P f args (fun b=>W.heap[b]?) [] fun _ μ' u=>μ'=[]∧u=.bool true) :
  Calls P f args W fun e W'=>∃ v,e=.returned v∧s.post enc P fn apart fresh handsOn again W args v W':=by
 refine (hc W ⟨fun b o h=>h,(fun r hr=>nomatch hr),(fun b hb=>nomatch hb),List.nodup_nil⟩).mono fun e W' ⟨v,G',μ',he,htr,hμ,hv'⟩=>?_
 subst hv'
 refine ⟨_,he,aOt hl hW hv hpar hfn hr hT ⟨htr.os,htr.tape,htr.output,htr.size,fun k hk=>(htr.old k hk (by simp [keys])).1⟩⟩
theorem aE7 {W:World} {v:Value} {d:DataW H} {ps:List MemPlace} {ts:List TypeId} {ds:List (DataW H)} {i:Nat} (h:DataW.Trod enc P W 0 (fun _=>true) true t v d ps) (hw:(DataW.weightsEach P ts ds).all (·≤reachBytes)=true) (ht:ts[i]? = some t) (hd:ds[i]? = some d):Rg 140737488351232 enc P W t v.cells.toList:=by
 obtain ⟨fuel,h⟩:=h
 refine ⟨fuel,_,h,fun n hn=>?_⟩
 have:=List.all_eq_true.1 hw n (aR9 ht hd hn)
 have h2:n≤reachBytes:=by simpa using this
 exact h2
end
variable {H:Type} {R:Nat} {enc:TypeId×Value→H} {P:Program} {w:World} {t:TypeId} {cs:List Value}
theorem aHI {k:IntKind} (hk:k.signed=false):k.min=0:=by cases k<;>first|rfl | cases hk
theorem aHE {k:IntKind} (hk:k.signed=false):k.max=2^k.bits-1:=by cases k<;>first|rfl | cases hk
theorem Rg.uw {k:IntKind} (hk:k.signed=false) (ht:P.underlying t=some (.int k)) (h:Rg R enc P w t cs):∃ x:BitVec k.bits,cs=[uv k x]:=by
 obtain ⟨n,rfl,h1,h2⟩:=h.int ht
 rw [aHI hk] at h1
 rw [aHE hk] at h2
 refine ⟨BitVec.ofNat k.bits n.toNat,?_⟩
 unfold uv
 have hlt:n.toNat<2^k.bits:=by
  have:((2:Int)^k.bits)=((2^k.bits:Nat):Int):=by simp
  omega
 rw [BitVec.toNat_ofNat,Nat.mod_eq_of_lt hlt,Int.toNat_of_nonneg h1]
theorem Rg.alen {n:Nat} {e:TypeId} (ht:P.underlying t=some (.array n e)) (h:Rg R enc P w t cs):cs.length=P.cellsOf t:=by
 obtain ⟨fuel,x,h,_⟩:=h
 obtain ⟨xs,m,_,_,hl,_⟩:=aJa ht h
 exact hl
theorem aLe {cs:List Value} {o:Nat} {v:Value} (h:(cs.drop o).take 1=[v]):cs[o]? = some v:=by
 have:=congrArg (·[0]?) h
 simpa [List.getElem?_take,List.getElem?_drop] using this
theorem Rg.ba {n:Nat} {e:TypeId} (ht:P.underlying t=some (.array n e)) (h:Rg R enc P w t cs) (he:P.underlying e=some (.int .u8)) (hce:P.cellsOf e=1) (hct:P.cellsOf t=n):∃ f:Nat→Y,cs=ba n f:=by
 have hl:=h.alen ht
 have hx:∀ j,∃ y:Y,j<n→cs[j]? = some (V y):=by
  intro j
  by_cases hj:j<n
  ·obtain ⟨x,hx⟩:=(h.elm ht hj hce).uw rfl he
   exact ⟨x,fun _=>aLe (by simpa using hx)⟩
  exact ⟨0,fun h=>absurd h hj⟩
 refine ⟨fun j=>Classical.choose (hx j),List.ext_getElem? fun j=>?_⟩
 by_cases hj:j<n
 ·rw [wE hj]; exact Classical.choose_spec (hx j) hj
 rw [List.getElem?_eq_none (by omega),List.getElem?_eq_none (by rw [bT]; omega)]
theorem Rg.bsl {e:TypeId} (ht:P.underlying t=some (.slice e)) (h:Rg R enc P w t cs) (he:P.underlying e=some (.int .u8)) (hce:P.cellsOf e=1) (hby:P.bytesOf e=1) :
  ∃ (hd:Sh) (l:List Y),cs=[hd.val l.length]∧SlR (fun b=>w.heap[b]?) 1 aQ hd l∧hd.cap≤R∧l.length≤R:=by
 obtain ⟨hd,l,h1,h2,h3,_⟩:=h.sl aQ (fun _=>True) ht hce (by decide) hby (fun cs' h'=>by obtain ⟨x,hx⟩:=h'.uw rfl he; exact ⟨x,hx,trivial⟩)
 exact ⟨hd,l,h1,h2,by omega,by have:=h2.le; omega⟩
theorem aJH {w:World} {name:String} {zs:List Int} {g m:Nat} {y:Nat→W} (h:Lib.TabIs P w name .u32 zs) (hg:P.globalNamed name=some g) (hz:zs.length=m) (hy:∀ j,j<m→zs.getD j 0=((y j).toNat:Int)):RdNP (fun b=>w.heap[b]?) g 0 (wa m y):=by
 intro j v hj
 have hlt:j<m:=by have:=(List.getElem?_eq_some_iff.1 hj).1; rwa [bV] at this
 rw [tO hlt] at hj
 obtain rfl:=Option.some.inj hj
 have h1:=h.cell hg j (by omega)
 rw [hy j hlt] at h1
 rw [Nat.zero_add]
 exact RdP.heap h1
theorem aNa {x:String×DataW Unit} {rest:List (String×DataW Unit)} {W:World} (h:laidMet P (x :: rest) W):laidMet P rest W:=by
 obtain ⟨ps,⟨g',t',cs,fuel,p,q,hg',ht',hvar,hd,hr,he⟩,hn,hb⟩:=h
 subst he
 exact ⟨q,hr,(List.nodup_append.1 hn).2.1,fun b off hm=>hb b off (List.mem_append_right _ hm)⟩
section
variable {dr:Bool} {mc:Md} {P:Program} {n:Nat} {l:List Oper} {K:aO→PM→aH→Prop} {i:Nat} {σ:List Nat} {ρ:aO} {G:PM} {μ:aH}
variable {d t:Nat} {p:String} {af:Array Edge} {g:Option (Nat×Bool)} {c:Bool}
theorem apF {T E b o m cap:Nat} {x y:Operand} {u:Value} {xs ys:List Y} (hdf:mc.a=false∨dr=false) (ho:nth l i=some ⟨some d,.call { callee:=.builtin .append,args:=#[x,y],argTypes:=#[T,T] },t,p,af,none⟩)
  (hT:cL P T=some (E,1,1)) (hz:(P.info? E).bind (·.zero)=some (.int .u8 0)) (hx:Ev ρ true x (.slice (some ⟨b,o,none⟩) m cap)) (hy:Ev ρ true y u) (hold:SlR G 1 aQ ⟨some ⟨b,o,none⟩,cap⟩ xs) (hm:xs.length=m) (hs:Sc G μ u ys) (h0:0<ys.length) (hg:cap<m+ys.length) (hb:xs.length+ys.length≤140737488355328)
  (h:∀ v' L,v'.oneCell'=true→L=xs++ys→Wo dr mc P n l K σ ((d,true,v') :: ρ) G (rB v' E L :: μ)):Wo dr mc P n l K (i :: σ) ρ G μ:=by
 subst hm
 obtain ⟨oa,cp,rfl,hr⟩:=hs.ex
 clear hs
 obtain ⟨b2,o2,rfl,hrd⟩:=hr h0
 refine .act (μ₁:=[]) (μ₂:=μ) (post:=fun G' μ' v'=>G'=G∧v'.oneCell'=true∧μ'=[rB v' E (xs++ys)]) ho (by rcases hdf with h | h<;>simp [cA,h]) .no (.refl _) (fun a w ha hs=>.inl ?_) ?_
 ·obtain ⟨hu,inf,hi,hs1,hb1⟩:=gE hT
  have hz':=hz
  rw [hi] at hz'
  simp only [Option.bind_some] at hz'
  have hnews:∀ j u,(ys.map V)[j]? = some u→w.cell? ((⟨b2,o2,none⟩ : Addr).add j)=some u:=fun j u hj=>by rw [jD]; exact hrd j u hj w hs
  have holds:∀ j u,(xs.map V)[j]? = some u→w.cell? ((⟨b,o,none⟩ : Addr).add j)=some u:=fun j u hj=>by
   rw [jD]
   have h1:=SlR.flat (enc:=aQ) (fun _ _=>rfl) hold
   rw [uN] at h1
   exact h1 j u hj w hs.sub
  have hrun:=run_append_grow (P:=P) w T t E inf _ hu hi hz' ⟨b,o,none⟩ xs.length cap (xs.map V) (by rw [hs1]; simp) holds ⟨b2,o2,none⟩ ys.length cp (ys.map V) (by rw [hs1]; simp) hnews (by omega) (by omega) (growslice_fits (by omega) (by rw [hb1]; omega))
  have h2:=((oC (Sat.left (μ:=[]) hs)).drew).alloc (.cells ((xs.map V).toArray++(ys.map V).toArray++Builtin.zeroCells (Value.int .u8 0).cells (grownCap w (xs.length+ys.length) cap E-(xs.length+ys.length))) E)
  have hge:=grownCap_ge w (xs.length+ys.length) cap E
  have h3:=h2.asRow (m:=xs.length+ys.length) (cap:=grownCap w (xs.length+ys.length) cap E) (sz:=1) (xs:=(xs++ys).map V) (by simp) hge (grownCap_le_maxLen w (xs.length+ys.length) cap E (by unfold maxLen; omega)) (by
   simp only [Array.size_append,List.size_toArray,size_zeroCells,List.length_map]
   have:(Value.int .u8 0).cells.size=1:=rfl
   rw [this]; omega) (by rw [Array.toList_append,Array.toList_append,List.map_append]; exact List.take_left' (by simp))
  refine ⟨_,_,G,_,.inl (by simp [execOp,resolve,invoke,builtin,hx.eval ha rfl,hy.eval ha rfl,hrun]; rfl),h3,rfl,rfl,?_⟩
  simp [rB]
 rintro v' G' μ'' _ ⟨rfl,h1,rfl⟩
 exact h v' _ h1 rfl
theorem aCB {X:Cx} {cd:Code} {k:List KI} {b E:Nat} {cs:List Value} {μ':aH} (xs:List Y) (m:Nat) (hm:MTake μ (.blk b (cl cs E)) μ') (hx:cs=xs.map V) (hl:xs.length=m) (hb:m≤140737488355328)
  (h:Wk X cd k ρ G (rB (.slice (some ⟨b,0,none⟩) m m) E xs :: μ')):Wk X cd k ρ G μ :=
 ⟨fun a w ha ht=>by
  subst hl; subst hx
  exact h.out a w ha ((ht.perm hm.perm).asRow (sz:=1) (by simp) (Nat.le_refl _) (by unfold maxLen; omega) (by simp) (by rw [Nat.mul_one]; exact List.take_of_length_le (by simp)))⟩
theorem kM {α:Type} {enc:α→List Value} {T e sz by':Nat} {x y z:Operand} {s:Sh} {xs:List α} (hi:Nat) (ho:nth l i=some ⟨some d,.slice T x none (some y) (some z),t,p,af,none⟩) (hT:cL P T=some (e,sz,by')) (hs:SlR G sz enc s xs)
  (hx:Ev ρ true x (s.val xs.length)) (hy:Ev ρ true y (.int .i64 hi)) (hz:Ev ρ true z (.int .i64 hi)) (h1:hi≤xs.length)
  (h:∀ s' L,L=xs.take hi→L.length=hi→SlR G sz enc s' L→Wo dr mc P n l K σ ((d,true,s'.val L.length) :: ρ) G μ):Wo dr mc P n l K (i :: σ) ρ G μ:=by
 have hl:(xs.take hi).length=hi:=by simp; omega
 have htake:SlR G sz enc ⟨s.oa,hi⟩ (xs.take hi):=by
  refine ⟨fun hne=>hs.there (fun e=>hne (by rw [e]; simp)),by rw [hl]; exact Nat.le_refl _,fun j u hj=>?_⟩
  rw [List.getElem?_take] at hj
  split at hj
  ·exact hs.rd j u hj
  cases hj
 have h2:=h _ _ rfl hl htake
 rw [hl] at h2
 refine .pure ho (.inl rfl) .no (fun hc a w ha=>?_) h2
 obtain ⟨hu,inf,hi',rfl,rfl⟩:=gE hT
 have hx':=hx.eval ha hc
 simp only [Sh.val] at hx'
 have e3:=hs.le
 have hid:∀ oa:Option Addr,oa.map (fun a=>a.add 0)=oa:=fun oa=>by cases oa<;>simp [aA7]
 have e4:hi≤s.cap:=by omega
 simp [execOp,hx',hy.eval ha hc,hz.eval ha hc,Instr.sliceAt,run_underlying hu,Instr.slice,Instr.sliceBounds,Instr.sliceBound,asIntOf,e4,sizeOf,typeInfo,hi',Sh.val,hid]
theorem mAq {T T':TypeId} {x y:Operand} {k:IntKind} {a1 a2:Int} (q:Int) (ho:nth l i=some ⟨some d,.call { callee:=.builtin .max,args:=#[x,y],argTypes:=#[T,T'] },t,p,af,none⟩) (hx:Ev ρ true x (.int k a1)) (hy:Ev ρ true y (.int k a2)) (he:(if a2 > a1 then a2 else a1)=q)
  (h:Wo dr mc P n l K σ ((d,true,.int k q) :: ρ) G μ):Wo dr mc P n l K (i :: σ) ρ G μ:=mA ho .no hx hy (by rw [he]; exact h)
theorem aEX {f:FuncId} {args:Array Value} {b:Nat} {o:Obj} {Q:aH→Value→Prop} (h:PM.le G (G.add b o)→Ct P f args (G.add b o) μ (fun _ μ' u=>Q μ' u)):Ct P f args G (.blk b o :: μ) (fun _ μ' u=>∃ ν,μ'=.blk b o :: ν∧Q ν u):=by
 intro w hs
 exact aCJ (h (sK (hs.apart b (by simp [keys,Res.keys])))) w hs
theorem aLG {s s':Sh} {m:Nat} (h:s.val m=s'.val m):s=s':=by
 cases s; cases s'; simp only [Sh.val,Value.slice.injEq,true_and] at h; rw [h.1,h.2]
end
def aOs:W:=2197175160#32
def sV (x:W):W:=x >>> 1 ^^^ (aOs &&& -(x &&& 1#32))
def pI:Nat→W→W
 | 0,x=>x
 | n+1,x=>sV (pI n x)
theorem aM9 (m n:Nat) (x:W):pI m (pI n x)=pI (m+n) x:=by
 induction m with
 | zero=>rw [Nat.zero_add]; rfl
 | succ m ih=>rw [pI,ih,Nat.succ_add]; rfl
theorem aFI (x:W):x &&& 1#32=0#32∧x%2#32=0#32∨x &&& 1#32=1#32∧x%2#32=1#32:=by
 have e:x &&& 1#32=x%2#32:=by
  apply BitVec.eq_of_toNat_eq
  simp [BitVec.toNat_and,BitVec.toNat_umod,Nat.and_one_is_mod]
 have h2:x.toNat%2=0∨x.toNat%2=1:=by omega
 rcases h2 with h | h
 ·exact .inl ⟨by rw [e]; apply BitVec.eq_of_toNat_eq; simpa [BitVec.toNat_umod] using h,by apply BitVec.eq_of_toNat_eq; simpa [BitVec.toNat_umod] using h⟩
 ·exact .inr ⟨by rw [e]; apply BitVec.eq_of_toNat_eq; simpa [BitVec.toNat_umod] using h,by apply BitVec.eq_of_toNat_eq; simpa [BitVec.toNat_umod] using h⟩
theorem aFu (x:W):x / 2#32=x >>> 1:=by
 apply BitVec.eq_of_toNat_eq
 simp [BitVec.toNat_udiv,BitVec.toNat_ushiftRight,Nat.shiftRight_eq_div_pow]
theorem aNB {x:W} (h:x%2#32=1#32):x / 2#32 ^^^ 2197175160#32=sV x:=by
 rcases aFI x with ⟨_,h2⟩ | ⟨h1,_⟩
 ·rw [h] at h2; cases h2
 ·unfold sV; rw [h1,aFu]; rfl
theorem aNA {x:W} (h:¬ x%2#32=1#32):x / 2#32=sV x:=by
 rcases aFI x with ⟨h1,_⟩ | ⟨_,h2⟩
 ·unfold sV; rw [h1,aFu]; simp
 ·exact absurd h2 h
theorem aOI {x:W} (c:((x%2#32).toNat:Int)=1):x%2#32=1#32:=BitVec.eq_of_toNat_eq (Int.ofNat.inj c)
theorem aOJ {x:W} (c:x%2#32=1#32):((x%2#32).toNat:Int)=1:=by rw [c]; rfl
def wI (x:W) (c:Y):W:=pI 8 (x ^^^ c.setWidth 32)
def lV (sum:W) (xs:List Y):W := ~~~(xs.foldl wI (~~~sum))
theorem aMK (sum:W) (xs ys:List Y):lV (lV sum xs) ys=lV sum (xs++ys):=by
 unfold lV; rw [BitVec.not_not,List.foldl_append]
theorem aML (sum:W):lV sum []=sum:=by simp [lV]
theorem aGO {xs:List Y} {k:Nat} {x:W} (h:k<xs.length):(xs.take (k+1)).foldl wI x=wI ((xs.take k).foldl wI x) (xs.getD k 0):=by
 rw [List.take_succ_eq_append_getElem h,List.foldl_append]; simp [h]
theorem aHT (x:W):4294967295#32-x = ~~~x:=by
 rw [show (4294967295#32:W)=BitVec.allOnes 32 from rfl]
 exact BitVec.allOnes_sub_eq_not x
def uV (x:W):W:=oQ x 17+2726488792#32
theorem aNw (x:W):x%32768#32*131072#32+x / 32768#32+2726488792#32=uV x:=by
 unfold uV oQ
 congr 1
 have h0:x <<< 17 &&& x >>> 15=0#32:=by
  apply BitVec.eq_of_getLsbD_eq
  intro i hi
  simp only [BitVec.getLsbD_and,BitVec.getLsbD_shiftLeft,BitVec.getLsbD_ushiftRight,BitVec.getLsbD_zero]
  by_cases h8:i<17
  ·simp [h8]
  ·rw [BitVec.getLsbD_of_ge x (15+i) (by omega)]; simp
 rw [show (32-17:Nat)=15 from rfl,←BitVec.add_eq_or_of_and_eq_zero _ _ h0]
 have hx:=x.isLt
 have e1:x%32768#32*131072#32=x <<< 17:=by
  apply BitVec.eq_of_toNat_eq
  simp only [BitVec.toNat_mul,BitVec.toNat_umod,BitVec.toNat_shiftLeft,Nat.shiftLeft_eq,BitVec.toNat_ofNat,Nat.reducePow,Nat.reduceMod]
  omega
 have e2:x / 32768#32=x >>> 15:=by
  apply BitVec.eq_of_toNat_eq
  simp only [BitVec.toNat_udiv,BitVec.toNat_ushiftRight,Nat.shiftRight_eq_div_pow,BitVec.toNat_ofNat]
 rw [e1,e2]
theorem fx0 {L:List Y} {n:BitVec 64} {m:Nat} (e:L=[]++dO n m):L.length=m:=by rw [e,List.nil_append,fI]
theorem fx2 {L A:List Y} {n:BitVec 64} {m:Nat} (e:L=A++dO n m):L.length=A.length+m:=by rw [e,List.length_append,fI]
structure Hd where
 kind:Y
 level:Y
 gen:BitVec 64
 epoch:BitVec 64
 num:BitVec 64
 deriving DecidableEq
def Hd.cells (h:Hd):List Value:=[V h.kind,V h.level,uv .u64 h.gen,uv .u64 h.epoch,uv .u64 h.num]
def Hd.zero:Hd:=⟨0,0,0,0,0⟩
def Hd.right (h:Hd):Bool:=if (h.kind.toNat:Int)=2 then decide ((h.level.toNat:Int)<5) else if (h.kind.toNat:Int)=1∨(h.kind.toNat:Int)=3 then decide ((h.level.toNat:Int)=0)&&decide ((h.gen.toNat:Int)=0) else false
theorem aE0 {h:Hd} (c:(h.kind.toNat:Int)=2):h.right=decide ((h.level.toNat:Int)<5):=by unfold Hd.right; rw [if_pos c]
theorem aEz {h:Hd} (c:(h.kind.toNat:Int)=1):h.right=(decide ((h.level.toNat:Int)=0)&&decide ((h.gen.toNat:Int)=0)):=by
 unfold Hd.right; rw [if_neg (by omega),if_pos (.inl c)]
theorem aE1 {h:Hd} (c:(h.kind.toNat:Int)=3):h.right=(decide ((h.level.toNat:Int)=0)&&decide ((h.gen.toNat:Int)=0)):=by
 unfold Hd.right; rw [if_neg (by omega),if_pos (.inr c)]
theorem aEy {h:Hd} (c1:¬ (h.kind.toNat:Int)=1) (c2:¬ (h.kind.toNat:Int)=2) (c3:¬ (h.kind.toNat:Int)=3):h.right=false:=by
 unfold Hd.right; rw [if_neg c2,if_neg (by omega)]
theorem aK0 {h:Hd} (c:¬ (h.kind.toNat:Int)=2):((((h.kind.toNat:Int) == 1)||((h.kind.toNat:Int) == 3))&&((h.level.toNat:Int) == 0)&&((h.gen.toNat:Int) == 0))=h.right:=by
 by_cases c1:(h.kind.toNat:Int)=1
 ·rw [aEz c1,c1]; rfl
 ·by_cases c3:(h.kind.toNat:Int)=3
  ·rw [aE1 c3,c3]; rfl
  ·rw [aEy c1 c c3,beq_eq_false_iff_ne.2 c1,beq_eq_false_iff_ne.2 c3]; rfl
def Hd.three (h:Hd) (k:Nat):BitVec 64:=if k=0 then h.gen else if k=1 then h.epoch else h.num
def Hd.some (h:Hd) (k:Nat):List Y:=[116#8,97#8,110#8,116#8,h.kind,h.level]++(List.range k).flatMap (fun i=>dO (h.three i) 8)
theorem zA (h:Hd) (k:Nat):h.some (k+1)=h.some k++dO (h.three k) 8:=by
 unfold Hd.some; rw [List.range_succ,List.flatMap_append,←List.append_assoc]; simp
theorem aK2 {h:Hd} {k:Nat} (hk:k<3) : [uv .u64 h.gen,uv .u64 h.epoch,uv .u64 h.num][k]? = Option.some (uv .u64 (h.three k)):=by
 match k,hk with
 | 0,_=>rfl
 | 1,_=>rfl
 | 2,_=>rfl
def cC (h:Hd):List Y:=[116#8,97#8,110#8,116#8,h.kind,h.level]++dO h.gen 8++dO h.epoch 8++dO h.num 8
theorem aK1 (h:Hd):h.some 3=cC h:=by rw [zA,zA,zA]; simp [Hd.some,cC,Hd.three]
theorem Hd.some_len (h:Hd) (k:Nat):(h.some k).length=6+8*k:=by
 induction k with
 | zero=>rfl
 | succ k ih=>rw [zA,List.length_append,ih,fI]; omega
theorem lD (h:Hd):(cC h).length=30:=by simp [cC,fI]
def cE (xs:List Y):Nat→BitVec 64
 | 0=>0
 | k+1=>cE xs k ||| (xs.getD k 0).setWidth 64 <<< (8*k)
def mX (n:BitVec 64):Nat→Y:=fun i=>if i<8 then (n >>> (8*i)).setWidth 8 else 0#8
theorem aHR (n:BitVec 64) {i:Nat} (h:i<12):gB (mX n) 8 i=mX n i:=by
 by_cases h8:i<8
 ·exact kO _ h8
 ·have:∀ k,k≤i→gB (mX n) k i=0#8:=fun k=>by
   induction k with
   | zero=>intro _; rfl
   | succ k ih=>intro hk; show upd (gB (mX n) k) k _ i=_; unfold upd; rw [if_neg (by omega)]; exact ih (by omega)
  rw [this 8 (by omega)]; unfold mX; rw [if_neg h8]
theorem aMr {n:BitVec 64} {k:Nat} (h:k<8):(dO n 8).getD k 0=mX n k:=by
 unfold mX; rw [if_pos h]; simp [dO,h]
theorem aOP {a b c d e f:Value} (h1:a.oneCell'=true) (h2:b.oneCell'=true) (h3:c.oneCell'=true) (h4:d.oneCell'=true) (h5:e.oneCell'=true) (h6:f.oneCell'=true):∀ u∈[a,b,c,d,e,f],u.oneCell'=true:=by
 intro u hu
 simp only [List.mem_cons,List.not_mem_nil,or_false] at hu
 rcases hu with rfl|rfl|rfl|rfl|rfl|rfl<;>assumption
def rP (key use:List Y):Nat→List Y
 | 0=>[]
 | k+1=>shaL' key (rP key use k) use k
where shaL' (key last use:List Y) (k:Nat):List Y:=yl 32 (pK key (last++use++[BitVec.ofNat 8 (k+1)]))
def oI (key use:List Y):Nat→List Y
 | 0=>[]
 | k+1=>oI key use k++rP key use (k+1)
theorem aF5 (key use:List Y) (k:Nat):(rP key use (k+1)).length=32:=bK _ _
theorem uL (key use:List Y) (k:Nat):(oI key use k).length=32*k:=by
 induction k with
 | zero=>rfl
 | succ k ih=>rw [oI,List.length_append,ih,aF5]; omega
theorem aMl (key use:List Y) (k:Nat):(oI key use k).drop (32*k-32)=rP key use k:=by
 cases k with
 | zero=>rfl
 | succ k=>rw [oI]; exact List.drop_left' (by rw [uL]; omega)
def aAJ:List Y:=[116#8,97#8,110#8,116#8,97#8,108#8,117#8,115#8]
def sR (root:Nat→Y) (use:List Y):List Y:=oI (yl 32 (pK aAJ (yl 32 root))) use 2
def gX (root:Nat→Y) (use:List Y):Nat→Y:=fun i=>(sR root use).getD i 0
def gY (root:Nat→Y) (use:List Y):Nat→Y:=fun i=>(sR root use).getD (32+i) 0
theorem aNX {root:Nat→Y} {use L A B:List Y} (e:L=sR root use) (eA:A=L.take 32) (eB:B=L.drop 32) :
  ba 32 (fun i=>A.getD i 0)++ba 32 (fun i=>B.getD i 0)=ba 32 (gX root use)++ba 32 (gY root use):=by
 subst e eA eB
 have e1:ba 32 (fun i=>((sR root use).take 32).getD i 0)=ba 32 (gX root use):=iG fun i hi=>by simp only [gX,List.getD_eq_getElem?_getD,List.getElem?_take,if_pos hi]
 have e2:ba 32 (fun i=>((sR root use).drop 32).getD i 0)=ba 32 (gY root use):=iG fun i _=>by simp only [gY,List.getD_eq_getElem?_getD,List.getElem?_drop]
 rw [e1,e2]
theorem aNY {zs:List Value} (hz:zs.length=64) (f g:Nat→Y):put (put zs 0 (ba 32 f)) 32 (ba 32 g)=ba 32 f++ba 32 g:=by
 have e1:put zs 0 (ba 32 f)=ba 32 f++zs.drop 32:=by unfold put; rw [List.take_zero,List.nil_append,bT]
 rw [e1]
 unfold put
 rw [List.take_left' (bT _ _),bT,List.drop_of_length_le (by rw [List.length_append,bT,List.length_drop,hz]; exact Nat.le_refl _),List.append_nil]
theorem aDL (f g:Nat→Y):(ba 32 f++ba 32 g).length=64:=by rw [List.length_append,bT,bT]
theorem wQ (f g:Nat→Y):∀ u∈ba 32 f++ba 32 g,u.oneCell'=true:=uZ (jR _ _) (jR _ _)
theorem aMm (key use:List Y) (k:Nat):(rP key use k).length≤32:=by
 cases k with
 | zero=>exact Nat.zero_le _
 | succ k=>rw [aF5]; exact Nat.le_refl _
theorem aLq (k:Nat):BitVec.ofInt 8 ((k:Nat):Int)=BitVec.ofNat 8 k:=by simp
def rQ (g:Nat→Y) (k:Nat):Nat→Y:=fun i=>if i<k then g i else 0#8
theorem aGr {g:Nat→Y} {k:Nat} {y:Y} (h:y=g k):upd (rQ g k) k y=rQ g (k+1):=by
 funext i
 unfold upd rQ
 by_cases h1:i=k
 ·subst h1; rw [if_pos rfl,if_pos (by omega),h]
 ·rw [if_neg h1]
  by_cases h2:i<k
  ·rw [if_pos h2,if_pos (by omega)]
  ·rw [if_neg h2,if_neg (by omega)]
theorem aGq {g:Nat→Y}:ba 32 (rQ g 32)=ba 32 g:=iG fun i hi=>by unfold rQ; rw [if_pos hi]
theorem aNW {root:Nat→Y} {use L:List Y} (e:L=sR root use):ba 32 (rQ (fun i=>L.getD i 0) 32)++ba 32 (rQ (fun i=>L.getD (32+i) 0) 32)=ba 32 (gX root use)++ba 32 (gY root use):=by
 rw [aGq,aGq,e]; rfl
theorem aLk {n:Nat} {y:Nat→Y} {r:List Value} {j:Int} {z:Y} {o:Nat} (a:Nat) (hj:o+j.toNat*1=a) (h:a<n):(ba n y++r).set (o+j.toNat*1) (V z)=ba n (upd y a z)++r:=by
 rw [hj,List.set_append_left _ _ (by rw [bT]; exact h)]; rw [aBB]
theorem aLl {n m:Nat} {x y:Nat→Y} {j:Int} {z:Y} {o:Nat} (a:Nat) (hj:o+j.toNat*1=n+a):(ba n x++ba m y).set (o+j.toNat*1) (V z)=ba n x++ba m (upd y a z):=by
 rw [hj,List.set_append_right _ _ (by rw [bT]; omega),bT,Nat.add_sub_cancel_left,aBB]
theorem aF6 (key use:List Y) (j:Nat):yl 32 (pK key (rP key use j++use++[BitVec.ofInt 8 ((j+1:Nat):Int)]))=rP key use (j+1):=by rw [aLq]; rfl
theorem aMn (key use:List Y) (j:Nat):oI key use j++yl 32 (pK key (rP key use j++use++[BitVec.ofInt 8 ((j+1:Nat):Int)]))=oI key use (j+1):=by rw [aF6]; rfl
def kJ (xs:List Y):Hd:=⟨xs.getD 4 0,xs.getD 5 0,cE (xs.drop 6) 8,cE (xs.drop 14) 8,cE (xs.drop 22) 8⟩
def bY (xs:List Y):Hd×Int:=if xs.length<30 then (Hd.zero,10) else if xs.take 4=[116#8,97#8,110#8,116#8]∧(kJ xs).right=true then (kJ xs,0) else (Hd.zero,70)
theorem aJT {xs:List Y} (h:xs.length<30):bY xs=(Hd.zero,10):=by unfold bY; rw [if_pos h]
theorem aEF {xs:List Y} (h:¬ xs.length<30) (c:¬ (xs.take 4=[116#8,97#8,110#8,116#8]∧(kJ xs).right=true)):bY xs=(Hd.zero,70):=by unfold bY; rw [if_neg h,if_neg c]
theorem aJO {xs:List Y} (h:¬ xs.length<30) (c:xs.take 4=[116#8,97#8,110#8,116#8]∧(kJ xs).right=true):bY xs=(kJ xs,0):=by unfold bY; rw [if_neg h,if_pos c]
theorem pR {a b c d e:Value} (h1:a.oneCell'=true) (h2:b.oneCell'=true) (h3:c.oneCell'=true) (h4:d.oneCell'=true) (h5:e.oneCell'=true):∀ u∈[a,b,c,d,e],u.oneCell'=true:=by
 intro u hu
 simp only [List.mem_cons,List.not_mem_nil,or_false] at hu
 rcases hu with rfl|rfl|rfl|rfl|rfl<;>assumption
theorem aEJ {A B:List Y} {k:Nat} (h:∀ i,i<k→A.getD i 0=B.getD i 0):cE A k=cE B k:=by
 induction k with
 | zero=>rfl
 | succ k ih=>rw [cE,cE,ih (fun i hi=>h i (by omega)),h k (by omega)]
theorem aBV {xs L:List Y} (e:L=(xs.drop 6).take (30-6)):(⟨xs.getD 4 0,xs.getD 5 0,cE L 8,cE (L.drop 8) 8,cE ((L.drop 8).drop 8) 8⟩ : Hd)=kJ xs:=by
 subst e
 unfold kJ
 have e1:cE ((xs.drop 6).take (30-6)) 8=cE (xs.drop 6) 8:=aEJ fun i hi=>by
  simp only [List.getD_eq_getElem?_getD,List.getElem?_take]; rw [if_pos (by omega)]
 have e2:cE (((xs.drop 6).take (30-6)).drop 8) 8=cE (xs.drop 14) 8:=aEJ fun i hi=>by
  simp only [List.getD_eq_getElem?_getD,List.getElem?_drop,List.getElem?_take]; rw [if_pos (by omega),show 6+(8+i)=14+i by omega]
 have e3:cE ((((xs.drop 6).take (30-6)).drop 8).drop 8) 8=cE (xs.drop 22) 8:=aEJ fun i hi=>by
  simp only [List.getD_eq_getElem?_getD,List.getElem?_drop,List.getElem?_take]; rw [if_pos (by omega),show 6+(8+(8+i))=22+i by omega]
 rw [e1,e2,e3]
theorem aJW (L:List Y):((cZ L).toList == (⟨#[116,97,110,116]⟩ : ByteArray).toList)=decide (L=[116#8,97#8,110#8,116#8]):=by
 have e:(⟨#[116,97,110,116]⟩ : ByteArray).toList=(cZ [116#8,97#8,110#8,116#8]).toList:=by rw [ByteArray.toList_eq,ByteArray.toList_eq,zG]; rfl
 rw [e,aFT]
theorem aRg {xs L:List Y} (eL:L=xs.take 4) (c:(!((cZ L).toList == (⟨#[116,97,110,116]⟩ : ByteArray).toList) || !(kJ xs).right)=true) (h:xs.take 4=[116#8,97#8,110#8,116#8]∧(kJ xs).right=true):False:=by
 rw [aJW,eL,h.2,decide_eq_true h.1] at c; cases c
theorem aRh {xs L:List Y} (eL:L=xs.take 4) (c:(!((cZ L).toList == (⟨#[116,97,110,116]⟩ : ByteArray).toList) || !(kJ xs).right)=false):xs.take 4=[116#8,97#8,110#8,116#8]∧(kJ xs).right=true:=by
 rw [aJW,eL,Bool.or_eq_false_iff,Bool.not_eq_false',Bool.not_eq_false',decide_eq_true_eq] at c
 exact c
end Go.Tan
