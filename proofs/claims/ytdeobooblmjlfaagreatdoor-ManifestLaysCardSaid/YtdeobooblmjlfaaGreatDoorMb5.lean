/- Lemmas and contracts of functions, joined. -/
import Derived.Test.YtdeobooblmjlfaaGreatDoorMb4
import Derived.Test.YtdeobooblmjlfaaGreatDoorCards
import Derived.Test.YtdeobooblmjlfaaGreatDoorTie
import Derived.OpenShut
import Derived.Deep.DeepHandedRow
import Derived.Deep.CondSized
import Derived.JoinedCond
set_option linter.unusedSimpArgs false
set_option linter.unusedVariables false
set_option linter.unusedSectionVars false
namespace Go.Proofs.YtdeobooblmjlfaaGreatDoor
open Go.Tan Go.RowKit
namespace FxVeSc
theorem cv3_84:cvK Tryz.prog 3 84=some .u64:=by kernel_rfl
theorem cv84_3:cvK Tryz.prog 84 3=some .i64:=by kernel_rfl
end FxVeSc
namespace Fx
theorem go139:goFn Tryz.prog 139=true:=by kernel_rfl
theorem go126:goFn Tryz.prog 126=true:=by kernel_rfl
end Fx
structure SymI (v:Value) (f:Nat) (vc:List Value) (cv:Meta→Meta→Int) (N:Nat) (G:PM):Prop where
 ok:∀ G',PM.le G G'→∀ (P A B R:List TM) (a m b:Int) (xs:List Meta),A.length+B.length<N→a=P.length→m=((P.length+A.length:Nat):Int)→b=((P.length+A.length+B.length:Nat):Int)→0<A.length→0<B.length→Srt (ltv cv) A→Srt (ltv cv) B→(∀ x∈A,∀ y∈B,x.2<y.2)→xs=ms (P++A++B++R)→xs.length≤1000000000 →
  Ct Tryz.prog 126 #[v,.int .i64 a,.int .i64 m,.int .i64 b,.func (.func f) #[] vc.toArray] G' [rS 40 Meta.cells v 98 xs] (fun _ μ' u=>∃ S',S'.Perm (A++B)∧Srt (ltv cv) S'∧μ'=[rS 40 Meta.cells v 98 (ms (P++S'++R))]∧u=.tuple #[])
theorem SymI.mono {v:Value} {f:Nat} {vc:List Value} {cv:Meta→Meta→Int} {N:Nat} {G G':PM} (h:SymI v f vc cv N G) (hle:PM.le G G'):SymI v f vc cv N G':=⟨fun G2 h2=>h.ok G2 (hle.trans h2)⟩
set_option maxHeartbeats 4000000 in
theorem symM_step (P A B R:List TM) (v:Value) (a m b:Int) (f:Nat) (hf:goFn Tryz.prog f=true) (vc:List Value) (cv:Meta→Meta→Int) (G:PM) (hcm:CmpR Tryz.prog f vc cv G) (hw:Wk0 (ltv cv)) (ha:a=P.length) (hm:m=((P.length+A.length:Nat):Int)) (hb:b=((P.length+A.length+B.length:Nat):Int)) (hA:0<A.length) (hB:0<B.length) (sA:Srt (ltv cv) A) (sB:Srt (ltv cv) B) (ht:∀ x∈A,∀ y∈B,x.2<y.2) (xs:List Meta) (hx:xs=(ms (P++A++B++R))) (hl:xs.length≤1000000000) (ih:SymI v f vc cv (A.length+B.length) G):Ct Tryz.prog 126 ([v,.int .i64 a,.int .i64 m,.int .i64 b,.func (.func f) #[] vc.toArray]:List Value).toArray G [rS 40 Meta.cells v 98 xs] (fun _ μ' u=>∃ S',S'.Perm (A++B)∧Srt (ltv cv) S'∧μ'=[rS 40 Meta.cells v 98 (ms (P++S'++R))]∧u=.tuple #[]):=by
 refine Ct.of Tryz.func126 rfl Tryz.ntmps126 rfl fun w0 hs0=>?_
 subst hx; subst ha; subst hm; subst hb; rw [ms_len] at hl; simp only [List.length_append] at hl
 have hlen:(ms (P++A++B++R)).length=P.length+A.length+B.length+R.length:=by rw [ms_len]; simp only [List.length_append]
 refine .seq (.seq (rq4 rfl rfl (mV rfl rfl (mV rfl rfl (arn ((A.length:Nat):Int) rfl .no (.u rfl) (.u rfl) rfl (fun _=>by omega) (fun _=>wrap_i64 (by omega) (by omega)) ?_)))))
 refine cp rfl .no (.u rfl) (.u rfl) rfl (.nil (.code (.cond rfl (fun c1=>?_) (fun c1=>?_))))
 ·have c1k:=c1
  try simp only [qcA,qcC,qcB] at c1
  refine .seq (rq2 rfl rfl (mV rfl rfl (aS rfl rfl (.nil (.code (.seq (rq2 rfl rfl (mV rfl rfl (aS rfl rfl (.nil (.code (.seq (.block ?_)))))))))))))
  have hA1:A.length=1:=by omega
  refine Wk.lop (α:=Nat×Nat) (fun gh=>[(10,true,.int .i64 ((P.length+A.length+gh.1:Nat):Int)),(11,true,.int .i64 ((P.length+A.length+gh.2:Nat):Int))]) (fun _=>[])
   (fun gh Gl=>(gh.1≤gh.2)∧(gh.2≤B.length)∧(gh.1=0∨TL (ltv cv) (B.getD (gh.1-1) z0) (A.getD 0 z0))∧(gh.2=B.length∨TL (ltv cv) (A.getD 0 z0) (B.getD gh.2 z0))) (fun gh=>gh.2-gh.1) (0,B.length) [(0,true,_),(1,true,_),(4,true,_)] [_]
   (esC rfl (by first|rfl|exact evi (by omega)) (esC rfl (by first|rfl|exact evi (by omega)) (esD rfl (esD rfl (esD rfl eZ)))))
   (mS .here rfl mN) ?_ ?_
  ·refine ⟨?_,?_,?_,?_⟩
   ·(try dsimp only)<;>(first|omega|rfl|assumption|(simp; done))
   ·(try dsimp only)<;>(first|omega|rfl|assumption|(simp; done))
   ·(try dsimp only)<;>(exact .inl rfl)
   (try dsimp only)<;>(exact .inl rfl)
  intro gh N0 Gl0 hN0 hGl0 hF0
  obtain ⟨q,r⟩:=gh; dsimp only at hF0 hN0 ⊢
  obtain ⟨hq,hr,f1,f2⟩:=hF0
  have hcm:=hcm.mono hGl0
  have ih:=ih.mono hGl0
  refine .seq (.seq (rq3 rfl rfl (mV rfl rfl (mV rfl rfl (cp rfl .no (.u rfl) (.u rfl) rfl (.nil (.code (.cond rfl (fun c2=>?_) (fun c2=>?_)))))))))
  ·have c2k:=c2
   try simp only [qcA,qcC,qcB] at c2
   refine .skip (.code (.block (.seq (rq7 rfl rfl (mV rfl rfl (mV rfl rfl (arn (((((P.length+A.length+q:Nat))+((P.length+A.length+r:Nat))):Nat):Int) rfl .no (.u rfl) (.u rfl) rfl (fun _=>by omega) (fun _=>wrap_i64 (by omega) (by omega)) ?_)))))))
   refine cw rfl .no FxVeSc.cv3_84 (.u rfl) (fun _=>wrap_u64 (by omega) (by omega)) ?_
   refine sr1 ((((P.length+A.length+q:Nat))+((P.length+A.length+r:Nat)))) rfl .no (.u rfl) (.u rfl) (by first|rfl|omega) rfl (by decide) ?_
   refine cw rfl .no FxVeSc.cv84_3 (.u rfl) (fun _=>wrap_i64 (by omega) (by omega)) ?_
   refine aS rfl rfl (.nil (.code (.seq ?_)))
   obtain ⟨d,hd⟩ : ∃ d,((P.length+A.length+q)+(P.length+A.length+r)) / 2=P.length+A.length+d:=⟨(q+r) / 2,by omega⟩
   have hdq:q≤d∧d<r:=by omega
   rw [hd]
   have hg:=seg_b (P:=P) (A:=A) (B:=B) (R:=R) (i:=d) (by omega)
   have hg0:=seg_a0 (P:=P) (A:=A) (B:=B) (R:=R) hA
   refine wk_rv .here (by omega) ?_; intro bbR capR evR lcR; subst evR
   refine Wk.draw (mc:=⟨false,false⟩) [0,1,2,3,4,5,6,7,8,9,10] FxVeSa.mix (by kernel_rfl) ?_
   refine mV rfl rfl (mV rfl rfl (mV rfl rfl (ia rfl .no FxVeSa.se29 (.u rfl) (.u rfl) (fun _=>by omega) (fun _=>by omega) ?_)))
   refine lA rfl .no FxVeSa.ag98 (.u rfl) (fun _=>RdN.rowS .here (fun _ _=>Meta.len _) (gd_at (z:=Meta.zero) (k:=(P.length+A.length+d)) (by omega)) (by omega)) (fun _=>Meta.len _) ?_
   refine mV rfl rfl (mV rfl rfl (ia rfl .no FxVeSa.se29 (.u rfl) (.u rfl) (fun _=>by omega) (fun _=>by omega) ?_))
   refine lA rfl .no FxVeSa.ag98 (.u rfl) (fun _=>RdN.rowS .here (fun _ _=>Meta.len _) (gd_at (z:=Meta.zero) (k:=P.length) (by omega)) (by omega)) (fun _=>Meta.len _) ?_
   refine kf rfl .no (.u rfl) hf (Evc rfl (Evc rfl Evn)) (fun _=>hcm.ok _ (PM.le.refl _) _ _) ?_
   refine cp rfl .no (.u rfl) (.u rfl) rfl (.nil (.code (.cond rfl (fun c3=>?_) (fun c3=>?_))))
   ·have c3k:=c3
    try simp only [qcA,qcC,qcB] at c3
    refine rq3 rfl rfl (mV rfl rfl (arn ((((P.length+A.length+d)+1):Nat):Int) rfl .no (.u rfl) (.u rfl) rfl (fun _=>by omega) (fun _=>wrap_i64 (by omega) (by omega)) ?_))
    refine aS rfl rfl (.nil (.blk (We.lpo (d+1,r) ?_ ?_ ?_ ?_ ?_)))
    ·exact (esC rfl (evi (by first|rfl|omega|(dsimp only; omega))) (esC rfl (evi (by first|rfl|omega|(dsimp only; omega))) (esD rfl (esD rfl (esD rfl eZ)))))
    ·exact (mS .here rfl mN)
    ·first|omega|(dsimp only; omega)
    ·exact hGl0
    refine ⟨?_,?_,?_,?_⟩
    ·(try dsimp only)<;>(first|omega|rfl|assumption|(simp; done))
    ·(try dsimp only)<;>(first|omega|rfl|assumption|(simp; done))
    ·(try dsimp only)<;>(exact .inr (by rw [show d+1-1=d by omega]; exact ab_back hw ht hA (by omega) (by rw [← hg,←hg0]; assumption)))
    (try dsimp only)<;>(exact f2)
   have c3k:=c3
   try simp only [qcA,qcC,qcB] at c3
   refine rq2 rfl rfl (mV rfl rfl (aS rfl rfl (.nil (.blk (We.lpo (q,d) ?_ ?_ ?_ ?_ ?_)))))
   ·exact (esC rfl (evi (by first|rfl|omega|(dsimp only; omega))) (esC rfl (evi (by first|rfl|omega|(dsimp only; omega))) (esD rfl (esD rfl (esD rfl eZ)))))
   ·exact (mS .here rfl mN)
   ·first|omega|(dsimp only; omega)
   ·exact hGl0
   refine ⟨?_,?_,?_,?_⟩
   ·(try dsimp only)<;>(first|omega|rfl|assumption|(simp; done))
   ·(try dsimp only)<;>(first|omega|rfl|assumption|(simp; done))
   ·(try dsimp only)<;>(exact f1)
   (try dsimp only)<;>(exact .inr (ab_fore hw ht hA (by omega) (by rw [← hg,←hg0]; assumption)))
  have c2k:=c2
  try simp only [qcA,qcC,qcB] at c2
  refine .exit (.xcode (.xlp (.xblk (.code (.seq (.seq (rq2 rfl rfl (mV rfl rfl (aS rfl rfl (.nil (.code (.block ?_))))))))))))
  obtain rfl:q=r:=by omega
  refine Wk.lop (α:=Nat) (fun k=>[(13,true,.int .i64 ((P.length+k:Nat):Int))]) (fun k=>[rS 40 Meta.cells v 98 (ms (P++(B.take k++A.getD 0 z0 :: B.drop k)++R))])
   (fun k Gl=>(k≤q)) (fun k=>q-k) 0 [(0,true,_),(10,true,_)] []
   (esC rfl (by first|rfl|exact evi (by omega)) (esD rfl (esD rfl eZ)))
   (mS .here (by rw [List.take_zero,List.drop_zero,List.nil_append,←List.singleton_append,←one_eq hA1,←List.append_assoc]) mN) ?_ ?_
  ·(try dsimp only)<;>(first|omega|rfl|assumption|(simp; done))
  intro k N1 Gl1 hN1 hGl1 hF1
  try dsimp only at hF1 hN1 ⊢
  have hk:=hF1
  have hcm:=hcm.mono hGl1
  have ih:=ih.mono hGl1
  have hlu:(ms (P++(B.take k++A.getD 0 z0 :: B.drop k)++R)).length=P.length+B.length+1+R.length:=by rw [ms_len]; simp only [List.length_append,List.length_cons,List.length_take,List.length_drop]; omega
  refine .seq (.seq (rq4 rfl rfl (mV rfl rfl (mV rfl rfl (arn (((P.length+q):Nat):Int) rfl .no (.u rfl) (.u rfl) rfl (fun _=>by omega) (fun _=>wrap_i64 (by omega) (by omega)) ?_)))))
  refine cp rfl .no (.u rfl) (.u rfl) rfl (.nil (.code (.cond rfl (fun c4=>?_) (fun c4=>?_))))
  ·have c4k:=c4
   try simp only [qcA,qcC,qcB] at c4
   refine .skip (.code (.seq (.block ?_)))
   refine wk_rv .here (by omega) ?_; intro bbR capR evR lcR; subst evR
   refine Wk.draw (mc:=⟨false,false⟩) [0,1,2,3,4,5,6,7,8,9,10,11,12,13,14,15,16,17] FxVeSa.mix (by kernel_rfl) ?_
   refine mV rfl rfl (mV rfl rfl (mV rfl rfl (mV rfl rfl (arn (((((P.length+k:Nat))+1):Nat):Int) rfl .no (.u rfl) (.u rfl) rfl (fun _=>by omega) (fun _=>wrap_i64 (by omega) (by omega)) ?_))))
   refine mV rfl rfl (mV rfl rfl (arn (((((P.length+k:Nat))+1):Nat):Int) rfl .no (.u rfl) (.u rfl) rfl (fun _=>by omega) (fun _=>wrap_i64 (by omega) (by omega)) ?_))
   refine ia rfl .no FxVeSa.se29 (.u rfl) (.u rfl) (fun _=>by omega) (fun _=>by omega) ?_
   refine lA rfl .no FxVeSa.ag98 (.u rfl) (fun _=>RdN.rowS .here (fun _ _=>Meta.len _) (gd_at (z:=Meta.zero) (k:=(((P.length+k:Nat))+1)) (by omega)) (by omega)) (fun _=>Meta.len _) ?_
   refine mV rfl rfl (mV rfl rfl (ia rfl .no FxVeSa.se29 (.u rfl) (.u rfl) (fun _=>by omega) (fun _=>by omega) ?_))
   refine lA rfl .no FxVeSa.ag98 (.u rfl) (fun _=>RdN.rowS .here (fun _ _=>Meta.len _) (gd_at (z:=Meta.zero) (k:=((P.length+k:Nat))) (by omega)) (by omega)) (fun _=>Meta.len _) ?_
   refine ia rfl .no FxVeSa.se29 (.u rfl) (.u rfl) (fun _=>by omega) (fun _=>by omega) ?_
   refine stS (k:=((P.length+k:Nat))) (u:=((ms (P++(B.take k++A.getD 0 z0 :: B.drop k)++R)).getD ((((P.length+k:Nat))+1)) Meta.zero)) rfl (.u rfl) (.u rfl) rfl FxVeSa.sz98 .here (fun _ _=>Meta.len _) (Meta.len _) (Meta.one _) (by omega) (by (try simp only [List.length_set]); omega) ?_
   refine ia rfl .no FxVeSa.se29 (.u rfl) (.u rfl) (fun _=>by omega) (fun _=>by omega) ?_
   refine stS (k:=(((P.length+k:Nat))+1)) (u:=((ms (P++(B.take k++A.getD 0 z0 :: B.drop k)++R)).getD (((P.length+k:Nat))) Meta.zero)) rfl (.u rfl) (.u rfl) rfl FxVeSa.sz98 .here (fun _ _=>Meta.len _) (Meta.len _) (Meta.one _) (by omega) (by (try simp only [List.length_set]); omega) ?_
   refine .nil (.blk (.code (rq3 rfl rfl (mV rfl rfl (arn (((((P.length+k:Nat))+1):Nat):Int) rfl .no (.u rfl) (.u rfl) rfl (fun _=>by omega) (fun _=>wrap_i64 (by omega) (by omega)) ?_)))))
   refine aS rfl rfl (.nil (We.lpo (k+1) ?_ ?_ ?_ ?_ ?_))
   ·exact (esC rfl (evi (by omega)) (esD rfl (esD rfl eZ)))
   ·exact (mS .here (by rw [sh_up (by omega) rfl rfl]) mN)
   ·first|omega|(dsimp only; omega)
   ·exact hGl1
   (try dsimp only)<;>(first|omega|rfl|assumption|(simp; done))
  have c4k:=c4
  try simp only [qcA,qcC,qcB] at c4
  refine .exit (.xcode (.xlp (.xblk (.code (.ret (We.fin Tryz.results126 .nil (mS .here rfl mN) ?_))))))
  obtain rfl:k=q:=by omega
  exact ⟨_,put_up hA1 k,srt_put hw sB f1 f2 (by omega),rfl,rfl⟩
 have c1k:=c1
 try simp only [qcA,qcC,qcB] at c1
 refine .skip (.code (.seq (.seq (rq4 rfl rfl (mV rfl rfl (mV rfl rfl (arn ((B.length:Nat):Int) rfl .no (.u rfl) (.u rfl) rfl (fun _=>by omega) (fun _=>wrap_i64 (by omega) (by omega)) ?_)))))))
 refine cp rfl .no (.u rfl) (.u rfl) rfl (.nil (.code (.cond rfl (fun c5=>?_) (fun c5=>?_))))
 ·have c5k:=c5
  try simp only [qcA,qcC,qcB] at c5
  refine .seq (rq2 rfl rfl (mV rfl rfl (aS rfl rfl (.nil (.code (.seq (rq2 rfl rfl (mV rfl rfl (aS rfl rfl (.nil (.code (.seq (.block ?_)))))))))))))
  have hB1:B.length=1:=by omega
  refine Wk.lop (α:=Nat×Nat) (fun gh=>[(14,true,.int .i64 ((P.length+gh.1:Nat):Int)),(15,true,.int .i64 ((P.length+gh.2:Nat):Int))]) (fun _=>[])
   (fun gh Gl=>(gh.1≤gh.2)∧(gh.2≤A.length)∧(gh.1=0∨TL (ltv cv) (A.getD (gh.1-1) z0) (B.getD 0 z0))∧(gh.2=A.length∨TL (ltv cv) (B.getD 0 z0) (A.getD gh.2 z0))) (fun gh=>gh.2-gh.1) (0,A.length) [(0,true,_),(2,true,_),(4,true,_)] [_]
   (esC rfl (by first|rfl|exact evi (by omega)) (esC rfl (by first|rfl|exact evi (by omega)) (esD rfl (esD rfl (esD rfl eZ)))))
   (mS .here rfl mN) ?_ ?_
  ·refine ⟨?_,?_,?_,?_⟩
   ·(try dsimp only)<;>(first|omega|rfl|assumption|(simp; done))
   ·(try dsimp only)<;>(first|omega|rfl|assumption|(simp; done))
   ·(try dsimp only)<;>(exact .inl rfl)
   (try dsimp only)<;>(exact .inl rfl)
  intro gh N2 Gl2 hN2 hGl2 hF2
  obtain ⟨q,r⟩:=gh; dsimp only at hF2 hN2 ⊢
  obtain ⟨hq,hr,f1,f2⟩:=hF2
  have hcm:=hcm.mono hGl2
  have ih:=ih.mono hGl2
  refine .seq (.seq (rq3 rfl rfl (mV rfl rfl (mV rfl rfl (cp rfl .no (.u rfl) (.u rfl) rfl (.nil (.code (.cond rfl (fun c6=>?_) (fun c6=>?_)))))))))
  ·have c6k:=c6
   try simp only [qcA,qcC,qcB] at c6
   refine .skip (.code (.block (.seq (rq7 rfl rfl (mV rfl rfl (mV rfl rfl (arn (((((P.length+q:Nat))+((P.length+r:Nat))):Nat):Int) rfl .no (.u rfl) (.u rfl) rfl (fun _=>by omega) (fun _=>wrap_i64 (by omega) (by omega)) ?_)))))))
   refine cw rfl .no FxVeSc.cv3_84 (.u rfl) (fun _=>wrap_u64 (by omega) (by omega)) ?_
   refine sr1 ((((P.length+q:Nat))+((P.length+r:Nat)))) rfl .no (.u rfl) (.u rfl) (by first|rfl|omega) rfl (by decide) ?_
   refine cw rfl .no FxVeSc.cv84_3 (.u rfl) (fun _=>wrap_i64 (by omega) (by omega)) ?_
   refine aS rfl rfl (.nil (.code (.seq ?_)))
   obtain ⟨d,hd⟩ : ∃ d,((P.length+q)+(P.length+r)) / 2=P.length+d:=⟨(q+r) / 2,by omega⟩
   have hdq:q≤d∧d<r:=by omega
   rw [hd]
   have hg:=seg_a (P:=P) (A:=A) (B:=B) (R:=R) (i:=d) (by omega)
   have hg0:=seg_b0 (P:=P) (A:=A) (B:=B) (R:=R) hB
   refine wk_rv .here (by omega) ?_; intro bbR capR evR lcR; subst evR
   refine Wk.draw (mc:=⟨false,false⟩) [0,1,2,3,4,5,6,7,8,9,10,11] FxVeSa.mix (by kernel_rfl) ?_
   refine mV rfl rfl (mV rfl rfl (mV rfl rfl (ia rfl .no FxVeSa.se29 (.u rfl) (.u rfl) (fun _=>by omega) (fun _=>by omega) ?_)))
   refine lA rfl .no FxVeSa.ag98 (.u rfl) (fun _=>RdN.rowS .here (fun _ _=>Meta.len _) (gd_at (z:=Meta.zero) (k:=(P.length+A.length)) (by omega)) (by omega)) (fun _=>Meta.len _) ?_
   refine mV rfl rfl (mV rfl rfl (ia rfl .no FxVeSa.se29 (.u rfl) (.u rfl) (fun _=>by omega) (fun _=>by omega) ?_))
   refine lA rfl .no FxVeSa.ag98 (.u rfl) (fun _=>RdN.rowS .here (fun _ _=>Meta.len _) (gd_at (z:=Meta.zero) (k:=(P.length+d)) (by omega)) (by omega)) (fun _=>Meta.len _) ?_
   refine kf rfl .no (.u rfl) hf (Evc rfl (Evc rfl Evn)) (fun _=>hcm.ok _ (PM.le.refl _) _ _) ?_
   refine cp rfl .no (.u rfl) (.u rfl) rfl (nt rfl .no (.u rfl) (.nil (.code (.cond rfl (fun c7=>?_) (fun c7=>?_)))))
   ·have c7k:=c7
    try simp only [qcA,qcC,qcB] at c7
    refine rq3 rfl rfl (mV rfl rfl (arn ((((P.length+d)+1):Nat):Int) rfl .no (.u rfl) (.u rfl) rfl (fun _=>by omega) (fun _=>wrap_i64 (by omega) (by omega)) ?_))
    refine aS rfl rfl (.nil (.blk (We.lpo (d+1,r) ?_ ?_ ?_ ?_ ?_)))
    ·exact (esC rfl (evi (by first|rfl|omega|(dsimp only; omega))) (esC rfl (evi (by first|rfl|omega|(dsimp only; omega))) (esD rfl (esD rfl (esD rfl eZ)))))
    ·exact (mS .here rfl mN)
    ·first|omega|(dsimp only; omega)
    ·exact hGl2
    refine ⟨?_,?_,?_,?_⟩
    ·(try dsimp only)<;>(first|omega|rfl|assumption|(simp; done))
    ·(try dsimp only)<;>(first|omega|rfl|assumption|(simp; done))
    ·(try dsimp only)<;>(exact .inr (by rw [show d+1-1=d by omega]; exact ab_fore hw ht (by omega) hB (by rw [← hg,←hg0]; assumption)))
    (try dsimp only)<;>(exact f2)
   have c7k:=c7
   try simp only [qcA,qcC,qcB] at c7
   refine rq2 rfl rfl (mV rfl rfl (aS rfl rfl (.nil (.blk (We.lpo (q,d) ?_ ?_ ?_ ?_ ?_)))))
   ·exact (esC rfl (evi (by first|rfl|omega|(dsimp only; omega))) (esC rfl (evi (by first|rfl|omega|(dsimp only; omega))) (esD rfl (esD rfl (esD rfl eZ)))))
   ·exact (mS .here rfl mN)
   ·first|omega|(dsimp only; omega)
   ·exact hGl2
   refine ⟨?_,?_,?_,?_⟩
   ·(try dsimp only)<;>(first|omega|rfl|assumption|(simp; done))
   ·(try dsimp only)<;>(first|omega|rfl|assumption|(simp; done))
   ·(try dsimp only)<;>(exact f1)
   (try dsimp only)<;>(exact .inr (ab_back hw ht (by omega) hB (by rw [← hg,←hg0]; assumption)))
  have c6k:=c6
  try simp only [qcA,qcC,qcB] at c6
  refine .exit (.xcode (.xlp (.xblk (.code (.seq (.seq (rq2 rfl rfl (mV rfl rfl (aS rfl rfl (.nil (.code (.block ?_))))))))))))
  obtain rfl:q=r:=by omega
  refine Wk.lop (α:=Nat) (fun e=>[(17,true,.int .i64 ((P.length+e:Nat):Int))]) (fun e=>[rS 40 Meta.cells v 98 (ms (P++(A.take e++B.getD 0 z0 :: A.drop e)++R))])
   (fun e Gl=>(q≤e)∧(e≤A.length)) (fun e=>e) A.length [(0,true,_),(14,true,_)] []
   (esC rfl (by first|rfl|exact evi (by omega)) (esD rfl (esD rfl eZ)))
   (mS .here (by rw [List.take_length,List.drop_length,←one_eq hB1,←List.append_assoc]) mN) ?_ ?_
  ·refine ⟨?_,?_⟩
   ·(try dsimp only)<;>(first|omega|rfl|assumption|(simp; done))
   (try dsimp only)<;>(first|omega|rfl|assumption|(simp; done))
  intro e N3 Gl3 hN3 hGl3 hF3
  try dsimp only at hF3 hN3 ⊢
  obtain ⟨he,hel⟩:=hF3
  have hcm:=hcm.mono hGl3
  have ih:=ih.mono hGl3
  have hld:(ms (P++(A.take e++B.getD 0 z0 :: A.drop e)++R)).length=P.length+A.length+1+R.length:=by rw [ms_len]; simp only [List.length_append,List.length_cons,List.length_take,List.length_drop]; omega
  refine .seq (.seq (rq3 rfl rfl (mV rfl rfl (mV rfl rfl (cp rfl .no (.u rfl) (.u rfl) rfl (.nil (.code (.cond rfl (fun c8=>?_) (fun c8=>?_)))))))))
  ·have c8k:=c8
   try simp only [qcA,qcC,qcB] at c8
   refine .skip (.code (.seq (.block ?_)))
   refine wk_rv .here (by omega) ?_; intro bbR capR evR lcR; subst evR
   refine Wk.draw (mc:=⟨false,false⟩) [0,1,2,3,4,5,6,7,8,9,10,11,12,13,14,15,16,17] FxVeSa.mix (by kernel_rfl) ?_
   refine mV rfl rfl (mV rfl rfl (mV rfl rfl (mV rfl rfl (arn (((P.length+e-1):Nat):Int) rfl .no (.u rfl) (.u rfl) rfl (fun _=>by omega) (fun _=>wrap_i64 (by omega) (by omega)) ?_))))
   refine mV rfl rfl (mV rfl rfl (arn (((P.length+e-1):Nat):Int) rfl .no (.u rfl) (.u rfl) rfl (fun _=>by omega) (fun _=>wrap_i64 (by omega) (by omega)) ?_))
   refine ia rfl .no FxVeSa.se29 (.u rfl) (.u rfl) (fun _=>by omega) (fun _=>by omega) ?_
   refine lA rfl .no FxVeSa.ag98 (.u rfl) (fun _=>RdN.rowS .here (fun _ _=>Meta.len _) (gd_at (z:=Meta.zero) (k:=(P.length+e-1)) (by omega)) (by omega)) (fun _=>Meta.len _) ?_
   refine mV rfl rfl (mV rfl rfl (ia rfl .no FxVeSa.se29 (.u rfl) (.u rfl) (fun _=>by omega) (fun _=>by omega) ?_))
   refine lA rfl .no FxVeSa.ag98 (.u rfl) (fun _=>RdN.rowS .here (fun _ _=>Meta.len _) (gd_at (z:=Meta.zero) (k:=((P.length+e:Nat))) (by omega)) (by omega)) (fun _=>Meta.len _) ?_
   refine ia rfl .no FxVeSa.se29 (.u rfl) (.u rfl) (fun _=>by omega) (fun _=>by omega) ?_
   refine stS (k:=((P.length+e:Nat))) (u:=((ms (P++(A.take e++B.getD 0 z0 :: A.drop e)++R)).getD ((P.length+e-1)) Meta.zero)) rfl (.u rfl) (.u rfl) rfl FxVeSa.sz98 .here (fun _ _=>Meta.len _) (Meta.len _) (Meta.one _) (by omega) (by (try simp only [List.length_set]); omega) ?_
   refine ia rfl .no FxVeSa.se29 (.u rfl) (.u rfl) (fun _=>by omega) (fun _=>by omega) ?_
   refine stS (k:=(P.length+e-1)) (u:=((ms (P++(A.take e++B.getD 0 z0 :: A.drop e)++R)).getD (((P.length+e:Nat))) Meta.zero)) rfl (.u rfl) (.u rfl) rfl FxVeSa.sz98 .here (fun _ _=>Meta.len _) (Meta.len _) (Meta.one _) (by omega) (by (try simp only [List.length_set]); omega) ?_
   refine .nil (.blk (.code (rq3 rfl rfl (mV rfl rfl (arn (((P.length+e-1):Nat):Int) rfl .no (.u rfl) (.u rfl) rfl (fun _=>by omega) (fun _=>wrap_i64 (by omega) (by omega)) ?_)))))
   refine aS rfl rfl (.nil (We.lpo (e-1) ?_ ?_ ?_ ?_ ?_))
   ·exact (esC rfl (evi (by omega)) (esD rfl (esD rfl eZ)))
   ·exact (mS .here (by rw [sh_dn (by omega) (by omega) rfl rfl]) mN)
   ·first|omega|(dsimp only; omega)
   ·exact hGl3
   refine ⟨?_,?_⟩
   ·(try dsimp only)<;>(first|omega|rfl|assumption|(simp; done))
   (try dsimp only)<;>(first|omega|rfl|assumption|(simp; done))
  have c8k:=c8
  try simp only [qcA,qcC,qcB] at c8
  refine .exit (.xcode (.xlp (.xblk (.code (.ret (We.fin Tryz.results126 .nil (mS .here rfl mN) ?_))))))
  obtain rfl:e=q:=by omega
  exact ⟨_,put_dn hB1 e,srt_put hw sA f1 f2 (by omega),rfl,rfl⟩
 have c5k:=c5
 try simp only [qcA,qcC,qcB] at c5
 refine .skip (.code (.seq (rq7 rfl rfl (mV rfl rfl (mV rfl rfl (arn (((P.length+(P.length+A.length+B.length)):Nat):Int) rfl .no (.u rfl) (.u rfl) rfl (fun _=>by omega) (fun _=>wrap_i64 (by omega) (by omega)) ?_))))))
 refine cw rfl .no FxVeSc.cv3_84 (.u rfl) (fun _=>wrap_u64 (by omega) (by omega)) ?_
 refine sr1 ((P.length+(P.length+A.length+B.length))) rfl .no (.u rfl) (.u rfl) (by first|rfl|omega) rfl (by decide) ?_
 refine cw rfl .no FxVeSc.cv84_3 (.u rfl) (fun _=>wrap_i64 (by omega) (by omega)) ?_
 refine aS rfl rfl (.nil (.code (.seq ?_)))
 obtain ⟨h,hh⟩ : ∃ h,(P.length+(P.length+A.length+B.length)) / 2=P.length+h:=⟨(A.length+B.length) / 2,by omega⟩
 have hh2:A.length+B.length=2*h∨A.length+B.length=2*h+1:=by omega
 rw [hh]
 refine rq4 rfl rfl (mV rfl rfl (mV rfl rfl (arn ((((P.length+h)+(P.length+A.length)):Nat):Int) rfl .no (.u rfl) (.u rfl) rfl (fun _=>by omega) (fun _=>wrap_i64 (by omega) (by omega)) ?_)))
 refine aS rfl rfl (.nil (.code (.seq (rq2 rfl rfl (aS rfl rfl (aS rfl rfl (.nil (.code (.seq (.seq (rq3 rfl rfl (mV rfl rfl (mV rfl rfl (cp rfl .no (.u rfl) (.u rfl) rfl (.nil (.code (.cond rfl (fun c9=>?_) (fun c9=>?_))))))))))))))))))
 ·have c9k:=c9
  try simp only [qcA,qcC,qcB] at c9
  refine .seq (rq4 rfl rfl (mV rfl rfl (mV rfl rfl (arn (((P.length+(h-B.length)):Nat):Int) rfl .no (.u rfl) (.u rfl) rfl (fun _=>by omega) (fun _=>wrap_i64 (by omega) (by omega)) ?_))))
  refine aS rfl rfl (.nil (.code (rq2 rfl rfl (mV rfl rfl (aS rfl rfl (.nil (.code (.seq (rq3 rfl rfl (mV rfl rfl (arn (((P.length+h+(P.length+A.length)-1):Nat):Int) rfl .no (.u rfl) (.u rfl) rfl (fun _=>by omega) (fun _=>wrap_i64 (by omega) (by omega)) ?_)))))))))))
  refine aS rfl rfl (.nil (.code (.seq (.block ?_))))
  refine Wk.lop (α:=Nat×Nat) (fun gh=>[(20,true,.int .i64 ((P.length+gh.1:Nat):Int)),(21,true,.int .i64 ((P.length+gh.2:Nat):Int))]) (fun _=>[])
   (fun gh Gl=>(h-B.length≤gh.1)∧(gh.1≤gh.2)∧(gh.2≤h)∧(gh.2≤A.length)∧(gh.1=h-B.length∨TL (ltv cv) (A.getD (gh.1-1) z0) (B.getD (h-gh.1) z0))∧((gh.2=h∨gh.2=A.length)∨TL (ltv cv) (B.getD (h-1-gh.2) z0) (A.getD gh.2 z0))) (fun gh=>gh.2-gh.1) (h-B.length,h) [(0,true,_),(1,true,_),(2,true,_),(3,true,_),(4,true,_),(18,true,_),(19,true,_),(22,true,_)] [_]
   (esC rfl (evi (by first|rfl|omega|(dsimp only; omega))) (esC rfl (evi (by first|rfl|omega|(dsimp only; omega))) (esD rfl (esD rfl (esD rfl (esD rfl (esD rfl (esD rfl (esD rfl (esD rfl eZ))))))))))
   (mS .here rfl mN) ?_ ?_
  ·refine ⟨?_,?_,?_,?_,?_,?_⟩
   ·(try dsimp only)<;>(first|omega|rfl|assumption|(simp; done))
   ·(try dsimp only)<;>(first|omega|rfl|assumption|(simp; done))
   ·(try dsimp only)<;>(first|omega|rfl|assumption|(simp; done))
   ·(try dsimp only)<;>(first|omega|rfl|assumption|(simp; done))
   ·(try dsimp only)<;>(exact .inl (by omega))
   (try dsimp only)<;>(exact .inl (by omega))
  intro gh N4 Gl4 hN4 hGl4 hF4
  obtain ⟨s,r⟩:=gh; dsimp only at hF4 hN4 ⊢
  obtain ⟨h1,h2,h3,h4,f1,f2⟩:=hF4
  have hcm:=hcm.mono hGl4
  have ih:=ih.mono hGl4
  refine .seq (.seq (rq3 rfl rfl (mV rfl rfl (mV rfl rfl (cp rfl .no (.u rfl) (.u rfl) rfl (.nil (.code (.cond rfl (fun c10=>?_) (fun c10=>?_)))))))))
  ·have c10k:=c10
   try simp only [qcA,qcC,qcB] at c10
   refine .skip (.code (.block (.seq (rq7 rfl rfl (mV rfl rfl (mV rfl rfl (arn (((((P.length+s:Nat))+((P.length+r:Nat))):Nat):Int) rfl .no (.u rfl) (.u rfl) rfl (fun _=>by omega) (fun _=>wrap_i64 (by omega) (by omega)) ?_)))))))
   refine cw rfl .no FxVeSc.cv3_84 (.u rfl) (fun _=>wrap_u64 (by omega) (by omega)) ?_
   refine sr1 ((((P.length+s:Nat))+((P.length+r:Nat)))) rfl .no (.u rfl) (.u rfl) (by first|rfl|omega) rfl (by decide) ?_
   refine cw rfl .no FxVeSc.cv84_3 (.u rfl) (fun _=>wrap_i64 (by omega) (by omega)) ?_
   refine aS rfl rfl (.nil (.code (.seq ?_)))
   obtain ⟨d,hd⟩ : ∃ d,((P.length+s)+(P.length+r)) / 2=P.length+d:=⟨(s+r) / 2,by omega⟩
   have hdq:s≤d∧d<r:=by omega
   rw [hd]
   have hg:=seg_a (P:=P) (A:=A) (B:=B) (R:=R) (i:=d) (by omega)
   have hg0:=seg_b (P:=P) (A:=A) (B:=B) (R:=R) (i:=h-1-d) (by omega)
   refine wk_rv .here (by omega) ?_; intro bbR capR evR lcR; subst evR
   refine Wk.draw (mc:=⟨false,false⟩) [0,1,2,3,4,5,6,7,8,9,10,11,12,13] FxVeSa.mix (by kernel_rfl) ?_
   refine mV rfl rfl (mV rfl rfl (mV rfl rfl (mV rfl rfl (arn (((P.length+A.length+(h-1-d)):Nat):Int) rfl .no (.u rfl) (.u rfl) rfl (fun _=>by omega) (fun _=>wrap_i64 (by omega) (by omega)) ?_))))
   refine ia rfl .no FxVeSa.se29 (.u rfl) (.u rfl) (fun _=>by omega) (fun _=>by omega) ?_
   refine lA rfl .no FxVeSa.ag98 (.u rfl) (fun _=>RdN.rowS .here (fun _ _=>Meta.len _) (gd_at (z:=Meta.zero) (k:=(P.length+A.length+(h-1-d))) (by omega)) (by omega)) (fun _=>Meta.len _) ?_
   refine mV rfl rfl (mV rfl rfl (ia rfl .no FxVeSa.se29 (.u rfl) (.u rfl) (fun _=>by omega) (fun _=>by omega) ?_))
   refine lA rfl .no FxVeSa.ag98 (.u rfl) (fun _=>RdN.rowS .here (fun _ _=>Meta.len _) (gd_at (z:=Meta.zero) (k:=(P.length+d)) (by omega)) (by omega)) (fun _=>Meta.len _) ?_
   refine kf rfl .no (.u rfl) hf (Evc rfl (Evc rfl Evn)) (fun _=>hcm.ok _ (PM.le.refl _) _ _) ?_
   refine cp rfl .no (.u rfl) (.u rfl) rfl (nt rfl .no (.u rfl) (.nil (.code (.cond rfl (fun c11=>?_) (fun c11=>?_)))))
   ·have c11k:=c11
    try simp only [qcA,qcC,qcB] at c11
    have hyes:=ab_fore hw ht (i:=d) (j:=h-1-d) (by omega) (by omega) (by rw [← hg,←hg0]; assumption)
    refine rq3 rfl rfl (mV rfl rfl (arn ((((P.length+d)+1):Nat):Int) rfl .no (.u rfl) (.u rfl) rfl (fun _=>by omega) (fun _=>wrap_i64 (by omega) (by omega)) ?_))
    refine aS rfl rfl (.nil (.blk (We.lpo (d+1,r) ?_ ?_ ?_ ?_ ?_)))
    ·exact (esC rfl (evi (by first|rfl|omega|(dsimp only; omega))) (esC rfl (evi (by first|rfl|omega|(dsimp only; omega))) (esD rfl (esD rfl (esD rfl (esD rfl (esD rfl (esD rfl (esD rfl (esD rfl eZ))))))))))
    ·exact (mS .here rfl mN)
    ·first|omega|(dsimp only; omega)
    ·exact hGl4
    refine ⟨?_,?_,?_,?_,?_,?_⟩
    ·(try dsimp only)<;>(first|omega|rfl|assumption|(simp; done))
    ·(try dsimp only)<;>(first|omega|rfl|assumption|(simp; done))
    ·(try dsimp only)<;>(first|omega|rfl|assumption|(simp; done))
    ·(try dsimp only)<;>(first|omega|rfl|assumption|(simp; done))
    ·(try dsimp only)<;>(exact .inr (by rw [show d+1-1=d by omega,show h-(d+1)=h-1-d by omega]; exact hyes))
    (try dsimp only)<;>(exact f2)
   have c11k:=c11
   try simp only [qcA,qcC,qcB] at c11
   have hno:=ab_back hw ht (i:=d) (j:=h-1-d) (by omega) (by omega) (by rw [← hg,←hg0]; assumption)
   refine rq2 rfl rfl (mV rfl rfl (aS rfl rfl (.nil (.blk (We.lpo (s,d) ?_ ?_ ?_ ?_ ?_)))))
   ·exact (esC rfl (evi (by first|rfl|omega|(dsimp only; omega))) (esC rfl (evi (by first|rfl|omega|(dsimp only; omega))) (esD rfl (esD rfl (esD rfl (esD rfl (esD rfl (esD rfl (esD rfl (esD rfl eZ))))))))))
   ·exact (mS .here rfl mN)
   ·first|omega|(dsimp only; omega)
   ·exact hGl4
   refine ⟨?_,?_,?_,?_,?_,?_⟩
   ·(try dsimp only)<;>(first|omega|rfl|assumption|(simp; done))
   ·(try dsimp only)<;>(first|omega|rfl|assumption|(simp; done))
   ·(try dsimp only)<;>(first|omega|rfl|assumption|(simp; done))
   ·(try dsimp only)<;>(first|omega|rfl|assumption|(simp; done))
   ·(try dsimp only)<;>(exact f1)
   (try dsimp only)<;>(exact .inr hno)
  have c10k:=c10
  try simp only [qcA,qcC,qcB] at c10
  refine .exit (.xcode (.xlp (.xblk (.code (.seq ?_)))))
  obtain rfl:s=r:=by omega
  have hcut:=sym_cut hw sA sB h1 h3 h4 f1 f2
  refine rq4 rfl rfl (mV rfl rfl (mV rfl rfl (arn (((P.length+A.length+(h-s)):Nat):Int) rfl .no (.u rfl) (.u rfl) rfl (fun _=>by omega) (fun _=>wrap_i64 (by omega) (by omega)) ?_)))
  refine aS rfl rfl (.nil (.code (.seq (.seq (rq8 rfl rfl (mV rfl rfl (mV rfl rfl (cp rfl .no (.u rfl) (.u rfl) rfl (mV rfl rfl (mv rfl (.t rfl rfl) (.u rfl) (mv rfl (.t rfl rfl) (.u rfl) (cp rfl (.t rfl rfl) (.s rfl) (.s rfl) rfl (pkA rfl .no (.u rfl) (.s rfl) (.nil (.code (.cond rfl (fun c12=>?_) (fun c12=>?_)))))))))))))))))
  ·have c12k:=c12
   try simp only [qcA,qcC,qcB] at c12
   refine rq6 rfl rfl (mV rfl rfl (mV rfl rfl (mV rfl rfl (mV rfl rfl (mV rfl rfl (ka rfl (.inr rfl) Fx.go139 (Evc rfl (Evc rfl (Evc rfl (Evc rfl (Evc rfl Evn))))) (mtk1 .here) (rotM_ok (ms (P++A.take s)) (ms (A.drop s)) (ms (B.take (h-s))) (ms (B.drop (h-s)++R)) _ _ _ _ _ _ (by simp only [ms_len,qlB]; omega) (by simp only [ms_len,qlB]; omega) (by simp only [ms_len,qlB]; omega) (by simp only [ms_len,qlB]; omega) (by simp only [ms_len,qlB]; omega) _ sym_in (by rw [hlen]; omega)) ?_))))))
   rintro _ G191 μ191 hG191 ⟨rfl,rfl⟩
   have hcm:=hcm.mono hG191
   have ih:=ih.mono hG191
   refine .nil (.code (.seq (.seq ?_)))
   rw [sym_rot (P:=P) (A:=A) (B:=B) (R:=R) (s:=s) (q:=h-s)]
   refine rq8 rfl rfl (mV rfl rfl (mV rfl rfl (cp rfl .no (.u rfl) (.u rfl) rfl (mV rfl rfl (mv rfl (.t rfl rfl) (.u rfl) (mv rfl (.t rfl rfl) (.u rfl) (cp rfl (.t rfl rfl) (.s rfl) (.s rfl) rfl (pkA rfl .no (.u rfl) (.s rfl) (.nil (.code (.cond rfl (fun c13=>?_) (fun c13=>?_))))))))))))
   ·have c13k:=c13
    try simp only [qcA,qcC,qcB] at c13
    refine rq6 rfl rfl (mV rfl rfl (mV rfl rfl (mV rfl rfl (mV rfl rfl (mV rfl rfl ?_)))))
    refine ka rfl (.inr rfl) Fx.go126 (Evc rfl (Evc rfl (Evc rfl (Evc rfl (Evc rfl Evn))))) (mtk1 .here) (ih.ok _ (PM.le.refl _) P (A.take s) (B.take (h-s)) (A.drop s++B.drop (h-s)++R) _ _ _ _ (by first|omega|(simp only [qlB]<;>omega)) (by first|omega|(simp only [qlB]<;>omega)) (by first|omega|(simp only [qlB]<;>omega)) (by first|omega|(simp only [qlB]<;>omega)) (by first|omega|(simp only [qlB]<;>omega)) (by first|omega|(simp only [qlB]<;>omega)) (srt_parts sA s).1 (srt_parts sB (h-s)).1 (fun x hx y hy=>ht x (List.mem_of_mem_take hx) y (List.mem_of_mem_take hy)) (by simp only [ms,List.map_append,List.append_assoc]) (by rw [ms_len]; simp only [qlB]; omega)) ?_
    rintro _ G205 μ205 hG205 ⟨S205,p205,s205,rfl,rfl⟩
    have l205:=p205.length_eq; simp only [qlB] at l205
    have hcm:=hcm.mono hG205
    have ih:=ih.mono hG205
    refine .nil (.code (.seq (rq8 rfl rfl (mV rfl rfl (mV rfl rfl (cp rfl .no (.u rfl) (.u rfl) rfl (mV rfl rfl (mv rfl (.t rfl rfl) (.u rfl) (mv rfl (.t rfl rfl) (.u rfl) (cp rfl (.t rfl rfl) (.s rfl) (.s rfl) rfl (pkA rfl .no (.u rfl) (.s rfl) (.nil (.code (.cond rfl (fun c14=>?_) (fun c14=>?_)))))))))))))))
    ·have c14k:=c14
     try simp only [qcA,qcC,qcB] at c14
     refine rq6 rfl rfl (mV rfl rfl (mV rfl rfl (mV rfl rfl (mV rfl rfl (mV rfl rfl ?_)))))
     refine ka rfl (.inr rfl) Fx.go126 (Evc rfl (Evc rfl (Evc rfl (Evc rfl (Evc rfl Evn))))) (mtk1 .here) (ih.ok _ (PM.le.refl _) (P++S205) (A.drop s) (B.drop (h-s)) R _ _ _ _ (by first|omega|(simp only [qlB]<;>omega)) (by first|omega|(simp only [qlB]<;>omega)) (by first|omega|(simp only [qlB]<;>omega)) (by first|omega|(simp only [qlB]<;>omega)) (by first|omega|(simp only [qlB]<;>omega)) (by first|omega|(simp only [qlB]<;>omega)) (srt_parts sA s).2.1 (srt_parts sB (h-s)).2.1 (fun x hx y hy=>ht x (List.mem_of_mem_drop hx) y (List.mem_of_mem_drop hy)) (by simp only [ms,List.map_append,List.append_assoc]) (by rw [ms_len]; simp only [qlB]; omega)) ?_
     rintro _ G219 μ219 hG219 ⟨S219,p219,s219,rfl,rfl⟩
     have l219:=p219.length_eq; simp only [qlB] at l219
     have hcm:=hcm.mono hG219
     have ih:=ih.mono hG219
     refine .nil (.nil (We.fin Tryz.results126 .nil (mS .here rfl mN) ?_))
     have hq1:s≤h:=by omega
     obtain ⟨a1,a2,_⟩:=srt_parts sA s
     obtain ⟨b1,b2,_⟩:=srt_parts sB (h-s)
     have p1:=p205; have s1:=s205
     have p2:=p219; have s2:=s219
     obtain ⟨q1,q2⟩:=sym_fin hcut p1 s1 p2 s2
     exact ⟨_,q1,q2,by simp only [ms,List.map_append,List.append_assoc],rfl⟩
    have c14k:=c14
    try simp only [qcA,qcC,qcB] at c14
    refine .skip (.nil (We.fin Tryz.results126 .nil (mS .here rfl mN) ?_))
    have hq1:s≤h:=by omega
    obtain ⟨a1,a2,_⟩:=srt_parts sA s
    obtain ⟨b1,b2,_⟩:=srt_parts sB (h-s)
    have p1:=p205; have s1:=s205
    have p2:=List.Perm.refl (A.drop s++B.drop (h-s))
    have s2:=half_srt a2 b2 (by simp only [List.length_drop]; omega)
    obtain ⟨q1,q2⟩:=sym_fin hcut p1 s1 p2 s2
    exact ⟨_,q1,q2,by simp only [ms,List.map_append,List.append_assoc],rfl⟩
   have c13k:=c13
   try simp only [qcA,qcC,qcB] at c13
   refine .skip (.code (.seq (rq8 rfl rfl (mV rfl rfl (mV rfl rfl (cp rfl .no (.u rfl) (.u rfl) rfl (mV rfl rfl (mv rfl (.t rfl rfl) (.u rfl) (mv rfl (.t rfl rfl) (.u rfl) (cp rfl (.t rfl rfl) (.s rfl) (.s rfl) rfl (pkA rfl .no (.u rfl) (.s rfl) (.nil (.code (.cond rfl (fun c15=>?_) (fun c15=>?_)))))))))))))))
   ·have c15k:=c15
    try simp only [qcA,qcC,qcB] at c15
    refine rq6 rfl rfl (mV rfl rfl (mV rfl rfl (mV rfl rfl (mV rfl rfl (mV rfl rfl ?_)))))
    refine ka rfl (.inr rfl) Fx.go126 (Evc rfl (Evc rfl (Evc rfl (Evc rfl (Evc rfl Evn))))) (mtk1 .here) (ih.ok _ (PM.le.refl _) (P++(A.take s++B.take (h-s))) (A.drop s) (B.drop (h-s)) R _ _ _ _ (by first|omega|(simp only [qlB]<;>omega)) (by first|omega|(simp only [qlB]<;>omega)) (by first|omega|(simp only [qlB]<;>omega)) (by first|omega|(simp only [qlB]<;>omega)) (by first|omega|(simp only [qlB]<;>omega)) (by first|omega|(simp only [qlB]<;>omega)) (srt_parts sA s).2.1 (srt_parts sB (h-s)).2.1 (fun x hx y hy=>ht x (List.mem_of_mem_drop hx) y (List.mem_of_mem_drop hy)) (by simp only [ms,List.map_append,List.append_assoc]) (by rw [ms_len]; simp only [qlB]; omega)) ?_
    rintro _ G219 μ219 hG219 ⟨S219,p219,s219,rfl,rfl⟩
    have l219:=p219.length_eq; simp only [qlB] at l219
    have hcm:=hcm.mono hG219
    have ih:=ih.mono hG219
    refine .nil (.nil (We.fin Tryz.results126 .nil (mS .here rfl mN) ?_))
    have hq1:s≤h:=by omega
    obtain ⟨a1,a2,_⟩:=srt_parts sA s
    obtain ⟨b1,b2,_⟩:=srt_parts sB (h-s)
    have p1:=List.Perm.refl (A.take s++B.take (h-s))
    have s1:=half_srt a1 b1 (by simp only [List.length_take]; omega)
    have p2:=p219; have s2:=s219
    obtain ⟨q1,q2⟩:=sym_fin hcut p1 s1 p2 s2
    exact ⟨_,q1,q2,by simp only [ms,List.map_append,List.append_assoc],rfl⟩
   have c15k:=c15
   try simp only [qcA,qcC,qcB] at c15
   refine .skip (.nil (We.fin Tryz.results126 .nil (mS .here rfl mN) ?_))
   have hq1:s≤h:=by omega
   obtain ⟨a1,a2,_⟩:=srt_parts sA s
   obtain ⟨b1,b2,_⟩:=srt_parts sB (h-s)
   have p1:=List.Perm.refl (A.take s++B.take (h-s))
   have s1:=half_srt a1 b1 (by simp only [List.length_take]; omega)
   have p2:=List.Perm.refl (A.drop s++B.drop (h-s))
   have s2:=half_srt a2 b2 (by simp only [List.length_drop]; omega)
   obtain ⟨q1,q2⟩:=sym_fin hcut p1 s1 p2 s2
   exact ⟨_,q1,q2,by simp only [ms,List.map_append,List.append_assoc],rfl⟩
  have c12k:=c12
  try simp only [qcA,qcC,qcB] at c12
  refine .skip (.code (.seq (.seq ?_)))
  rw [sym_norot (P:=P) (A:=A) (B:=B) (R:=R) (s:=s) (q:=h-s) (by omega)]
  refine rq8 rfl rfl (mV rfl rfl (mV rfl rfl (cp rfl .no (.u rfl) (.u rfl) rfl (mV rfl rfl (mv rfl (.t rfl rfl) (.u rfl) (mv rfl (.t rfl rfl) (.u rfl) (cp rfl (.t rfl rfl) (.s rfl) (.s rfl) rfl (pkA rfl .no (.u rfl) (.s rfl) (.nil (.code (.cond rfl (fun c16=>?_) (fun c16=>?_))))))))))))
  ·have c16k:=c16
   try simp only [qcA,qcC,qcB] at c16
   refine rq6 rfl rfl (mV rfl rfl (mV rfl rfl (mV rfl rfl (mV rfl rfl (mV rfl rfl ?_)))))
   refine ka rfl (.inr rfl) Fx.go126 (Evc rfl (Evc rfl (Evc rfl (Evc rfl (Evc rfl Evn))))) (mtk1 .here) (ih.ok _ (PM.le.refl _) P (A.take s) (B.take (h-s)) (A.drop s++B.drop (h-s)++R) _ _ _ _ (by first|omega|(simp only [qlB]<;>omega)) (by first|omega|(simp only [qlB]<;>omega)) (by first|omega|(simp only [qlB]<;>omega)) (by first|omega|(simp only [qlB]<;>omega)) (by first|omega|(simp only [qlB]<;>omega)) (by first|omega|(simp only [qlB]<;>omega)) (srt_parts sA s).1 (srt_parts sB (h-s)).1 (fun x hx y hy=>ht x (List.mem_of_mem_take hx) y (List.mem_of_mem_take hy)) (by simp only [ms,List.map_append,List.append_assoc]) (by rw [ms_len]; simp only [qlB]; omega)) ?_
   rintro _ G205 μ205 hG205 ⟨S205,p205,s205,rfl,rfl⟩
   have l205:=p205.length_eq; simp only [qlB] at l205
   have hcm:=hcm.mono hG205
   have ih:=ih.mono hG205
   refine .nil (.code (.seq (rq8 rfl rfl (mV rfl rfl (mV rfl rfl (cp rfl .no (.u rfl) (.u rfl) rfl (mV rfl rfl (mv rfl (.t rfl rfl) (.u rfl) (mv rfl (.t rfl rfl) (.u rfl) (cp rfl (.t rfl rfl) (.s rfl) (.s rfl) rfl (pkA rfl .no (.u rfl) (.s rfl) (.nil (.code (.cond rfl (fun c17=>?_) (fun c17=>?_)))))))))))))))
   ·have c17k:=c17
    try simp only [qcA,qcC,qcB] at c17
    refine rq6 rfl rfl (mV rfl rfl (mV rfl rfl (mV rfl rfl (mV rfl rfl (mV rfl rfl ?_)))))
    refine ka rfl (.inr rfl) Fx.go126 (Evc rfl (Evc rfl (Evc rfl (Evc rfl (Evc rfl Evn))))) (mtk1 .here) (ih.ok _ (PM.le.refl _) (P++S205) (A.drop s) (B.drop (h-s)) R _ _ _ _ (by first|omega|(simp only [qlB]<;>omega)) (by first|omega|(simp only [qlB]<;>omega)) (by first|omega|(simp only [qlB]<;>omega)) (by first|omega|(simp only [qlB]<;>omega)) (by first|omega|(simp only [qlB]<;>omega)) (by first|omega|(simp only [qlB]<;>omega)) (srt_parts sA s).2.1 (srt_parts sB (h-s)).2.1 (fun x hx y hy=>ht x (List.mem_of_mem_drop hx) y (List.mem_of_mem_drop hy)) (by simp only [ms,List.map_append,List.append_assoc]) (by rw [ms_len]; simp only [qlB]; omega)) ?_
    rintro _ G219 μ219 hG219 ⟨S219,p219,s219,rfl,rfl⟩
    have l219:=p219.length_eq; simp only [qlB] at l219
    have hcm:=hcm.mono hG219
    have ih:=ih.mono hG219
    refine .nil (.nil (We.fin Tryz.results126 .nil (mS .here rfl mN) ?_))
    have hq1:s≤h:=by omega
    obtain ⟨a1,a2,_⟩:=srt_parts sA s
    obtain ⟨b1,b2,_⟩:=srt_parts sB (h-s)
    have p1:=p205; have s1:=s205
    have p2:=p219; have s2:=s219
    obtain ⟨q1,q2⟩:=sym_fin hcut p1 s1 p2 s2
    exact ⟨_,q1,q2,by simp only [ms,List.map_append,List.append_assoc],rfl⟩
   have c17k:=c17
   try simp only [qcA,qcC,qcB] at c17
   refine .skip (.nil (We.fin Tryz.results126 .nil (mS .here rfl mN) ?_))
   have hq1:s≤h:=by omega
   obtain ⟨a1,a2,_⟩:=srt_parts sA s
   obtain ⟨b1,b2,_⟩:=srt_parts sB (h-s)
   have p1:=p205; have s1:=s205
   have p2:=List.Perm.refl (A.drop s++B.drop (h-s))
   have s2:=half_srt a2 b2 (by simp only [List.length_drop]; omega)
   obtain ⟨q1,q2⟩:=sym_fin hcut p1 s1 p2 s2
   exact ⟨_,q1,q2,by simp only [ms,List.map_append,List.append_assoc],rfl⟩
  have c16k:=c16
  try simp only [qcA,qcC,qcB] at c16
  refine .skip (.code (.seq (rq8 rfl rfl (mV rfl rfl (mV rfl rfl (cp rfl .no (.u rfl) (.u rfl) rfl (mV rfl rfl (mv rfl (.t rfl rfl) (.u rfl) (mv rfl (.t rfl rfl) (.u rfl) (cp rfl (.t rfl rfl) (.s rfl) (.s rfl) rfl (pkA rfl .no (.u rfl) (.s rfl) (.nil (.code (.cond rfl (fun c18=>?_) (fun c18=>?_)))))))))))))))
  ·have c18k:=c18
   try simp only [qcA,qcC,qcB] at c18
   refine rq6 rfl rfl (mV rfl rfl (mV rfl rfl (mV rfl rfl (mV rfl rfl (mV rfl rfl ?_)))))
   refine ka rfl (.inr rfl) Fx.go126 (Evc rfl (Evc rfl (Evc rfl (Evc rfl (Evc rfl Evn))))) (mtk1 .here) (ih.ok _ (PM.le.refl _) (P++(A.take s++B.take (h-s))) (A.drop s) (B.drop (h-s)) R _ _ _ _ (by first|omega|(simp only [qlB]<;>omega)) (by first|omega|(simp only [qlB]<;>omega)) (by first|omega|(simp only [qlB]<;>omega)) (by first|omega|(simp only [qlB]<;>omega)) (by first|omega|(simp only [qlB]<;>omega)) (by first|omega|(simp only [qlB]<;>omega)) (srt_parts sA s).2.1 (srt_parts sB (h-s)).2.1 (fun x hx y hy=>ht x (List.mem_of_mem_drop hx) y (List.mem_of_mem_drop hy)) (by simp only [ms,List.map_append,List.append_assoc]) (by rw [ms_len]; simp only [qlB]; omega)) ?_
   rintro _ G219 μ219 hG219 ⟨S219,p219,s219,rfl,rfl⟩
   have l219:=p219.length_eq; simp only [qlB] at l219
   have hcm:=hcm.mono hG219
   have ih:=ih.mono hG219
   refine .nil (.nil (We.fin Tryz.results126 .nil (mS .here rfl mN) ?_))
   have hq1:s≤h:=by omega
   obtain ⟨a1,a2,_⟩:=srt_parts sA s
   obtain ⟨b1,b2,_⟩:=srt_parts sB (h-s)
   have p1:=List.Perm.refl (A.take s++B.take (h-s))
   have s1:=half_srt a1 b1 (by simp only [List.length_take]; omega)
   have p2:=p219; have s2:=s219
   obtain ⟨q1,q2⟩:=sym_fin hcut p1 s1 p2 s2
   exact ⟨_,q1,q2,by simp only [ms,List.map_append,List.append_assoc],rfl⟩
  have c18k:=c18
  try simp only [qcA,qcC,qcB] at c18
  refine .skip (.nil (We.fin Tryz.results126 .nil (mS .here rfl mN) ?_))
  have hq1:s≤h:=by omega
  obtain ⟨a1,a2,_⟩:=srt_parts sA s
  obtain ⟨b1,b2,_⟩:=srt_parts sB (h-s)
  have p1:=List.Perm.refl (A.take s++B.take (h-s))
  have s1:=half_srt a1 b1 (by simp only [List.length_take]; omega)
  have p2:=List.Perm.refl (A.drop s++B.drop (h-s))
  have s2:=half_srt a2 b2 (by simp only [List.length_drop]; omega)
  obtain ⟨q1,q2⟩:=sym_fin hcut p1 s1 p2 s2
  exact ⟨_,q1,q2,by simp only [ms,List.map_append,List.append_assoc],rfl⟩
 have c9k:=c9
 try simp only [qcA,qcC,qcB] at c9
 refine .seq (rq2 rfl rfl (mV rfl rfl (aS rfl rfl (.nil (.code (rq2 rfl rfl (mV rfl rfl (aS rfl rfl (.nil (.code (.seq (rq3 rfl rfl (mV rfl rfl (arn (((P.length+h+(P.length+A.length)-1):Nat):Int) rfl .no (.u rfl) (.u rfl) rfl (fun _=>by omega) (fun _=>wrap_i64 (by omega) (by omega)) ?_))))))))))))))
 refine aS rfl rfl (.nil (.code (.seq (.block ?_))))
 refine Wk.lop (α:=Nat×Nat) (fun gh=>[(20,true,.int .i64 ((P.length+gh.1:Nat):Int)),(21,true,.int .i64 ((P.length+gh.2:Nat):Int))]) (fun _=>[])
  (fun gh Gl=>(h-B.length≤gh.1)∧(gh.1≤gh.2)∧(gh.2≤h)∧(gh.2≤A.length)∧(gh.1=h-B.length∨TL (ltv cv) (A.getD (gh.1-1) z0) (B.getD (h-gh.1) z0))∧((gh.2=h∨gh.2=A.length)∨TL (ltv cv) (B.getD (h-1-gh.2) z0) (A.getD gh.2 z0))) (fun gh=>gh.2-gh.1) (0,A.length) [(0,true,_),(1,true,_),(2,true,_),(3,true,_),(4,true,_),(18,true,_),(19,true,_),(22,true,_)] [_]
  (esC rfl (evi (by first|rfl|omega|(dsimp only; omega))) (esC rfl (evi (by first|rfl|omega|(dsimp only; omega))) (esD rfl (esD rfl (esD rfl (esD rfl (esD rfl (esD rfl (esD rfl (esD rfl eZ))))))))))
  (mS .here rfl mN) ?_ ?_
 ·refine ⟨?_,?_,?_,?_,?_,?_⟩
  ·(try dsimp only)<;>(first|omega|rfl|assumption|(simp; done))
  ·(try dsimp only)<;>(first|omega|rfl|assumption|(simp; done))
  ·(try dsimp only)<;>(first|omega|rfl|assumption|(simp; done))
  ·(try dsimp only)<;>(first|omega|rfl|assumption|(simp; done))
  ·(try dsimp only)<;>(exact .inl (by omega))
  (try dsimp only)<;>(exact .inl (by omega))
 intro gh N5 Gl5 hN5 hGl5 hF5
 obtain ⟨s,r⟩:=gh; dsimp only at hF5 hN5 ⊢
 obtain ⟨h1,h2,h3,h4,f1,f2⟩:=hF5
 have hcm:=hcm.mono hGl5
 have ih:=ih.mono hGl5
 refine .seq (.seq (rq3 rfl rfl (mV rfl rfl (mV rfl rfl (cp rfl .no (.u rfl) (.u rfl) rfl (.nil (.code (.cond rfl (fun c19=>?_) (fun c19=>?_)))))))))
 ·have c19k:=c19
  try simp only [qcA,qcC,qcB] at c19
  refine .skip (.code (.block (.seq (rq7 rfl rfl (mV rfl rfl (mV rfl rfl (arn (((((P.length+s:Nat))+((P.length+r:Nat))):Nat):Int) rfl .no (.u rfl) (.u rfl) rfl (fun _=>by omega) (fun _=>wrap_i64 (by omega) (by omega)) ?_)))))))
  refine cw rfl .no FxVeSc.cv3_84 (.u rfl) (fun _=>wrap_u64 (by omega) (by omega)) ?_
  refine sr1 ((((P.length+s:Nat))+((P.length+r:Nat)))) rfl .no (.u rfl) (.u rfl) (by first|rfl|omega) rfl (by decide) ?_
  refine cw rfl .no FxVeSc.cv84_3 (.u rfl) (fun _=>wrap_i64 (by omega) (by omega)) ?_
  refine aS rfl rfl (.nil (.code (.seq ?_)))
  obtain ⟨d,hd⟩ : ∃ d,((P.length+s)+(P.length+r)) / 2=P.length+d:=⟨(s+r) / 2,by omega⟩
  have hdq:s≤d∧d<r:=by omega
  rw [hd]
  have hg:=seg_a (P:=P) (A:=A) (B:=B) (R:=R) (i:=d) (by omega)
  have hg0:=seg_b (P:=P) (A:=A) (B:=B) (R:=R) (i:=h-1-d) (by omega)
  refine wk_rv .here (by omega) ?_; intro bbR capR evR lcR; subst evR
  refine Wk.draw (mc:=⟨false,false⟩) [0,1,2,3,4,5,6,7,8,9,10,11,12,13] FxVeSa.mix (by kernel_rfl) ?_
  refine mV rfl rfl (mV rfl rfl (mV rfl rfl (mV rfl rfl (arn (((P.length+A.length+(h-1-d)):Nat):Int) rfl .no (.u rfl) (.u rfl) rfl (fun _=>by omega) (fun _=>wrap_i64 (by omega) (by omega)) ?_))))
  refine ia rfl .no FxVeSa.se29 (.u rfl) (.u rfl) (fun _=>by omega) (fun _=>by omega) ?_
  refine lA rfl .no FxVeSa.ag98 (.u rfl) (fun _=>RdN.rowS .here (fun _ _=>Meta.len _) (gd_at (z:=Meta.zero) (k:=(P.length+A.length+(h-1-d))) (by omega)) (by omega)) (fun _=>Meta.len _) ?_
  refine mV rfl rfl (mV rfl rfl (ia rfl .no FxVeSa.se29 (.u rfl) (.u rfl) (fun _=>by omega) (fun _=>by omega) ?_))
  refine lA rfl .no FxVeSa.ag98 (.u rfl) (fun _=>RdN.rowS .here (fun _ _=>Meta.len _) (gd_at (z:=Meta.zero) (k:=(P.length+d)) (by omega)) (by omega)) (fun _=>Meta.len _) ?_
  refine kf rfl .no (.u rfl) hf (Evc rfl (Evc rfl Evn)) (fun _=>hcm.ok _ (PM.le.refl _) _ _) ?_
  refine cp rfl .no (.u rfl) (.u rfl) rfl (nt rfl .no (.u rfl) (.nil (.code (.cond rfl (fun c20=>?_) (fun c20=>?_)))))
  ·have c20k:=c20
   try simp only [qcA,qcC,qcB] at c20
   have hyes:=ab_fore hw ht (i:=d) (j:=h-1-d) (by omega) (by omega) (by rw [← hg,←hg0]; assumption)
   refine rq3 rfl rfl (mV rfl rfl (arn ((((P.length+d)+1):Nat):Int) rfl .no (.u rfl) (.u rfl) rfl (fun _=>by omega) (fun _=>wrap_i64 (by omega) (by omega)) ?_))
   refine aS rfl rfl (.nil (.blk (We.lpo (d+1,r) ?_ ?_ ?_ ?_ ?_)))
   ·exact (esC rfl (evi (by first|rfl|omega|(dsimp only; omega))) (esC rfl (evi (by first|rfl|omega|(dsimp only; omega))) (esD rfl (esD rfl (esD rfl (esD rfl (esD rfl (esD rfl (esD rfl (esD rfl eZ))))))))))
   ·exact (mS .here rfl mN)
   ·first|omega|(dsimp only; omega)
   ·exact hGl5
   refine ⟨?_,?_,?_,?_,?_,?_⟩
   ·(try dsimp only)<;>(first|omega|rfl|assumption|(simp; done))
   ·(try dsimp only)<;>(first|omega|rfl|assumption|(simp; done))
   ·(try dsimp only)<;>(first|omega|rfl|assumption|(simp; done))
   ·(try dsimp only)<;>(first|omega|rfl|assumption|(simp; done))
   ·(try dsimp only)<;>(exact .inr (by rw [show d+1-1=d by omega,show h-(d+1)=h-1-d by omega]; exact hyes))
   (try dsimp only)<;>(exact f2)
  have c20k:=c20
  try simp only [qcA,qcC,qcB] at c20
  have hno:=ab_back hw ht (i:=d) (j:=h-1-d) (by omega) (by omega) (by rw [← hg,←hg0]; assumption)
  refine rq2 rfl rfl (mV rfl rfl (aS rfl rfl (.nil (.blk (We.lpo (s,d) ?_ ?_ ?_ ?_ ?_)))))
  ·exact (esC rfl (evi (by first|rfl|omega|(dsimp only; omega))) (esC rfl (evi (by first|rfl|omega|(dsimp only; omega))) (esD rfl (esD rfl (esD rfl (esD rfl (esD rfl (esD rfl (esD rfl (esD rfl eZ))))))))))
  ·exact (mS .here rfl mN)
  ·first|omega|(dsimp only; omega)
  ·exact hGl5
  refine ⟨?_,?_,?_,?_,?_,?_⟩
  ·(try dsimp only)<;>(first|omega|rfl|assumption|(simp; done))
  ·(try dsimp only)<;>(first|omega|rfl|assumption|(simp; done))
  ·(try dsimp only)<;>(first|omega|rfl|assumption|(simp; done))
  ·(try dsimp only)<;>(first|omega|rfl|assumption|(simp; done))
  ·(try dsimp only)<;>(exact f1)
  (try dsimp only)<;>(exact .inr hno)
 have c19k:=c19
 try simp only [qcA,qcC,qcB] at c19
 refine .exit (.xcode (.xlp (.xblk (.code (.seq ?_)))))
 obtain rfl:s=r:=by omega
 have hcut:=sym_cut hw sA sB h1 h3 h4 f1 f2
 refine rq4 rfl rfl (mV rfl rfl (mV rfl rfl (arn (((P.length+A.length+(h-s)):Nat):Int) rfl .no (.u rfl) (.u rfl) rfl (fun _=>by omega) (fun _=>wrap_i64 (by omega) (by omega)) ?_)))
 refine aS rfl rfl (.nil (.code (.seq (.seq (rq8 rfl rfl (mV rfl rfl (mV rfl rfl (cp rfl .no (.u rfl) (.u rfl) rfl (mV rfl rfl (mv rfl (.t rfl rfl) (.u rfl) (mv rfl (.t rfl rfl) (.u rfl) (cp rfl (.t rfl rfl) (.s rfl) (.s rfl) rfl (pkA rfl .no (.u rfl) (.s rfl) (.nil (.code (.cond rfl (fun c21=>?_) (fun c21=>?_)))))))))))))))))
 ·have c21k:=c21
  try simp only [qcA,qcC,qcB] at c21
  refine rq6 rfl rfl (mV rfl rfl (mV rfl rfl (mV rfl rfl (mV rfl rfl (mV rfl rfl (ka rfl (.inr rfl) Fx.go139 (Evc rfl (Evc rfl (Evc rfl (Evc rfl (Evc rfl Evn))))) (mtk1 .here) (rotM_ok (ms (P++A.take s)) (ms (A.drop s)) (ms (B.take (h-s))) (ms (B.drop (h-s)++R)) _ _ _ _ _ _ (by simp only [ms_len,qlB]; omega) (by simp only [ms_len,qlB]; omega) (by simp only [ms_len,qlB]; omega) (by simp only [ms_len,qlB]; omega) (by simp only [ms_len,qlB]; omega) _ sym_in (by rw [hlen]; omega)) ?_))))))
  rintro _ G191 μ191 hG191 ⟨rfl,rfl⟩
  have ih:=ih.mono hG191
  refine .nil (.code (.seq (.seq ?_)))
  rw [sym_rot (P:=P) (A:=A) (B:=B) (R:=R) (s:=s) (q:=h-s)]
  refine rq8 rfl rfl (mV rfl rfl (mV rfl rfl (cp rfl .no (.u rfl) (.u rfl) rfl (mV rfl rfl (mv rfl (.t rfl rfl) (.u rfl) (mv rfl (.t rfl rfl) (.u rfl) (cp rfl (.t rfl rfl) (.s rfl) (.s rfl) rfl (pkA rfl .no (.u rfl) (.s rfl) (.nil (.code (.cond rfl (fun c22=>?_) (fun c22=>?_))))))))))))
  ·have c22k:=c22
   try simp only [qcA,qcC,qcB] at c22
   refine rq6 rfl rfl (mV rfl rfl (mV rfl rfl (mV rfl rfl (mV rfl rfl (mV rfl rfl ?_)))))
   refine ka rfl (.inr rfl) Fx.go126 (Evc rfl (Evc rfl (Evc rfl (Evc rfl (Evc rfl Evn))))) (mtk1 .here) (ih.ok _ (PM.le.refl _) P (A.take s) (B.take (h-s)) (A.drop s++B.drop (h-s)++R) _ _ _ _ (by first|omega|(simp only [qlB]<;>omega)) (by first|omega|(simp only [qlB]<;>omega)) (by first|omega|(simp only [qlB]<;>omega)) (by first|omega|(simp only [qlB]<;>omega)) (by first|omega|(simp only [qlB]<;>omega)) (by first|omega|(simp only [qlB]<;>omega)) (srt_parts sA s).1 (srt_parts sB (h-s)).1 (fun x hx y hy=>ht x (List.mem_of_mem_take hx) y (List.mem_of_mem_take hy)) (by simp only [ms,List.map_append,List.append_assoc]) (by rw [ms_len]; simp only [qlB]; omega)) ?_
   rintro _ G205 μ205 hG205 ⟨S205,p205,s205,rfl,rfl⟩
   have l205:=p205.length_eq; simp only [qlB] at l205
   have ih:=ih.mono hG205
   refine .nil (.code (.seq (rq8 rfl rfl (mV rfl rfl (mV rfl rfl (cp rfl .no (.u rfl) (.u rfl) rfl (mV rfl rfl (mv rfl (.t rfl rfl) (.u rfl) (mv rfl (.t rfl rfl) (.u rfl) (cp rfl (.t rfl rfl) (.s rfl) (.s rfl) rfl (pkA rfl .no (.u rfl) (.s rfl) (.nil (.code (.cond rfl (fun c23=>?_) (fun c23=>?_)))))))))))))))
   ·have c23k:=c23
    try simp only [qcA,qcC,qcB] at c23
    refine rq6 rfl rfl (mV rfl rfl (mV rfl rfl (mV rfl rfl (mV rfl rfl (mV rfl rfl ?_)))))
    refine ka rfl (.inr rfl) Fx.go126 (Evc rfl (Evc rfl (Evc rfl (Evc rfl (Evc rfl Evn))))) (mtk1 .here) (ih.ok _ (PM.le.refl _) (P++S205) (A.drop s) (B.drop (h-s)) R _ _ _ _ (by first|omega|(simp only [qlB]<;>omega)) (by first|omega|(simp only [qlB]<;>omega)) (by first|omega|(simp only [qlB]<;>omega)) (by first|omega|(simp only [qlB]<;>omega)) (by first|omega|(simp only [qlB]<;>omega)) (by first|omega|(simp only [qlB]<;>omega)) (srt_parts sA s).2.1 (srt_parts sB (h-s)).2.1 (fun x hx y hy=>ht x (List.mem_of_mem_drop hx) y (List.mem_of_mem_drop hy)) (by simp only [ms,List.map_append,List.append_assoc]) (by rw [ms_len]; simp only [qlB]; omega)) ?_
    rintro _ G219 μ219 hG219 ⟨S219,p219,s219,rfl,rfl⟩
    have l219:=p219.length_eq; simp only [qlB] at l219
    have ih:=ih.mono hG219
    refine .nil (.nil (We.fin Tryz.results126 .nil (mS .here rfl mN) ?_))
    have hq1:s≤h:=by omega
    obtain ⟨a1,a2,_⟩:=srt_parts sA s
    obtain ⟨b1,b2,_⟩:=srt_parts sB (h-s)
    have p1:=p205; have s1:=s205
    have p2:=p219; have s2:=s219
    obtain ⟨q1,q2⟩:=sym_fin hcut p1 s1 p2 s2
    exact ⟨_,q1,q2,by simp only [ms,List.map_append,List.append_assoc],rfl⟩
   have c23k:=c23
   try simp only [qcA,qcC,qcB] at c23
   refine .skip (.nil (We.fin Tryz.results126 .nil (mS .here rfl mN) ?_))
   have hq1:s≤h:=by omega
   obtain ⟨a1,a2,_⟩:=srt_parts sA s
   obtain ⟨b1,b2,_⟩:=srt_parts sB (h-s)
   have p1:=p205; have s1:=s205
   have p2:=List.Perm.refl (A.drop s++B.drop (h-s))
   have s2:=half_srt a2 b2 (by simp only [List.length_drop]; omega)
   obtain ⟨q1,q2⟩:=sym_fin hcut p1 s1 p2 s2
   exact ⟨_,q1,q2,by simp only [ms,List.map_append,List.append_assoc],rfl⟩
  have c22k:=c22
  try simp only [qcA,qcC,qcB] at c22
  refine .skip (.code (.seq (rq8 rfl rfl (mV rfl rfl (mV rfl rfl (cp rfl .no (.u rfl) (.u rfl) rfl (mV rfl rfl (mv rfl (.t rfl rfl) (.u rfl) (mv rfl (.t rfl rfl) (.u rfl) (cp rfl (.t rfl rfl) (.s rfl) (.s rfl) rfl (pkA rfl .no (.u rfl) (.s rfl) (.nil (.code (.cond rfl (fun c24=>?_) (fun c24=>?_)))))))))))))))
  ·have c24k:=c24
   try simp only [qcA,qcC,qcB] at c24
   refine rq6 rfl rfl (mV rfl rfl (mV rfl rfl (mV rfl rfl (mV rfl rfl (mV rfl rfl ?_)))))
   refine ka rfl (.inr rfl) Fx.go126 (Evc rfl (Evc rfl (Evc rfl (Evc rfl (Evc rfl Evn))))) (mtk1 .here) (ih.ok _ (PM.le.refl _) (P++(A.take s++B.take (h-s))) (A.drop s) (B.drop (h-s)) R _ _ _ _ (by first|omega|(simp only [qlB]<;>omega)) (by first|omega|(simp only [qlB]<;>omega)) (by first|omega|(simp only [qlB]<;>omega)) (by first|omega|(simp only [qlB]<;>omega)) (by first|omega|(simp only [qlB]<;>omega)) (by first|omega|(simp only [qlB]<;>omega)) (srt_parts sA s).2.1 (srt_parts sB (h-s)).2.1 (fun x hx y hy=>ht x (List.mem_of_mem_drop hx) y (List.mem_of_mem_drop hy)) (by simp only [ms,List.map_append,List.append_assoc]) (by rw [ms_len]; simp only [qlB]; omega)) ?_
   rintro _ G219 μ219 hG219 ⟨S219,p219,s219,rfl,rfl⟩
   have l219:=p219.length_eq; simp only [qlB] at l219
   have ih:=ih.mono hG219
   refine .nil (.nil (We.fin Tryz.results126 .nil (mS .here rfl mN) ?_))
   have hq1:s≤h:=by omega
   obtain ⟨a1,a2,_⟩:=srt_parts sA s
   obtain ⟨b1,b2,_⟩:=srt_parts sB (h-s)
   have p1:=List.Perm.refl (A.take s++B.take (h-s))
   have s1:=half_srt a1 b1 (by simp only [List.length_take]; omega)
   have p2:=p219; have s2:=s219
   obtain ⟨q1,q2⟩:=sym_fin hcut p1 s1 p2 s2
   exact ⟨_,q1,q2,by simp only [ms,List.map_append,List.append_assoc],rfl⟩
  have c24k:=c24
  try simp only [qcA,qcC,qcB] at c24
  refine .skip (.nil (We.fin Tryz.results126 .nil (mS .here rfl mN) ?_))
  have hq1:s≤h:=by omega
  obtain ⟨a1,a2,_⟩:=srt_parts sA s
  obtain ⟨b1,b2,_⟩:=srt_parts sB (h-s)
  have p1:=List.Perm.refl (A.take s++B.take (h-s))
  have s1:=half_srt a1 b1 (by simp only [List.length_take]; omega)
  have p2:=List.Perm.refl (A.drop s++B.drop (h-s))
  have s2:=half_srt a2 b2 (by simp only [List.length_drop]; omega)
  obtain ⟨q1,q2⟩:=sym_fin hcut p1 s1 p2 s2
  exact ⟨_,q1,q2,by simp only [ms,List.map_append,List.append_assoc],rfl⟩
 have c21k:=c21
 try simp only [qcA,qcC,qcB] at c21
 refine .skip (.code (.seq (.seq ?_)))
 rw [sym_norot (P:=P) (A:=A) (B:=B) (R:=R) (s:=s) (q:=h-s) (by omega)]
 refine rq8 rfl rfl (mV rfl rfl (mV rfl rfl (cp rfl .no (.u rfl) (.u rfl) rfl (mV rfl rfl (mv rfl (.t rfl rfl) (.u rfl) (mv rfl (.t rfl rfl) (.u rfl) (cp rfl (.t rfl rfl) (.s rfl) (.s rfl) rfl (pkA rfl .no (.u rfl) (.s rfl) (.nil (.code (.cond rfl (fun c25=>?_) (fun c25=>?_))))))))))))
 ·have c25k:=c25
  try simp only [qcA,qcC,qcB] at c25
  refine rq6 rfl rfl (mV rfl rfl (mV rfl rfl (mV rfl rfl (mV rfl rfl (mV rfl rfl ?_)))))
  refine ka rfl (.inr rfl) Fx.go126 (Evc rfl (Evc rfl (Evc rfl (Evc rfl (Evc rfl Evn))))) (mtk1 .here) (ih.ok _ (PM.le.refl _) P (A.take s) (B.take (h-s)) (A.drop s++B.drop (h-s)++R) _ _ _ _ (by first|omega|(simp only [qlB]<;>omega)) (by first|omega|(simp only [qlB]<;>omega)) (by first|omega|(simp only [qlB]<;>omega)) (by first|omega|(simp only [qlB]<;>omega)) (by first|omega|(simp only [qlB]<;>omega)) (by first|omega|(simp only [qlB]<;>omega)) (srt_parts sA s).1 (srt_parts sB (h-s)).1 (fun x hx y hy=>ht x (List.mem_of_mem_take hx) y (List.mem_of_mem_take hy)) (by simp only [ms,List.map_append,List.append_assoc]) (by rw [ms_len]; simp only [qlB]; omega)) ?_
  rintro _ G205 μ205 hG205 ⟨S205,p205,s205,rfl,rfl⟩
  have l205:=p205.length_eq; simp only [qlB] at l205
  have ih:=ih.mono hG205
  refine .nil (.code (.seq (rq8 rfl rfl (mV rfl rfl (mV rfl rfl (cp rfl .no (.u rfl) (.u rfl) rfl (mV rfl rfl (mv rfl (.t rfl rfl) (.u rfl) (mv rfl (.t rfl rfl) (.u rfl) (cp rfl (.t rfl rfl) (.s rfl) (.s rfl) rfl (pkA rfl .no (.u rfl) (.s rfl) (.nil (.code (.cond rfl (fun c26=>?_) (fun c26=>?_)))))))))))))))
  ·have c26k:=c26
   try simp only [qcA,qcC,qcB] at c26
   refine rq6 rfl rfl (mV rfl rfl (mV rfl rfl (mV rfl rfl (mV rfl rfl (mV rfl rfl ?_)))))
   refine ka rfl (.inr rfl) Fx.go126 (Evc rfl (Evc rfl (Evc rfl (Evc rfl (Evc rfl Evn))))) (mtk1 .here) (ih.ok _ (PM.le.refl _) (P++S205) (A.drop s) (B.drop (h-s)) R _ _ _ _ (by first|omega|(simp only [qlB]<;>omega)) (by first|omega|(simp only [qlB]<;>omega)) (by first|omega|(simp only [qlB]<;>omega)) (by first|omega|(simp only [qlB]<;>omega)) (by first|omega|(simp only [qlB]<;>omega)) (by first|omega|(simp only [qlB]<;>omega)) (srt_parts sA s).2.1 (srt_parts sB (h-s)).2.1 (fun x hx y hy=>ht x (List.mem_of_mem_drop hx) y (List.mem_of_mem_drop hy)) (by simp only [ms,List.map_append,List.append_assoc]) (by rw [ms_len]; simp only [qlB]; omega)) ?_
   rintro _ G219 μ219 hG219 ⟨S219,p219,s219,rfl,rfl⟩
   have l219:=p219.length_eq; simp only [qlB] at l219
   have ih:=ih.mono hG219
   refine .nil (.nil (We.fin Tryz.results126 .nil (mS .here rfl mN) ?_))
   have hq1:s≤h:=by omega
   obtain ⟨a1,a2,_⟩:=srt_parts sA s
   obtain ⟨b1,b2,_⟩:=srt_parts sB (h-s)
   have p1:=p205; have s1:=s205
   have p2:=p219; have s2:=s219
   obtain ⟨q1,q2⟩:=sym_fin hcut p1 s1 p2 s2
   exact ⟨_,q1,q2,by simp only [ms,List.map_append,List.append_assoc],rfl⟩
  have c26k:=c26
  try simp only [qcA,qcC,qcB] at c26
  refine .skip (.nil (We.fin Tryz.results126 .nil (mS .here rfl mN) ?_))
  have hq1:s≤h:=by omega
  obtain ⟨a1,a2,_⟩:=srt_parts sA s
  obtain ⟨b1,b2,_⟩:=srt_parts sB (h-s)
  have p1:=p205; have s1:=s205
  have p2:=List.Perm.refl (A.drop s++B.drop (h-s))
  have s2:=half_srt a2 b2 (by simp only [List.length_drop]; omega)
  obtain ⟨q1,q2⟩:=sym_fin hcut p1 s1 p2 s2
  exact ⟨_,q1,q2,by simp only [ms,List.map_append,List.append_assoc],rfl⟩
 have c25k:=c25
 try simp only [qcA,qcC,qcB] at c25
 refine .skip (.code (.seq (rq8 rfl rfl (mV rfl rfl (mV rfl rfl (cp rfl .no (.u rfl) (.u rfl) rfl (mV rfl rfl (mv rfl (.t rfl rfl) (.u rfl) (mv rfl (.t rfl rfl) (.u rfl) (cp rfl (.t rfl rfl) (.s rfl) (.s rfl) rfl (pkA rfl .no (.u rfl) (.s rfl) (.nil (.code (.cond rfl (fun c27=>?_) (fun c27=>?_)))))))))))))))
 ·have c27k:=c27
  try simp only [qcA,qcC,qcB] at c27
  refine rq6 rfl rfl (mV rfl rfl (mV rfl rfl (mV rfl rfl (mV rfl rfl (mV rfl rfl ?_)))))
  refine ka rfl (.inr rfl) Fx.go126 (Evc rfl (Evc rfl (Evc rfl (Evc rfl (Evc rfl Evn))))) (mtk1 .here) (ih.ok _ (PM.le.refl _) (P++(A.take s++B.take (h-s))) (A.drop s) (B.drop (h-s)) R _ _ _ _ (by first|omega|(simp only [qlB]<;>omega)) (by first|omega|(simp only [qlB]<;>omega)) (by first|omega|(simp only [qlB]<;>omega)) (by first|omega|(simp only [qlB]<;>omega)) (by first|omega|(simp only [qlB]<;>omega)) (by first|omega|(simp only [qlB]<;>omega)) (srt_parts sA s).2.1 (srt_parts sB (h-s)).2.1 (fun x hx y hy=>ht x (List.mem_of_mem_drop hx) y (List.mem_of_mem_drop hy)) (by simp only [ms,List.map_append,List.append_assoc]) (by rw [ms_len]; simp only [qlB]; omega)) ?_
  rintro _ G219 μ219 hG219 ⟨S219,p219,s219,rfl,rfl⟩
  have l219:=p219.length_eq; simp only [qlB] at l219
  refine .nil (.nil (We.fin Tryz.results126 .nil (mS .here rfl mN) ?_))
  have hq1:s≤h:=by omega
  obtain ⟨a1,a2,_⟩:=srt_parts sA s
  obtain ⟨b1,b2,_⟩:=srt_parts sB (h-s)
  have p1:=List.Perm.refl (A.take s++B.take (h-s))
  have s1:=half_srt a1 b1 (by simp only [List.length_take]; omega)
  have p2:=p219; have s2:=s219
  obtain ⟨q1,q2⟩:=sym_fin hcut p1 s1 p2 s2
  exact ⟨_,q1,q2,by simp only [ms,List.map_append,List.append_assoc],rfl⟩
 have c27k:=c27
 try simp only [qcA,qcC,qcB] at c27
 refine .skip (.nil (We.fin Tryz.results126 .nil (mS .here rfl mN) ?_))
 have hq1:s≤h:=by omega
 obtain ⟨a1,a2,_⟩:=srt_parts sA s
 obtain ⟨b1,b2,_⟩:=srt_parts sB (h-s)
 have p1:=List.Perm.refl (A.take s++B.take (h-s))
 have s1:=half_srt a1 b1 (by simp only [List.length_take]; omega)
 have p2:=List.Perm.refl (A.drop s++B.drop (h-s))
 have s2:=half_srt a2 b2 (by simp only [List.length_drop]; omega)
 obtain ⟨q1,q2⟩:=sym_fin hcut p1 s1 p2 s2
 exact ⟨_,q1,q2,by simp only [ms,List.map_append,List.append_assoc],rfl⟩
namespace FxVeSd
theorem sn29:(slE Tryz.prog 29).isSome=true:=by kernel_rfl
end FxVeSd
namespace Fx
theorem go125:goFn Tryz.prog 125=true:=by kernel_rfl
theorem go99:goFn Tryz.prog 99=true:=by kernel_rfl
end Fx
theorem symI {v:Value} {f:Nat} {vc:List Value} {cv:Meta→Meta→Int} {G:PM} (hf:goFn Tryz.prog f=true) (hcm:CmpR Tryz.prog f vc cv G) (hw:Wk0 (ltv cv)):∀ N,SymI v f vc cv N G
 | 0=>⟨fun G' hle P A B R a m b xs hN=>absurd hN (Nat.not_lt_zero _)⟩
 | N+1=>⟨fun G' hle P A B R a m b xs hN ha hm hb hA hB sA sB ht hx hl =>
   symM_step P A B R v a m b f hf vc cv G' (hcm.mono hle) hw ha hm hb hA hB sA sB ht xs hx hl ⟨fun G2 h2 P' A' B' R' a' m' b' xs' hN'=>(symI hf hcm hw N).ok G2 (hle.trans h2) P' A' B' R' a' m' b' xs' (by omega)⟩⟩
theorem symM_ok (P A B R:List TM) (v:Value) (a m b:Int) (f:Nat) (hf:goFn Tryz.prog f=true) (vc:List Value) (cv:Meta→Meta→Int) (G:PM) (hcm:CmpR Tryz.prog f vc cv G) (hw:Wk0 (ltv cv)) (ha:a=P.length) (hm:m=((P.length+A.length:Nat):Int)) (hb:b=((P.length+A.length+B.length:Nat):Int)) (hA:0<A.length) (hB:0<B.length) (sA:Srt (ltv cv) A) (sB:Srt (ltv cv) B) (ht:∀ x∈A,∀ y∈B,x.2<y.2) (xs:List Meta) (hx:xs=ms (P++A++B++R)) (hl:xs.length≤1000000000) :
  Ct Tryz.prog 126 #[v,.int .i64 a,.int .i64 m,.int .i64 b,.func (.func f) #[] vc.toArray] G [rS 40 Meta.cells v 98 xs] (fun _ μ' u=>∃ S',S'.Perm (A++B)∧Srt (ltv cv) S'∧μ'=[rS 40 Meta.cells v 98 (ms (P++S'++R))]∧u=.tuple #[]):=(symI hf hcm hw (A.length+B.length+1)).ok G (PM.le.refl G) P A B R a m b xs (by omega) ha hm hb hA hB sA sB ht hx hl
set_option maxHeartbeats 1000000 in
theorem stb_ok (xs:List Meta) (v:Value) (n:Int) (f:Nat) (hf:goFn Tryz.prog f=true) (vc:List Value) (cv:Meta→Meta→Int) (G:PM) (hcm:CmpR Tryz.prog f vc cv G) (hw:Wk0 (ltv cv)) (hn:n=xs.length) (hl:xs.length≤500000000):Ct Tryz.prog 99 ([v,.int .i64 n,.func (.func f) #[] vc.toArray]:List Value).toArray G [rS 40 Meta.cells v 98 xs] (fun _ μ' u=>μ'=[rS 40 Meta.cells v 98 (sortS (ltv cv) xs)]∧u=.tuple #[]):=by
 refine Ct.of Tryz.func99 rfl Tryz.ntmps99 rfl fun w0 hs0=>?_
 subst hn; have hT0:=tags_srt xs; have hT0l:(xs.zipIdx 0).length=xs.length:=List.length_zipIdx
 refine .seq (rq1 rfl rfl (aS rfl rfl (.nil (.code (.seq (rq3 rfl rfl (mV rfl rfl (aS rfl rfl (aS rfl rfl (.nil (.code (.seq (.block ?_)))))))))))))
 refine Wk.lop (α:=List TM×List TM×List TM) (fun gh=>[(7,true,.int .i64 (gh.1.length:Int)),(8,true,.int .i64 ((gh.1.length+20:Nat):Int))]) (fun gh=>[rS 40 Meta.cells v 98 (ms (gh.1++gh.2.2))])
  (fun gh Gl=>(∀ r ro,Ck (ltv cv) 20 r ro→Ck (ltv cv) 20 (gh.1++r) (gh.2.1++ro))∧(gh.2.1++gh.2.2=(xs.zipIdx 0))∧(gh.1.length=gh.2.1.length)) (fun gh=>gh.2.2.length) ([],[],(xs.zipIdx 0)) [(0,true,_),(1,true,_),(2,true,_),(6,true,_)] []
  (esC rfl (by first|rfl|exact evi (by omega)) (esC rfl (by first|rfl|exact evi (by omega)) (esD rfl (esD rfl (esD rfl (esD rfl eZ))))))
  (mS .here (by rw [List.nil_append,ms_tags]) mN) ?_ ?_
 ·refine ⟨?_,?_,?_⟩
  ·(try dsimp only)<;>(exact fun r ro h=>h)
  ·(try dsimp only)<;>(rfl)
  (try dsimp only)<;>(rfl)
 intro gh N0 Gl0 hN0 hGl0 hF0
 obtain ⟨D,DO,T⟩:=gh; dsimp only at hF0 hN0 ⊢
 obtain ⟨hD,hT,hDl⟩:=hF0
 have hcm:=hcm.mono hGl0
 have hTl:=congrArg List.length hT; rw [List.length_append,hT0l] at hTl
 refine .seq (.seq (rq3 rfl rfl (mV rfl rfl (mV rfl rfl (cp rfl .no (.u rfl) (.u rfl) rfl (.nil (.code (.cond rfl (fun c1=>?_) (fun c1=>?_)))))))))
 ·have c1k:=c1
  try simp only [qcA,qcC,qcB] at c1
  refine .skip (.code (.block (.seq (rq5 rfl rfl (mV rfl rfl (mV rfl rfl (mV rfl rfl (mV rfl rfl ?_))))))))
  refine ka rfl (.inr rfl) Fx.go125 (Evc rfl (Evc rfl (Evc rfl (Evc rfl Evn)))) (mtk1 .here) (ins_ok D (T.take 20) (T.drop 20) _ _ _ f hf vc cv _ hcm hw (by first|omega|(simp only [qlB,ms_len,List.length_nil]<;>omega)) (by first|omega|(simp only [qlB,ms_len,List.length_nil]<;>omega)) (tag_sub (X:=DO) (Z:=T.drop 20) hT0 (by rw [List.take_append_drop]; exact hT)) _ (by rw [List.append_assoc,List.take_append_drop]) (by first|omega|(simp only [qlB,ms_len,List.length_nil]<;>omega))) ?_
  rintro _ G18 μ18 hG18 ⟨S',pS,sS,rfl,rfl⟩
  have lS:=pS.length_eq; (try simp only [List.length_take] at lS)
  have hcm:=hcm.mono hG18
  refine .nil (.code (.seq (rq2 rfl rfl (mV rfl rfl (aS rfl rfl (.nil (.code (rq4 rfl rfl (mV rfl rfl (mV rfl rfl (arn (((((D.length+20:Nat))+20):Nat):Int) rfl .no (.u rfl) (.u rfl) rfl (fun _=>by omega) (fun _=>wrap_i64 (by omega) (by omega)) ?_)))))))))))
  refine aS rfl rfl (.nil (.blk (We.lpo (D++S',DO++T.take 20,T.drop 20) ?_ ?_ ?_ ?_ ?_)))
  ·exact (esC rfl (evi (by first|omega|(simp only [qlB,ms_len,List.length_nil]<;>omega))) (esC rfl (evi (by first|omega|(simp only [qlB,ms_len,List.length_nil]<;>omega))) (esD rfl (esD rfl (esD rfl (esD rfl eZ))))))
  ·exact (mS .here rfl mN)
  ·exact (by first|omega|(simp only [qlB,ms_len,List.length_nil]<;>omega))
  ·exact (hGl0).trans hG18
  refine ⟨?_,?_,?_⟩
  ·(try dsimp only)<;>(exact fun r ro h=>by (rw [List.append_assoc,List.append_assoc]; exact hD _ _ (.cons (by omega) sS pS h)))
  ·(try dsimp only)<;>(rw [List.append_assoc,List.take_append_drop]; exact hT)
  (try dsimp only)<;>(exact (by first|omega|(simp only [qlB,ms_len,List.length_nil]<;>omega)))
 have c1k:=c1
 try simp only [qcA,qcC,qcB] at c1
 refine .exit (.xcode (.xlp (.xblk (.code (.seq (rq5 rfl rfl (mV rfl rfl (mV rfl rfl (mV rfl rfl (mV rfl rfl ?_))))))))))
 refine ka rfl (.inr rfl) Fx.go125 (Evc rfl (Evc rfl (Evc rfl (Evc rfl Evn)))) (mtk1 .here) (ins_ok D T [] _ _ _ f hf vc cv _ hcm hw (by first|omega|(simp only [qlB,ms_len,List.length_nil]<;>omega)) (by first|omega|(simp only [qlB,ms_len,List.length_nil]<;>omega)) (tag_sub (X:=DO) (Z:=[]) hT0 (by rw [List.append_nil]; exact hT)) _ (by rw [List.append_nil]) (by first|omega|(simp only [qlB,ms_len,List.length_nil]<;>omega))) ?_
 rintro _ G27 μ27 hG27 ⟨S',pS,sS,rfl,rfl⟩
 have lS:=pS.length_eq; (try simp only [List.length_take] at lS)
 have hcm:=hcm.mono hG27
 refine .nil (.code (.block ?_))
 have hCk:=hD S' T (.last (by omega) sS pS)
 rw [hT] at hCk
 rw [List.append_nil]
 have hW:=hCk.perm.length_eq
 rw [hT0l] at hW
 refine Wk.lop (α:=Nat×List TM) (fun gh=>[(6,true,.int .i64 (gh.1:Int))]) (fun gh=>[rS 40 Meta.cells v 98 (ms gh.2)])
  (fun gh Gl=>(0<gh.1)∧(gh.1≤20+2*xs.length)∧(Ck (ltv cv) gh.1 gh.2 (xs.zipIdx 0))) (fun gh=>xs.length-gh.1) (20,D++S') [(0,true,_),(1,true,_),(2,true,_)] []
  (esC rfl (by first|rfl|exact evi (by omega)) (esD rfl (esD rfl (esD rfl eZ))))
  (mS .here rfl mN) ?_ ?_
 ·refine ⟨?_,?_,?_⟩
  ·(try dsimp only)<;>(first|omega|rfl|assumption|(simp; done))
  ·(try dsimp only)<;>(first|omega|rfl|assumption|(simp; done))
  (try dsimp only)<;>(exact hCk)
 intro gh N1 Gl1 hN1 hGl1 hF1
 obtain ⟨bs,W⟩:=gh; dsimp only at hF1 hN1 ⊢
 obtain ⟨hb,hb2,hCk⟩:=hF1
 have hcm:=hcm.mono hGl1
 have hW:=hCk.perm.length_eq; rw [hT0l] at hW
 refine .seq (.seq (rq3 rfl rfl (mV rfl rfl (mV rfl rfl (cp rfl .no (.u rfl) (.u rfl) rfl (.nil (.code (.cond rfl (fun c2=>?_) (fun c2=>?_)))))))))
 ·have c2k:=c2
  try simp only [qcA,qcC,qcB] at c2
  refine .skip (.code (.block (.seq (rq4 rfl rfl (mV rfl rfl (arn (((bs+bs):Nat):Int) rfl .no (.u rfl) (.u rfl) rfl (fun _=>by omega) (fun _=>wrap_i64 (by omega) (by omega)) ?_))))))
  refine aS rfl rfl (aS rfl rfl (.nil (.code (.seq (.block ?_)))))
  refine Wk.lop (α:=List TM×List TM×List TM×List TM) (fun gh=>[(7,true,.int .i64 (gh.1.length:Int)),(8,true,.int .i64 ((gh.1.length+(bs+bs):Nat):Int))]) (fun gh=>[rS 40 Meta.cells v 98 (ms (gh.1++gh.2.2.1))])
   (fun gh Gl=>(∀ r ro,Ck (ltv cv) (bs+bs) r ro→Ck (ltv cv) (bs+bs) (gh.1++r) (gh.2.1++ro))∧(Ck (ltv cv) bs gh.2.2.1 gh.2.2.2)∧(gh.2.1++gh.2.2.2=(xs.zipIdx 0))∧(gh.1.length+gh.2.2.1.length=xs.length)) (fun gh=>gh.2.2.1.length) ([],[],W,(xs.zipIdx 0)) [(0,true,_),(1,true,_),(2,true,_),(6,true,_)] []
   (esD rfl (esC rfl (evi (by first|rfl|omega|(dsimp only; omega)|(simp only [List.length_nil]; omega))) (esD rfl (esD rfl (esD rfl (esD rfl eZ))))))
   (mS .here (by rw [List.nil_append]) mN) ?_ ?_
  ·refine ⟨?_,?_,?_,?_⟩
   ·(try dsimp only)<;>(exact fun r ro h=>h)
   ·(try dsimp only)<;>(exact hCk)
   ·(try dsimp only)<;>(rfl)
   (try dsimp only)<;>(exact (by first|omega|(simp only [qlB,ms_len,List.length_nil]<;>omega)))
  intro gh N2 Gl2 hN2 hGl2 hF2
  obtain ⟨D,DO,T,O⟩:=gh; dsimp only at hF2 hN2 ⊢
  obtain ⟨hD,hC,hO,hDT⟩:=hF2
  have hcm:=hcm.mono hGl2
  refine .seq (.seq (rq3 rfl rfl (mV rfl rfl (mV rfl rfl (cp rfl .no (.u rfl) (.u rfl) rfl (.nil (.code (.cond rfl (fun c3=>?_) (fun c3=>?_)))))))))
  ·have c3k:=c3
   try simp only [qcA,qcC,qcB] at c3
   refine .skip (.code (.block (.seq ?_)))
   obtain ⟨s1,s2,o1,o2,T1,O1,rfl,rfl,l1,l2,l3,l4,hs1,hs2,hp1,hp2,hC1⟩:=hC.two hb (by omega)
   simp only [List.length_append] at hDT
   refine rq8 rfl rfl (mV rfl rfl (mV rfl rfl (mV rfl rfl (mV rfl rfl (arn (((D.length+bs):Nat):Int) rfl .no (.u rfl) (.u rfl) rfl (fun _=>by omega) (fun _=>wrap_i64 (by omega) (by omega)) ?_)))))
   refine mV rfl rfl (mV rfl rfl ?_)
   refine ka rfl (.inr rfl) Fx.go126 (Evc rfl (Evc rfl (Evc rfl (Evc rfl (Evc rfl Evn))))) (mtk1 .here) (symM_ok D s1 s2 T1 _ _ _ _ f hf vc cv _ hcm hw (by first|omega|(simp only [qlB,ms_len,List.length_nil]<;>omega)) (by first|omega|(simp only [qlB,ms_len,List.length_nil]<;>omega)) (by first|omega|(simp only [qlB,ms_len,List.length_nil]<;>omega)) (by first|omega|(simp only [qlB,ms_len,List.length_nil]<;>omega)) (by first|omega|(simp only [qlB,ms_len,List.length_nil]<;>omega)) hs1 hs2 (tag_lt hT0 hO hp1 hp2) _ (by simp only [ms,List.map_append,List.append_assoc]) (by first|omega|(simp only [qlB,ms_len,List.length_nil]<;>omega))) ?_
   rintro _ G43 μ43 hG43 ⟨S',pS,sS,rfl,rfl⟩
   have lS:=pS.length_eq; rw [List.length_append] at lS
   have hcm:=hcm.mono hG43
   refine .nil (.code (.seq (rq2 rfl rfl (mV rfl rfl (aS rfl rfl (.nil (.code (rq5 rfl rfl (mV rfl rfl (mV rfl rfl (arn (((bs+bs):Nat):Int) rfl .no (.u rfl) (.u rfl) rfl (fun _=>by omega) (fun _=>wrap_i64 (by omega) (by omega)) ?_)))))))))))
   refine arn (((D.length+S'.length+(bs+bs)):Nat):Int) rfl .no (.u rfl) (.u rfl) rfl (fun _=>by (try simp only [List.length_append]); omega) (fun _=>wrap_i64 (by omega) (by omega)) ?_
   refine aS rfl rfl (.nil (.blk (We.lpo (D++S',DO++(o1++o2),T1,O1) ?_ ?_ ?_ ?_ ?_)))
   ·exact (esC rfl (evi (by first|omega|(simp only [qlB,ms_len,List.length_nil]<;>omega))) (esC rfl (evi (by first|omega|(simp only [qlB,ms_len,List.length_nil]<;>omega))) (esD rfl (esD rfl (esD rfl (esD rfl eZ))))))
   ·exact (mS .here rfl mN)
   ·simp only [List.length_append] at hN2; dsimp only; omega
   ·exact (hGl2).trans hG43
   refine ⟨?_,?_,?_,?_⟩
   ·(try dsimp only)<;>(exact fun r ro h=>by (rw [List.append_assoc,List.append_assoc]; exact hD _ _ (.cons (by omega) sS (pS.trans (hp1.append hp2)) h)))
   ·(try dsimp only)<;>(exact hC1)
   ·(try dsimp only)<;>(rw [List.append_assoc]; exact hO)
   (try dsimp only)<;>(exact (by first|omega|(simp only [qlB,ms_len,List.length_nil]<;>omega)))
  have c3k:=c3
  try simp only [qcA,qcC,qcB] at c3
  refine .exit (.xcode (.xlp (.xblk (.code (.seq (.seq (rq4 rfl rfl (mV rfl rfl (mV rfl rfl (arn (((D.length+bs):Nat):Int) rfl .no (.u rfl) (.u rfl) rfl (fun _=>by omega) (fun _=>wrap_i64 (by omega) (by omega)) ?_))))))))))
  refine aS rfl rfl (.nil (.code (.seq (rq3 rfl rfl (mV rfl rfl (mV rfl rfl (cp rfl .no (.u rfl) (.u rfl) rfl (.nil (.code (.cond rfl (fun c4=>?_) (fun c4=>?_)))))))))))
  ·have c4k:=c4
   try simp only [qcA,qcC,qcB] at c4
   obtain ⟨s1,s2,o1,o2,rfl,rfl,l1,l2,l3,hs1,hs2,hp1,hp2⟩:=hC.rest hb (by omega) (by omega)
   simp only [List.length_append] at hDT
   refine rq6 rfl rfl (mV rfl rfl (mV rfl rfl (mV rfl rfl (mV rfl rfl (mV rfl rfl ?_)))))
   refine ka rfl (.inr rfl) Fx.go126 (Evc rfl (Evc rfl (Evc rfl (Evc rfl (Evc rfl Evn))))) (mtk1 .here) (symM_ok D s1 s2 [] _ _ _ _ f hf vc cv _ hcm hw (by first|omega|(simp only [qlB,ms_len,List.length_nil]<;>omega)) (by first|omega|(simp only [qlB,ms_len,List.length_nil]<;>omega)) (by first|omega|(simp only [qlB,ms_len,List.length_nil]<;>omega)) (by first|omega|(simp only [qlB,ms_len,List.length_nil]<;>omega)) (by first|omega|(simp only [qlB,ms_len,List.length_nil]<;>omega)) hs1 hs2 (tag_lt (X:=DO) (Z:=[]) hT0 (by rw [List.append_nil]; exact hO) hp1 hp2) _ (by simp only [ms,List.map_append,List.append_assoc,List.append_nil]) (by first|omega|(simp only [qlB,ms_len,List.length_nil]<;>omega))) ?_
   rintro _ G60 μ60 hG60 ⟨S',pS,sS,rfl,rfl⟩
   have lS:=pS.length_eq; rw [List.length_append] at lS
   refine .nil (.code (rq3 rfl rfl (mV rfl rfl (arn (((bs+bs):Nat):Int) rfl .no (.u rfl) (.u rfl) rfl (fun _=>by omega) (fun _=>wrap_i64 (by omega) (by omega)) ?_))))
   refine aS rfl rfl (.nil (.blk (We.lpo (bs+bs,D++S') ?_ ?_ ?_ ?_ ?_)))
   ·exact (esC rfl (by first|rfl|exact evi (by omega)) (esD rfl (esD rfl (esD rfl eZ))))
   ·exact (mS .here (by rw [List.append_nil]) mN)
   ·first|omega|(dsimp only; omega)
   ·exact ((hGl1).trans hGl2).trans hG60
   refine ⟨?_,?_,?_⟩
   ·(try dsimp only)<;>(first|omega|rfl|assumption|(simp; done))
   ·(try dsimp only)<;>(first|omega|rfl|assumption|(simp; done))
   (try dsimp only)<;>(rw [← hO]; exact hD _ _ (.last (by omega) sS (pS.trans (hp1.append hp2))))
  have c4k:=c4
  try simp only [qcA,qcC,qcB] at c4
  refine .skip (.code (rq3 rfl rfl (mV rfl rfl (arn (((bs+bs):Nat):Int) rfl .no (.u rfl) (.u rfl) rfl (fun _=>by omega) (fun _=>wrap_i64 (by omega) (by omega)) ?_))))
  refine aS rfl rfl (.nil (.blk (We.lpo (bs+bs,D++T) ?_ ?_ ?_ ?_ ?_)))
  ·exact (esC rfl (by first|rfl|exact evi (by omega)) (esD rfl (esD rfl (esD rfl eZ))))
  ·exact (mS .here rfl mN)
  ·first|omega|(dsimp only; omega)
  ·exact (hGl1).trans hGl2
  refine ⟨?_,?_,?_⟩
  ·(try dsimp only)<;>(first|omega|rfl|assumption|(simp; done))
  ·(try dsimp only)<;>(first|omega|rfl|assumption|(simp; done))
  (try dsimp only)<;>(rw [← hO]; exact hD _ _ (.last (by omega) (hC.big hb (by omega)).1 (hC.big hb (by omega)).2))
 have c2k:=c2
 try simp only [qcA,qcC,qcB] at c2
 refine .exit (.xcode (.xlp (.xblk (.nil (We.fin Tryz.results99 .nil (mS .here rfl mN) ?_)))))
 obtain ⟨q1,q2⟩:=hCk.big hb (by omega)
 rw [ms_sort hw q1 q2]; exact ⟨rfl,rfl⟩
theorem ssf_ok (xs:List Meta) (v:Value) (f:Nat) (hf:goFn Tryz.prog f=true) (vc:List Value) (cv:Meta→Meta→Int) (G:PM) (hcm:CmpR Tryz.prog f vc cv G) (hw:Wk0 (ltv cv)) (hl:xs.length≤500000000):Ct Tryz.prog 60 ([v,.func (.func f) #[] vc.toArray]:List Value).toArray G [rS 40 Meta.cells v 98 xs] (fun _ μ' u=>μ'=[rS 40 Meta.cells v 98 (sortS (ltv cv) xs)]∧u=.tuple #[]):=by
 refine Ct.of Tryz.func60 rfl Tryz.ntmps60 rfl fun w0 hs0=>?_
 refine rq5 rfl rfl (mV rfl rfl (mV rfl rfl (lr rfl .no FxVeSd.sn29 (.u rfl) .here ?_)))
 refine mV rfl rfl (ka rfl (.inr rfl) Fx.go99 (Evc rfl (Evc rfl (Evc rfl Evn))) (mtk1 .here) (stb_ok xs _ _ f hf vc cv _ hcm hw rfl hl) ?_)
 rintro _ G8 μ8 hG8 ⟨rfl,rfl⟩
 refine .nil (.nil (We.fin Tryz.results60 .nil (mS .here rfl mN) ?_))
 exact ⟨rfl,rfl⟩
namespace FxVeDd
end FxVeDd
namespace Fx
end Fx
namespace FxVeDe
end FxVeDe
namespace Fx
end Fx
namespace Fx
theorem ag31:aggN Tryz.prog 31=some (some 5):=by kernel_rfl
theorem go58:goFn Tryz.prog 58=true:=by kernel_rfl
theorem zq33:zrL Tryz.prog 33=some ((State.zero.cells hd0)):=by kernel_rfl
theorem go54:goFn Tryz.prog 54=true:=by kernel_rfl
theorem go55:goFn Tryz.prog 55=true:=by kernel_rfl
theorem bp33_1_2_3_4_5_0:bPl Tryz.prog 33 [1,2,3,4,5,0]=some ((State.zero.cells hd0),[(5,1),(6,1),(7,1),(8,1),(9,5),(0,5)]):=by kernel_rfl
theorem sz33:szT Tryz.prog 33=some 14:=by kernel_rfl
theorem go56:goFn Tryz.prog 56=true:=by kernel_rfl
theorem go57:goFn Tryz.prog 57=true:=by kernel_rfl
theorem bp33_:bPl Tryz.prog 33 []=some ((State.zero.cells hd0),[]):=by kernel_rfl
end Fx
theorem before_ok (s:State) (hd:Nat→Sh) (G:PM) (e:Edit) (ha he:Sh):Ct Tryz.prog 55 ([s.val hd,e.val ha he]:List Value).toArray G [] (fun _ μ' u=>μ'=[]∧u=.bool (beforeB s e)):=by
 refine Ct.of Tryz.func55 rfl Tryz.ntmps55 rfl fun w0 hs0=>?_
 refine .seq (rq3 rfl rfl ?_)
 refine bx rfl (.u rfl) rfl ?_; intro b2
 refine bx rfl (.u rfl) rfl ?_; intro b3
 refine aS rfl rfl (.nil (.code (.seq (.seq (rq3 rfl rfl (fz rfl .no Fx.fo45_4 (.u rfl) (lA rfl .no Fx.ag31 (.u rfl) (fun _=>RdN.part (n:=5) (cs':=(List.range 5).map (fun i=>.int .u64 (e.gens i))) .here (rfl)) (fun _=>rfl) (mV rfl rfl (.nil (.code (.block ?_)))))))))))
 refine Wk.lop (α:=Nat) (fun k=>[(9,true,.int .i64 (k:Int))]) (fun _=>[])
  (fun k Gl=>(k≤5)∧(∀ i,i<k→¬ e.gens i<s.gens i)) (fun k=>5-k) 0 [(2,true,_),(3,true,_),(8,true,_)] [_,_]
  (esC rfl (by first|rfl|exact evi (by omega)) (esD rfl (esD rfl (esD rfl eZ))))
  (mS .here rfl (mS .here rfl mN)) ?_ ?_
 ·refine ⟨?_,?_⟩
  ·(try dsimp only)<;>(first|omega|rfl|assumption|(simp; done))
  (try dsimp only)<;>(exact fun i hi=>by omega)
 intro k N0 Gl0 hN0 hGl0 hF0
 try dsimp only at hF0 hN0 ⊢
 obtain ⟨hk,hn⟩:=hF0
 refine .seq (rq1 rfl rfl (cp rfl .no (.u rfl) (.u rfl) rfl (.nil (.code (.seq (.cond rfl (fun c1=>?_) (fun c1=>?_)))))))
 ·have c1k:=c1
  try simp only [qcA,qcB] at c1
  refine .skip (.code (.seq (.block (.seq (rq4 rfl rfl (mV rfl rfl (ix rfl .no Fx.ar31 FxVerP.ag26 (.u rfl) (.u rfl) (fun _=>by omega) (fun _=>by omega) (fun _=>(gens_at (k:=k) (by omega) (by omega))) ?_)))))))
  refine aS rfl rfl (aS rfl rfl (.nil (.code (.seq (rq6 rfl rfl (mV rfl rfl (mV rfl rfl (fz rfl .no Fx.fo33_5 (.u rfl) (iA rfl .no Fx.ar31 (.u rfl) (.u rfl) (fun _=>by omega) (fun _=>by omega) ?_)))))))))
  refine ld rfl .no FxVerP.ag26 (.u rfl) (fun _=>Rd.own tk1 (by exact s.cell_gen hd (k:=k) (by omega))) ?_
  refine cp rfl .no (.u rfl) (.u rfl) rfl (.nil (.code (.cond rfl (fun c2=>?_) (fun c2=>?_))))
  ·have c2k:=c2
   try simp only [qcA,qcB] at c2
   refine .seq (rq1 rfl rfl (aS rfl rfl (.nil (.code (.ret (We.fin0 Tryz.results55 (.tmp rfl .nil) ?_))))))
   exact ⟨rfl,congrArg Value.bool (bef_yes (i:=k) (by omega) (by omega)).symm⟩
  have c2k:=c2
  try simp only [qcA,qcB] at c2
  refine .skip (.blk (.code (rq2 rfl rfl (arn (((k+1):Nat):Int) rfl .no (.u rfl) (.u rfl) rfl (fun _=>by omega) (fun _=>wrap_i64 (by omega) (by omega)) ?_))))
  refine mV rfl rfl (.nil (We.lpo (k+1) ?_ ?_ ?_ ?_ ?_))
  ·exact (esC rfl (by first|rfl|exact evi (by omega)) (esD rfl (esD rfl (esD rfl eZ))))
  ·exact (mS .here rfl (mS .here rfl mN))
  ·first|omega|(dsimp only; omega)
  ·exact hGl0
  refine ⟨?_,?_⟩
  ·(try dsimp only)<;>(first|omega|rfl|assumption|(simp; done))
  (try dsimp only)<;>(exact fun i hi=>by (by_cases h:i=k; (subst h; omega); exact hn i (by omega)))
 have c1k:=c1
 try simp only [qcA,qcB] at c1
 refine .exit (.xcode (.xlp (.xblk (.code (.seq (Wk.rg [0,1,2,3,4,5,6,7,8,9,10,11,12,13,14,15,16,17,18,19,20,21,22,23,24,25,26] rfl rfl (fz rfl .no Fx.fo45_0 (.u rfl) (ld rfl .no FxVerP.ag26 (.u rfl) (fun _=>Rd.own .here (by first|exact wap_f rfl|rfl)) ?_))))))))
 refine fz rfl .no Fx.fo33_1 (.u rfl) (ld rfl .no FxVerP.ag26 (.u rfl) (fun _=>Rd.own tk1 (by first|exact wap_f rfl|rfl)) ?_)
 refine cp rfl .no (.u rfl) (.u rfl) rfl (mV rfl rfl (fz rfl (.f rfl rfl) Fx.fo45_1 (.u rfl) (ld rfl (.f rfl rfl) FxVerP.ag26 (.s rfl) (fun hc=>Rd.own .here (by first|exact wap_f rfl|rfl)) ?_)))
 refine fz rfl (.f rfl rfl) Fx.fo33_2 (.u rfl) (ld rfl (.f rfl rfl) FxVerP.ag26 (.s rfl) (fun hc=>Rd.own tk1 (by first|exact wap_f rfl|rfl)) ?_)
 refine cp rfl (.f rfl rfl) (.s rfl) (.s rfl) rfl (pkO rfl .no (.u rfl) (.s rfl) (mV rfl rfl (fz rfl (.f rfl rfl) Fx.fo45_2 (.u rfl) (ld rfl (.f rfl rfl) FxVerP.ag26 (.s rfl) (fun hc=>Rd.own .here (by first|exact wap_f rfl|rfl)) ?_))))
 refine fz rfl (.f rfl rfl) Fx.fo33_3 (.u rfl) (ld rfl (.f rfl rfl) FxVerP.ag26 (.s rfl) (fun hc=>Rd.own tk1 (by first|exact wap_f rfl|rfl)) ?_)
 refine cp rfl (.f rfl rfl) (.s rfl) (.s rfl) rfl (pkO rfl .no (.u rfl) (.s rfl) (mV rfl rfl (fz rfl (.f rfl rfl) Fx.fo45_3 (.u rfl) (ld rfl (.f rfl rfl) FxVerP.ag26 (.s rfl) (fun hc=>Rd.own .here (by first|exact wap_f rfl|rfl)) ?_))))
 refine fz rfl (.f rfl rfl) Fx.fo33_4 (.u rfl) (ld rfl (.f rfl rfl) FxVerP.ag26 (.s rfl) (fun hc=>Rd.own tk1 (by first|exact wap_f rfl|rfl)) ?_)
 refine cp rfl (.f rfl rfl) (.s rfl) (.s rfl) rfl (pkO rfl .no (.u rfl) (.s rfl) (aS rfl rfl (.nil (.code (.ret (We.fin0 Tryz.results55 (.tmp rfl .nil) ?_))))))
 exact ⟨rfl,congrArg Value.bool (bef_no (fun i hi=>hn i (by omega))).symm⟩
namespace Fx
theorem go100:goFn Tryz.prog 100=true:=by kernel_rfl
theorem go101:goFn Tryz.prog 101=true:=by kernel_rfl
theorem go62:goFn Tryz.prog 62=true:=by kernel_rfl
theorem go63:goFn Tryz.prog 63=true:=by kernel_rfl
end Fx
theorem del_ok (xs:List Meta) (v:Value) (k:Nat) (G:PM) (hk:k<xs.length) (hl:xs.length≤1000000000):Ct Tryz.prog 59 ([v,.int .i64 (k:Int),.int .i64 ((k+1:Nat):Int)]:List Value).toArray G [rS 40 Meta.cells v 98 xs] (fun _ μ' u=>μ'=[rS 40 Meta.cells u 98 (xs.take k++xs.drop (k+1))]):=by
 refine Ct.of Tryz.func59 rfl Tryz.ntmps59 rfl fun w0 hs0=>?_
 have hxr:(xs.take k++xs.drop (k+1)).length=xs.length-1:=by simp; omega
 refine .seq (rq1 rfl rfl (aS rfl rfl (.nil (.code (.seq ?_)))))
 refine wk_rv .here (by omega) ?_; intro bbR capR evR lcR; subst evR
 refine rq6 rfl rfl (mV rfl rfl (mV rfl rfl (mV rfl rfl (mV rfl rfl (lr rfl .no Fx.sn29 (.u rfl) .here ?_)))))
 refine s3 rfl Fx.se29 (.u rfl) (.u rfl) (.u rfl) (.u rfl) (by omega) (by omega) (by omega) (by omega) ?_; intro v13
 refine .nil (.code (.seq (.seq (rq3 rfl rfl (mV rfl rfl (mV rfl rfl (cp rfl .no (.u rfl) (.u rfl) rfl (.nil (.code (.cond rfl (fun c1=>?_) (fun c1=>?_)))))))))))
 ·have c1k:=c1
  exfalso; simp at c1; omega
 have c1k:=c1
 try simp only [qcA,qcB] at c1
 refine .skip (.code (.seq (rq3 rfl rfl (mV rfl rfl (lr rfl .no Fx.sn29 (.u rfl) .here ?_)))))
 refine aS rfl rfl (.nil (.code (.seq (Wk.draw (mc:=⟨false,false⟩) [0,1,2,3,4,5,6,7] FxVeSa.mix (by kernel_rfl) ?_))))
 refine mV rfl rfl (mV rfl rfl (srh k rfl Fx.se29 (.u rfl) (.u rfl) rfl (by omega) ?_))
 refine mV rfl rfl (mV rfl rfl ?_)
 refine slz (k+1) rfl Fx.se29 (.u rfl) (.u rfl) rfl (by omega) (by omega) ?_; intro oa25 hoa25
 refine apD (q:=k) (r:=k+1) rfl Fx.se29 (.u rfl) (.u rfl) .here hoa25 (fun _ _=>Meta.len _) (metas_one _) (by omega) (by omega) ?_
 refine aS rfl rfl (.nil (.code (.seq (rq6 rfl rfl (mV rfl rfl (mV rfl rfl (lr rfl .no Fx.sn29 (.u rfl) .here ?_)))))))
 refine mV rfl rfl (sll (xs.take k++xs.drop (k+1)).length xs.length rfl Fx.se29 (.u rfl) (.u rfl) (.u rfl) rfl rfl (by omega) (by omega) (by omega) ?_)
 refine clT rfl Fx.se29 Fx.zw98 rfl (by decide) (.u rfl) .here (by omega) (by omega) (fun _ _=>Meta.len _) ?_
 refine .nil (.code (.seq (rq2 rfl rfl (mV rfl rfl (aS rfl rfl (.nil (.code (.ret (We.fin Tryz.results59 (.tmp rfl .nil) (mS .here rfl mN) ?_)))))))))
 exact rfl
theorem clone_ok (h:Sh) (l:List Meta) (G:PM) (hs:SlR G 40 Meta.cells h l) (hl:l.length≤1000000):Ct Tryz.prog 56 ([h.val l.length]:List Value).toArray G [] (fun _ μ' u=>u.oneCell'=true∧μ'=[rS 40 Meta.cells u 98 l]):=by
 refine Ct.of Tryz.func56 rfl Tryz.ntmps56 rfl fun w0 hs0=>?_
 refine .seq (rq1 rfl rfl (aS rfl rfl (.nil (.code (.seq (.seq (rq2 rfl rfl (mV rfl rfl (sn0 rfl .no Fx.sn29 (.u rfl) (.u rfl) ?_)))))))))
 refine .nil (.code (.cond rfl (fun c1=>?_) (fun c1=>?_)))
 ·have c1k:=c1
  try simp only [qcA,qcB] at c1
  refine .seq (rq1 rfl rfl (aS rfl rfl (.nil (.code (.ret ?_)))))
  have hn:l=[]:=by
   cases l with
   | nil=>rfl
   | cons x l=>have:=hs.there (by simp); rw [this] at c1; cases c1
  refine we_nilS 40 Meta.cells 98 (We.fin Tryz.results56 (.tmp rfl .nil) (mS .here rfl mN) ?_)
  exact ⟨rfl,by rw [hn]; rfl⟩
 have c1k:=c1
 try simp only [qcA,qcB] at c1
 refine .skip (.code (.seq (rq4 rfl rfl ?_)))
 refine b0 rfl rfl Fx.se29 ?_; intro v5
 refine mV rfl rfl ?_
 refine apL (xs:=([]:List Meta)) rfl Fx.se29 Fx.zw98 rfl (.u rfl) (.u rfl) .here hs (fun _ _=>Meta.len _) (metas_one _) (by simp only [List.length_nil]; omega) (by unfold maxLen; simp only [List.length_nil]; omega) ?_; intro v7 ov7
 refine aS rfl rfl (.nil (.code (.ret (We.fin Tryz.results56 (.tmp rfl .nil) (mS .here rfl mN) ?_))))
 exact ⟨ov7,rfl⟩
theorem nanU (x:Int) (G:PM):Ct Tryz.prog 100 ([.int .u64 x]:List Value).toArray G [] (fun _ μ' u=>μ'=[]∧u=.bool false):=by
 refine Ct.of Tryz.func100 rfl Tryz.ntmps100 rfl fun w0 hs0=>?_
 refine .seq (rq1 rfl rfl (aS rfl rfl (.nil (.code (.seq (rq4 rfl rfl (mV rfl rfl (mV rfl rfl (cp rfl .no (.u rfl) (.u rfl) rfl (aS rfl rfl (.nil (.code (.ret (We.fin0 Tryz.results100 (.tmp rfl .nil) ?_))))))))))))))
 exact ⟨rfl,congrArg Value.bool (by simp)⟩
theorem nanS (x:ByteArray) (G:PM):Ct Tryz.prog 101 ([.string x]:List Value).toArray G [] (fun _ μ' u=>μ'=[]∧u=.bool false):=by
 refine Ct.of Tryz.func101 rfl Tryz.ntmps101 rfl fun w0 hs0=>?_
 refine .seq (rq1 rfl rfl (aS rfl rfl (.nil (.code (.seq (rq4 rfl rfl (mV rfl rfl (mV rfl rfl (cs rfl .no (.u rfl) (.u rfl) rfl (aS rfl rfl (.nil (.code (.ret (We.fin0 Tryz.results101 (.tmp rfl .nil) ?_))))))))))))))
 exact ⟨rfl,congrArg Value.bool (by simp)⟩
theorem cmpU_ok (x y:Int) (G:PM):Ct Tryz.prog 62 ([.int .u64 x,.int .u64 y]:List Value).toArray G [] (fun _ μ' u=>μ'=[]∧u=.int .i64 (cmpN x y)):=by
 refine Ct.of Tryz.func62 rfl Tryz.ntmps62 rfl fun w0 hs0=>?_
 refine .seq (rq1 rfl rfl (aS rfl rfl (.nil (.code (.seq (rq3 rfl rfl (mV rfl rfl (kv rfl .no Fx.go100 (Evc rfl Evn) (fun _=>nanU _ _) ?_))))))))
 refine aS rfl rfl (.nil (.code (.seq (rq3 rfl rfl (mV rfl rfl (kv rfl .no Fx.go100 (Evc rfl Evn) (fun _=>nanU _ _) ?_))))))
 refine aS rfl rfl (.nil (.code (.seq (.seq (rq1 rfl rfl (mV rfl rfl (.nil (.code (.cond rfl (fun c1=>?_) (fun c1=>?_))))))))))
 ·have c1k:=c1
  cases c1
 have c1k:=c1
 try simp only [qcA,qcB] at c1
 refine .skip (.code (.seq (.seq (rq1 rfl rfl (mV rfl rfl (.nil (.code (.cond rfl (fun c2=>?_) (fun c2=>?_)))))))))
 ·have c2k:=c2
  cases c2
 have c2k:=c2
 try simp only [qcA,qcB] at c2
 refine .skip (.code (.seq (.seq (rq3 rfl rfl (mV rfl rfl (mV rfl rfl (cp rfl .no (.u rfl) (.u rfl) rfl (.nil (.code (.cond rfl (fun c3=>?_) (fun c3=>?_)))))))))))
 ·have c3k:=c3
  try simp only [qcA,qcB] at c3
  refine .seq (rq1 rfl rfl (aS rfl rfl (.nil (.code (.ret (We.fin0 Tryz.results62 (.tmp rfl .nil) ?_))))))
  exact ⟨rfl,by unfold cmpN; rw [if_pos c3]; rfl⟩
 have c3k:=c3
 try simp only [qcA,qcB] at c3
 refine .skip (.code (.seq (.seq (rq3 rfl rfl (mV rfl rfl (mV rfl rfl (cp rfl .no (.u rfl) (.u rfl) rfl (.nil (.code (.cond rfl (fun c4=>?_) (fun c4=>?_)))))))))))
 ·have c4k:=c4
  try simp only [qcA,qcB] at c4
  refine .seq (rq1 rfl rfl (aS rfl rfl (.nil (.code (.ret (We.fin0 Tryz.results62 (.tmp rfl .nil) ?_))))))
  exact ⟨rfl,by unfold cmpN; rw [if_neg (by omega),if_pos c4]; rfl⟩
 have c4k:=c4
 try simp only [qcA,qcB] at c4
 refine .skip (.code (.seq (rq1 rfl rfl (aS rfl rfl (.nil (.code (.ret (We.fin0 Tryz.results62 (.tmp rfl .nil) ?_))))))))
 exact ⟨rfl,by unfold cmpN; rw [if_neg (by omega),if_neg (by omega)]; rfl⟩
theorem cmpT_ok (x y:ByteArray) (G:PM):Ct Tryz.prog 63 ([.string x,.string y]:List Value).toArray G [] (fun _ μ' u=>μ'=[]∧u=.int .i64 (cmpT x y)):=by
 refine Ct.of Tryz.func63 rfl Tryz.ntmps63 rfl fun w0 hs0=>?_
 refine .seq (rq1 rfl rfl (aS rfl rfl (.nil (.code (.seq (rq3 rfl rfl (mV rfl rfl (kv rfl .no Fx.go101 (Evc rfl Evn) (fun _=>nanS _ _) ?_))))))))
 refine aS rfl rfl (.nil (.code (.seq (rq3 rfl rfl (mV rfl rfl (kv rfl .no Fx.go101 (Evc rfl Evn) (fun _=>nanS _ _) ?_))))))
 refine aS rfl rfl (.nil (.code (.seq (.seq (rq1 rfl rfl (mV rfl rfl (.nil (.code (.cond rfl (fun c1=>?_) (fun c1=>?_))))))))))
 ·have c1k:=c1
  cases c1
 have c1k:=c1
 try simp only [qcA,qcB] at c1
 refine .skip (.code (.seq (.seq (rq1 rfl rfl (mV rfl rfl (.nil (.code (.cond rfl (fun c2=>?_) (fun c2=>?_)))))))))
 ·have c2k:=c2
  cases c2
 have c2k:=c2
 try simp only [qcA,qcB] at c2
 refine .skip (.code (.seq (.seq (rq3 rfl rfl (mV rfl rfl (mV rfl rfl (cs rfl .no (.u rfl) (.u rfl) rfl (.nil (.code (.cond rfl (fun c3=>?_) (fun c3=>?_)))))))))))
 ·have c3k:=c3
  try simp only [qcA,qcB] at c3
  refine .seq (rq1 rfl rfl (aS rfl rfl (.nil (.code (.ret (We.fin0 Tryz.results63 (.tmp rfl .nil) ?_))))))
  exact ⟨rfl,by rw [cmpT_lt c3k]; rfl⟩
 have c3k:=c3
 try simp only [qcA,qcB] at c3
 refine .skip (.code (.seq (.seq (rq3 rfl rfl (mV rfl rfl (mV rfl rfl (cs rfl .no (.u rfl) (.u rfl) rfl (.nil (.code (.cond rfl (fun c4=>?_) (fun c4=>?_)))))))))))
 ·have c4k:=c4
  try simp only [qcA,qcB] at c4
  refine .seq (rq1 rfl rfl (aS rfl rfl (.nil (.code (.ret (We.fin0 Tryz.results63 (.tmp rfl .nil) ?_))))))
  exact ⟨rfl,by rw [cmpT_gt c3k c4k]; rfl⟩
 have c4k:=c4
 try simp only [qcA,qcB] at c4
 refine .skip (.code (.seq (rq1 rfl rfl (aS rfl rfl (.nil (.code (.ret (We.fin0 Tryz.results63 (.tmp rfl .nil) ?_))))))))
 exact ⟨rfl,by rw [cmpT_eq c3k c4k]; rfl⟩
theorem same1_ok (m:Meta) (g:Gone) (b:Nat) (G:PM) (hb:PB G b (cl g.cells 104)):Ct Tryz.prog 58 ([m.val,.pointer (some ⟨b,0,none⟩)]:List Value).toArray G [] (fun _ μ' u=>μ'=[]∧u=.bool (m.number == g.number)):=by
 refine Ct.of Tryz.func58 rfl Tryz.ntmps58 rfl fun w0 hs0=>?_
 refine .seq (rq2 rfl rfl ?_)
 refine bx rfl (.u rfl) rfl ?_; intro b2
 refine aS rfl rfl (.nil (.code (.seq (rq6 rfl rfl (fz rfl .no Fx.fo98_3 (.u rfl) (ld rfl .no FxVerP.ag26 (.u rfl) (fun _=>Rd.own .here (by first|exact wap_f rfl|rfl)) ?_))))))
 refine fa rfl .no Fx.fo104_1 (.u rfl) (ld rfl .no FxVerP.ag26 (.u rfl) (fun _=>(hb.rd (by rfl)).rd) ?_)
 refine cp rfl .no (.u rfl) (.u rfl) rfl (aS rfl rfl (.nil (.code (.ret (We.fin0 Tryz.results58 (.tmp rfl .nil) ?_)))))
 exact ⟨rfl,rfl⟩
theorem cmp2_ok (a b:Meta) (i:Int) (q:Nat) (G:PM) (hb:PB G q (cl [.int .i64 i] 3)):Ct Tryz.prog 61 ([a.val,b.val,.pointer (some ⟨q,0,none⟩)]:List Value).toArray G [] (fun _ μ' u=>μ'=[]∧u=.int .i64 (lvC i a b)):=by
 refine Ct.of Tryz.func61 rfl Tryz.ntmps61 rfl fun w0 hs0=>?_
 refine .seq (rq3 rfl rfl ?_)
 refine bx rfl (.u rfl) rfl ?_; intro b3
 refine bx rfl (.u rfl) rfl ?_; intro b4
 refine aS rfl rfl (.nil (.code (.seq (.seq (rq2 rfl rfl (ld rfl .no FxVerP.ag3 (.u rfl) (fun _=>(hb.rd (by rfl)).rd) ?_))))))
 refine cp rfl .no (.u rfl) (.u rfl) rfl (.nil (.code (.cond rfl (fun c1=>?_) (fun c1=>?_))))
 ·have c1k:=c1
  try simp only [qcA,qcB] at c1
  refine .seq (rq6 rfl rfl (fz rfl .no Fx.fo98_3 (.u rfl) (ld rfl .no FxVerP.ag26 (.u rfl) (fun _=>Rd.own .here (by first|exact wap_f rfl|rfl)) ?_)))
  refine fz rfl .no Fx.fo98_3 (.u rfl) (ld rfl .no FxVerP.ag26 (.u rfl) (fun _=>Rd.own tk1 (by first|exact wap_f rfl|rfl)) ?_)
  refine kv rfl .no Fx.go62 (Evc rfl (Evc rfl Evn)) (fun _=>cmpU_ok _ _ _) ?_
  refine aS rfl rfl (.nil (.code (.ret (We.fin0 Tryz.results61 (.tmp rfl .nil) ?_))))
  exact ⟨rfl,by unfold lvC; rw [if_pos (by simpa using c1k)]; rfl⟩
 have c1k:=c1
 try simp only [qcA,qcB] at c1
 refine .skip (.code (.seq (rq6 rfl rfl (fz rfl .no Fx.fo98_6 (.u rfl) (ld rfl .no Fx.ag9 (.u rfl) (fun _=>Rd.own tk1 (by first|exact wap_f rfl|rfl)) ?_)))))
 refine fz rfl .no Fx.fo98_6 (.u rfl) (ld rfl .no Fx.ag9 (.u rfl) (fun _=>Rd.own .here (by first|exact wap_f rfl|rfl)) ?_)
 refine kv rfl .no Fx.go63 (Evc rfl (Evc rfl Evn)) (fun _=>cmpT_ok _ _ _) ?_
 refine aS rfl rfl (.nil (.code (.ret (We.fin0 Tryz.results61 (.tmp rfl .nil) ?_))))
 exact ⟨rfl,by unfold lvC; rw [if_neg (by simpa using c1k)]; rfl⟩
theorem lvC_cmp (i:Int) (q:Nat) {G:PM} (hb:PB G q (cl [.int .i64 i] 3)):CmpR Tryz.prog 61 [.pointer (some ⟨q,0,none⟩)] (lvC i) G:=⟨fun G' hle a b=>cmp2_ok a b i q G' (hb.mono hle)⟩
theorem lvC_wk (i:Int):Wk0 (ltv (lvC i)):=by rw [ltv_lvC]; exact lvLt_wk i
namespace Fx
theorem go61:goFn Tryz.prog 61=true:=by kernel_rfl
theorem go59:goFn Tryz.prog 59=true:=by kernel_rfl
theorem zr3:zrL Tryz.prog 3=some ([.int .i64 0]):=by kernel_rfl
theorem go60:goFn Tryz.prog 60=true:=by kernel_rfl
end Fx
set_option maxHeartbeats 8000000 in
theorem apply_ok (s:State) (hd:Nat→Sh) (e:Edit) (ha he:Sh) (G:PM) (hs:StR G s hd) (hE:EdR G e ha he):Ct Tryz.prog 21 ([s.val hd,e.val ha he]:List Value).toArray G [] (fun G' μ' u=>∃ X hdX err,AppR s e X err∧μ'=[]∧u=.tuple #[State.val X hdX,.int .i64 err]∧StR G' X hdX):=by
 refine Ct.of Tryz.func21 rfl Tryz.ntmps21 rfl fun w0 hs0=>?_
 have hea:=hE.add; have hed:=hE.drop
 refine .seq (rq4 rfl rfl ?_)
 refine bx rfl (.u rfl) rfl ?_; intro b2
 refine bx rfl (.u rfl) rfl ?_; intro b3
 refine al rfl Fx.zq33 ?_; intro b4
 refine aS rfl rfl (.nil (.code (.seq (.seq (rq3 rfl rfl (lA rfl .no Fx.ag33 (.u rfl) (fun _=>RdN.own tk2) (fun _=>(by first|exact qE|exact qL|rfl)) ?_))))))
 refine kv rfl .no Fx.go54 (Evc rfl Evn) (fun _=>vRight_ok s hd _ hs) ?_
 refine nt rfl .no (.u rfl) (.nil (.code (.cond rfl (fun c1=>?_) (fun c1=>?_))))
 ·have c1k:=c1
  try simp only [qcA,qcC,qcB] at c1
  refine .seq (rq3 rfl rfl (bC rfl .no Fx.bp33_ .nil rfl ?_))
  refine sw rfl (.u rfl) (.u rfl) rfl Fx.sz33 .here (by first|exact qE|exact qL|rfl) (State.one') ?_
  refine aS rfl rfl (.nil (.code (.ret (We.fin0 Tryz.results21 (.cell rfl (fun w hw=>run_loadVarN Fx.ag33 (RdN.own .here) ((by first|exact qE|exact qL|rfl)) hw) (.tmp rfl .nil)) ?_))))
  exact ⟨State.zero,hd0,1,.inl ⟨by simpa using c1k,rfl,rfl⟩,rfl,rfl,st_zero⟩
 have c1k:=c1
 try simp only [qcA,qcC,qcB] at c1
 refine .skip (.code (.seq (.seq ?_)))
 have hri:rightS s=true:=by simpa using c1k
 have hri':=rightP_of hri
 refine Wk.rg [0,1,2,3,4,5,6,7,8,9,10,11,12,13,14] rfl rfl (fz rfl .no Fx.fo45_5 (.u rfl) (ld rfl .no Fx.ag29 (.u rfl) (fun _=>Rd.own tk1 (by first|exact wap_f rfl|rfl)) ?_))
 refine ln rfl .no Fx.sn29 (.u rfl) (cp rfl .no (.u rfl) (.u rfl) rfl (mV rfl rfl (fz rfl (.f rfl rfl) Fx.fo45_6 (.u rfl) (ld rfl (.f rfl rfl) Fx.ag43 (.s rfl) (fun hc=>Rd.own tk1 (by first|exact wap_f rfl|rfl)) ?_))))
 refine ln rfl (.f rfl rfl) Fx.sn43 (.s rfl) (cp rfl (.f rfl rfl) (.s rfl) (.u rfl) rfl (pkO rfl .no (.u rfl) (.s rfl) (mV rfl rfl (lA rfl (.f rfl rfl) Fx.ag33 (.u rfl) (fun _=>RdN.own tk2) (fun _=>(by first|exact qE|exact qL|rfl)) ?_))))
 refine lA rfl (.f rfl rfl) Fx.ag45 (.u rfl) (fun _=>RdN.own tk1) (fun _=>(by first|exact qE|exact qL|rfl)) ?_
 refine kv rfl (.f rfl rfl) Fx.go55 (Eva.cons (.s rfl) (Eva.cons (.s rfl) Evn)) (fun hc=>before_ok s hd _ e ha he) ?_
 refine pkO rfl .no (.u rfl) (.s rfl) (.nil (.code (.cond rfl (fun c2=>?_) (fun c2=>?_))))
 ·have c2k:=c2
  try simp only [qcA,qcC,qcB] at c2
  refine .seq (rq3 rfl rfl (bC rfl .no Fx.bp33_ .nil rfl ?_))
  refine sw rfl (.u rfl) (.u rfl) rfl Fx.sz33 .here (by first|exact qE|exact qL|rfl) (State.one') ?_
  refine aS rfl rfl (.nil (.code (.ret (We.fin0 Tryz.results21 (.cell rfl (fun w hw=>run_loadVarN Fx.ag33 (RdN.own .here) ((by first|exact qE|exact qL|rfl)) hw) (.tmp rfl .nil)) ?_))))
  exact ⟨State.zero,hd0,180,.inr (.inl ⟨hri,ap_head c2k,rfl,rfl⟩),rfl,rfl,st_zero⟩
 have c2k:=c2
 try simp only [qcA,qcC,qcB] at c2
 refine .skip (.code (.seq ?_))
 obtain ⟨hok,hla,hld⟩:=ok_head c2k
 have hfw:=hri'.few
 refine Wk.rg [0,1,2,3,4,5,6,7,8,9,10,11,12,13,14] rfl rfl (fz rfl .no Fx.fo45_0 (.u rfl) (ld rfl .no FxVerP.ag26 (.u rfl) (fun _=>Rd.own tk1 (by first|exact wap_f rfl|rfl)) ?_))
 refine fz rfl .no Fx.fo45_1 (.u rfl) (ld rfl .no FxVerP.ag26 (.u rfl) (fun _=>Rd.own tk1 (by first|exact wap_f rfl|rfl)) ?_)
 refine fz rfl .no Fx.fo45_2 (.u rfl) (ld rfl .no FxVerP.ag26 (.u rfl) (fun _=>Rd.own tk1 (by first|exact wap_f rfl|rfl)) ?_)
 refine fz rfl .no Fx.fo45_3 (.u rfl) (ld rfl .no FxVerP.ag26 (.u rfl) (fun _=>Rd.own tk1 (by first|exact wap_f rfl|rfl)) ?_)
 refine fz rfl .no Fx.fo45_4 (.u rfl) (lA rfl .no Fx.ag31 (.u rfl) (fun _=>RdN.part (n:=5) (cs':=(List.range 5).map (fun i=>.int .u64 (e.gens i))) tk1 (rfl)) (fun _=>rfl) (fz rfl .no Fx.fo33_0 (.u rfl) (lA rfl .no Fx.ag30 (.u rfl) (fun _=>RdN.part (n:=5) (cs':=(List.range 5).map (fun i=>(hd i).val (s.lv i).length)) tk2 (rfl)) (fun _=>rfl) ?_)))
 refine bCe (xC ((hd 0).val (s.lv 0).length) ((hd 1).val (s.lv 1).length) ((hd 2).val (s.lv 2).length) ((hd 3).val (s.lv 3).length) ((hd 4).val (s.lv 4).length) e) rfl .no Fx.bp33_1_2_3_4_5_0 (.cons (.u rfl) rfl (.cons (.u rfl) rfl (.cons (.u rfl) rfl (.cons (.u rfl) rfl (.cons (.u rfl) rfl (.cons (.u rfl) rfl .nil)))))) rfl (rfl) ?_
 refine al rfl Fx.zq33 ?_; intro b6
 refine sw rfl (.u rfl) (.u rfl) rfl Fx.sz33 .here (by first|exact qE|exact qL|rfl) (xC_one rfl rfl rfl rfl rfl) ?_
 refine .nil (.code (.seq (.seq (wk_nilS 40 Meta.cells 98 (wk_nilS 40 Meta.cells 98 (wk_nilS 40 Meta.cells 98 (wk_nilS 40 Meta.cells 98 (wk_nilS 40 Meta.cells 98 (rq1 rfl rfl (mV rfl rfl (.nil (.code (.block ?_)))))))))))))
 refine Wk.lop (α:=Nat×Value×Value×Value×Value×Value) (fun gh=>[(49,true,.int .i64 (gh.1:Int))]) (fun gh=>[rS 40 Meta.cells gh.2.2.2.2.2 98 (pk gh.1 4 (s.lv 4) []),rS 40 Meta.cells gh.2.2.2.2.1 98 (pk gh.1 3 (s.lv 3) []),rS 40 Meta.cells gh.2.2.2.1 98 (pk gh.1 2 (s.lv 2) []),rS 40 Meta.cells gh.2.2.1 98 (pk gh.1 1 (s.lv 1) []),rS 40 Meta.cells gh.2.1 98 (pk gh.1 0 (s.lv 0) []),.blk b6 (cl (xC (pk gh.1 0 gh.2.1 ((hd 0).val (s.lv 0).length)) (pk gh.1 1 gh.2.2.1 ((hd 1).val (s.lv 1).length)) (pk gh.1 2 gh.2.2.2.1 ((hd 2).val (s.lv 2).length)) (pk gh.1 3 gh.2.2.2.2.1 ((hd 3).val (s.lv 3).length)) (pk gh.1 4 gh.2.2.2.2.2 ((hd 4).val (s.lv 4).length)) e) 33)])
  (fun gh Gl=>(gh.1≤5)) (fun gh=>5-gh.1) (0,.slice none 0 0,.slice none 0 0,.slice none 0 0,.slice none 0 0,.slice none 0 0) [(3,true,_),(4,true,_),(6,true,_)] [_,_,_]
  (esC rfl (by first|rfl|exact evi (by omega)) (esD rfl (esD rfl (esD rfl eZ))))
  (mS .here rfl (mS .here rfl (mS .here rfl (mS .here rfl (mS .here rfl (mS .here rfl (mS .here rfl (mS .here rfl (mS .here rfl mN))))))))) ?_ ?_
 ·(try dsimp only)<;>(first|omega|rfl|assumption|(simp; done))
 intro gh N0 Gl0 hN0 hGl0 hF0
 obtain ⟨k,w0,w1,w2,w3,w4⟩:=gh; dsimp only at hF0 hN0 ⊢
 have hk:=hF0
 have hs:=hs.mono hGl0
 have hea:=hea.mono hGl0
 have hed:=hed.mono hGl0
 refine .seq (rq1 rfl rfl (cp rfl .no (.u rfl) (.u rfl) rfl (.nil (.code (.seq (.cond rfl (fun c3=>?_) (fun c3=>?_)))))))
 ·have c3k:=c3
  try simp only [qcA,qcC,qcB] at c3
  refine .skip (.code (.seq (.block (.seq (rq2 rfl rfl (mV rfl rfl (aS rfl rfl (.nil (.code ?_)))))))))
  rcases (show k=0∨k=1∨k=2∨k=3∨k=4 by omega) with rfl|rfl|rfl|rfl|rfl
  ·refine rq9 rfl rfl (mV rfl rfl (mV rfl rfl (fz rfl .no Fx.fo33_0 (.u rfl) (iA rfl .no Fx.ar30 (.u rfl) (.u rfl) (fun _=>by omega) (fun _=>by omega) ?_))))
   refine ld (v:=((hd 0).val (s.lv 0).length)) rfl .no Fx.ag29 (.u rfl) (fun _=>Rd.own tk5 rfl) ?_
   refine kc rfl Fx.go56 (Evc rfl Evn) (clone_ok (hd 0) (s.lv 0) _ (hs.lv 0 (by decide)) (by have:=lv_tot s (i:=0) (by decide); omega)) ?_
   rintro v57 G57 μ57 hG57 ⟨ov57,rfl⟩
   have hs:=hs.mono hG57
   have hea:=hea.mono hG57
   have hed:=hed.mono hG57
   refine fz rfl .no Fx.fo33_0 (.u rfl) (iA rfl .no Fx.ar30 (.u rfl) (.u rfl) (fun _=>by omega) (fun _=>by omega) ?_)
   refine s1v rfl (.u rfl) (.u rfl) .here Fx.sz29 tk6 (by show _<14; decide) (rfl) ?_
   refine .nil (.blk (.code (rq2 rfl rfl (arn (((0+1):Nat):Int) rfl .no (.u rfl) (.u rfl) rfl (fun _=>by omega) (fun _=>wrap_i64 (by omega) (by omega)) ?_))))
   refine mV rfl rfl (.nil (We.lpo (1,v57,w1,w2,w3,w4) ?_ ?_ ?_ ?_ ?_))
   ·exact (esC rfl (by first|rfl|exact evi (by omega)) (esD rfl (esD rfl (esD rfl eZ))))
   ·exact (mS tk2 rfl (mS tk2 rfl (mS tk2 rfl (mS tk2 rfl (mS tk1 rfl (mS .here rfl (mS tk1 rfl (mS tk1 rfl (mS tk1 rfl mN)))))))))
   ·first|omega|(dsimp only; omega)
   ·exact (hGl0).trans hG57
   (try dsimp only)<;>(first|omega|rfl|assumption|(simp; done))
  ·refine rq9 rfl rfl (mV rfl rfl (mV rfl rfl (fz rfl .no Fx.fo33_0 (.u rfl) (iA rfl .no Fx.ar30 (.u rfl) (.u rfl) (fun _=>by omega) (fun _=>by omega) ?_))))
   refine ld (v:=((hd 1).val (s.lv 1).length)) rfl .no Fx.ag29 (.u rfl) (fun _=>Rd.own tk5 rfl) ?_
   refine kc rfl Fx.go56 (Evc rfl Evn) (clone_ok (hd 1) (s.lv 1) _ (hs.lv 1 (by decide)) (by have:=lv_tot s (i:=1) (by decide); omega)) ?_
   rintro v57 G57 μ57 hG57 ⟨ov57,rfl⟩
   have hs:=hs.mono hG57
   have hea:=hea.mono hG57
   have hed:=hed.mono hG57
   refine fz rfl .no Fx.fo33_0 (.u rfl) (iA rfl .no Fx.ar30 (.u rfl) (.u rfl) (fun _=>by omega) (fun _=>by omega) ?_)
   refine s1v rfl (.u rfl) (.u rfl) .here Fx.sz29 tk6 (by show _<14; decide) (rfl) ?_
   refine .nil (.blk (.code (rq2 rfl rfl (arn (((1+1):Nat):Int) rfl .no (.u rfl) (.u rfl) rfl (fun _=>by omega) (fun _=>wrap_i64 (by omega) (by omega)) ?_))))
   refine mV rfl rfl (.nil (We.lpo (2,w0,v57,w2,w3,w4) ?_ ?_ ?_ ?_ ?_))
   ·exact (esC rfl (by first|rfl|exact evi (by omega)) (esD rfl (esD rfl (esD rfl eZ))))
   ·exact (mS tk2 rfl (mS tk2 rfl (mS tk2 rfl (mS tk1 rfl (mS tk2 rfl (mS .here rfl (mS tk1 rfl (mS tk1 rfl (mS tk1 rfl mN)))))))))
   ·first|omega|(dsimp only; omega)
   ·exact (hGl0).trans hG57
   (try dsimp only)<;>(first|omega|rfl|assumption|(simp; done))
  ·refine rq9 rfl rfl (mV rfl rfl (mV rfl rfl (fz rfl .no Fx.fo33_0 (.u rfl) (iA rfl .no Fx.ar30 (.u rfl) (.u rfl) (fun _=>by omega) (fun _=>by omega) ?_))))
   refine ld (v:=((hd 2).val (s.lv 2).length)) rfl .no Fx.ag29 (.u rfl) (fun _=>Rd.own tk5 rfl) ?_
   refine kc rfl Fx.go56 (Evc rfl Evn) (clone_ok (hd 2) (s.lv 2) _ (hs.lv 2 (by decide)) (by have:=lv_tot s (i:=2) (by decide); omega)) ?_
   rintro v57 G57 μ57 hG57 ⟨ov57,rfl⟩
   have hs:=hs.mono hG57
   have hea:=hea.mono hG57
   have hed:=hed.mono hG57
   refine fz rfl .no Fx.fo33_0 (.u rfl) (iA rfl .no Fx.ar30 (.u rfl) (.u rfl) (fun _=>by omega) (fun _=>by omega) ?_)
   refine s1v rfl (.u rfl) (.u rfl) .here Fx.sz29 tk6 (by show _<14; decide) (rfl) ?_
   refine .nil (.blk (.code (rq2 rfl rfl (arn (((2+1):Nat):Int) rfl .no (.u rfl) (.u rfl) rfl (fun _=>by omega) (fun _=>wrap_i64 (by omega) (by omega)) ?_))))
   refine mV rfl rfl (.nil (We.lpo (3,w0,w1,v57,w3,w4) ?_ ?_ ?_ ?_ ?_))
   ·exact (esC rfl (by first|rfl|exact evi (by omega)) (esD rfl (esD rfl (esD rfl eZ))))
   ·exact (mS tk2 rfl (mS tk2 rfl (mS tk1 rfl (mS tk2 rfl (mS tk2 rfl (mS .here rfl (mS tk1 rfl (mS tk1 rfl (mS tk1 rfl mN)))))))))
   ·first|omega|(dsimp only; omega)
   ·exact (hGl0).trans hG57
   (try dsimp only)<;>(first|omega|rfl|assumption|(simp; done))
  ·refine rq9 rfl rfl (mV rfl rfl (mV rfl rfl (fz rfl .no Fx.fo33_0 (.u rfl) (iA rfl .no Fx.ar30 (.u rfl) (.u rfl) (fun _=>by omega) (fun _=>by omega) ?_))))
   refine ld (v:=((hd 3).val (s.lv 3).length)) rfl .no Fx.ag29 (.u rfl) (fun _=>Rd.own tk5 rfl) ?_
   refine kc rfl Fx.go56 (Evc rfl Evn) (clone_ok (hd 3) (s.lv 3) _ (hs.lv 3 (by decide)) (by have:=lv_tot s (i:=3) (by decide); omega)) ?_
   rintro v57 G57 μ57 hG57 ⟨ov57,rfl⟩
   have hs:=hs.mono hG57
   have hea:=hea.mono hG57
   have hed:=hed.mono hG57
   refine fz rfl .no Fx.fo33_0 (.u rfl) (iA rfl .no Fx.ar30 (.u rfl) (.u rfl) (fun _=>by omega) (fun _=>by omega) ?_)
   refine s1v rfl (.u rfl) (.u rfl) .here Fx.sz29 tk6 (by show _<14; decide) (rfl) ?_
   refine .nil (.blk (.code (rq2 rfl rfl (arn (((3+1):Nat):Int) rfl .no (.u rfl) (.u rfl) rfl (fun _=>by omega) (fun _=>wrap_i64 (by omega) (by omega)) ?_))))
   refine mV rfl rfl (.nil (We.lpo (4,w0,w1,w2,v57,w4) ?_ ?_ ?_ ?_ ?_))
   ·exact (esC rfl (by first|rfl|exact evi (by omega)) (esD rfl (esD rfl (esD rfl eZ))))
   ·exact (mS tk2 rfl (mS tk1 rfl (mS tk2 rfl (mS tk2 rfl (mS tk2 rfl (mS .here rfl (mS tk1 rfl (mS tk1 rfl (mS tk1 rfl mN)))))))))
   ·first|omega|(dsimp only; omega)
   ·exact (hGl0).trans hG57
   (try dsimp only)<;>(first|omega|rfl|assumption|(simp; done))
  refine rq9 rfl rfl (mV rfl rfl (mV rfl rfl (fz rfl .no Fx.fo33_0 (.u rfl) (iA rfl .no Fx.ar30 (.u rfl) (.u rfl) (fun _=>by omega) (fun _=>by omega) ?_))))
  refine ld (v:=((hd 4).val (s.lv 4).length)) rfl .no Fx.ag29 (.u rfl) (fun _=>Rd.own tk5 rfl) ?_
  refine kc rfl Fx.go56 (Evc rfl Evn) (clone_ok (hd 4) (s.lv 4) _ (hs.lv 4 (by decide)) (by have:=lv_tot s (i:=4) (by decide); omega)) ?_
  rintro v57 G57 μ57 hG57 ⟨ov57,rfl⟩
  have hs:=hs.mono hG57
  have hea:=hea.mono hG57
  have hed:=hed.mono hG57
  refine fz rfl .no Fx.fo33_0 (.u rfl) (iA rfl .no Fx.ar30 (.u rfl) (.u rfl) (fun _=>by omega) (fun _=>by omega) ?_)
  refine s1v rfl (.u rfl) (.u rfl) .here Fx.sz29 tk6 (by show _<14; decide) (rfl) ?_
  refine .nil (.blk (.code (rq2 rfl rfl (arn (((4+1):Nat):Int) rfl .no (.u rfl) (.u rfl) rfl (fun _=>by omega) (fun _=>wrap_i64 (by omega) (by omega)) ?_))))
  refine mV rfl rfl (.nil (We.lpo (5,w0,w1,w2,w3,v57) ?_ ?_ ?_ ?_ ?_))
  ·exact (esC rfl (by first|rfl|exact evi (by omega)) (esD rfl (esD rfl (esD rfl eZ))))
  ·exact (mS tk1 rfl (mS tk2 rfl (mS tk2 rfl (mS tk2 rfl (mS tk2 rfl (mS .here rfl (mS tk1 rfl (mS tk1 rfl (mS tk1 rfl mN)))))))))
  ·first|omega|(dsimp only; omega)
  ·exact (hGl0).trans hG57
  (try dsimp only)<;>(first|omega|rfl|assumption|(simp; done))
 have c3k:=c3
 try simp only [qcA,qcC,qcB] at c3
 refine .exit (.xcode (.xlp (.xblk (.code (.seq (.seq (rq4 rfl rfl (fz rfl .no Fx.fo45_6 (.u rfl) (ld rfl .no Fx.ag43 (.u rfl) (fun _=>Rd.own tk7 (by first|exact wap_f rfl|rfl)) ?_)))))))))
 refine ln rfl .no Fx.sn43 (.u rfl) (mV rfl rfl (.nil (.code (.block ?_))))
 obtain rfl:k=5:=by omega
 refine Wk.lop (α:=Nat×Value×Value×Value×Value×Value×Lvs) (fun gh=>[(64,true,.int .i64 (gh.1:Int))]) (fun gh=>[rS 40 Meta.cells gh.2.2.2.2.2.1 98 (gh.2.2.2.2.2.2 4),rS 40 Meta.cells gh.2.2.2.2.1 98 (gh.2.2.2.2.2.2 3),rS 40 Meta.cells gh.2.2.2.1 98 (gh.2.2.2.2.2.2 2),rS 40 Meta.cells gh.2.2.1 98 (gh.2.2.2.2.2.2 1),rS 40 Meta.cells gh.2.1 98 (gh.2.2.2.2.2.2 0),.blk b6 (cl (xC gh.2.1 gh.2.2.1 gh.2.2.2.1 gh.2.2.2.2.1 gh.2.2.2.2.2.1 e) 33)])
  (fun gh Gl=>(gh.1≤e.drop.length)∧(foldO dropF (e.drop.take gh.1) s.lv=some gh.2.2.2.2.2.2)) (fun gh=>e.drop.length-gh.1) (0,w0,w1,w2,w3,w4,s.lv) [(3,true,_),(4,true,_),(6,true,_),(62,true,_),(63,true,_)] [_,_,_]
  (esC rfl (by first|rfl|exact evi (by omega)) (esD rfl (esD rfl (esD rfl (esD rfl (esD rfl eZ))))))
  (mS .here rfl (mS .here rfl (mS .here rfl (mS .here rfl (mS .here rfl (mS .here rfl (mS .here rfl (mS .here rfl (mS .here rfl mN))))))))) ?_ ?_
 ·refine ⟨?_,?_⟩
  ·(try dsimp only)<;>(first|omega|rfl|assumption|(simp; done))
  (try dsimp only)<;>(rfl)
 intro gh N1 Gl1 hN1 hGl1 hF1
 obtain ⟨j,w0,w1,w2,w3,w4,L⟩:=gh; dsimp only at hF1 hN1 ⊢
 obtain ⟨hj,hL⟩:=hF1
 have hs:=hs.mono hGl1
 have hea:=hea.mono hGl1
 have hed:=hed.mono hGl1
 refine .seq (rq1 rfl rfl (cp rfl .no (.u rfl) (.u rfl) rfl (.nil (.code (.seq (.cond rfl (fun c4=>?_) (fun c4=>?_)))))))
 ·have c4k:=c4
  try simp only [qcA,qcC,qcB] at c4
  refine .skip (.code (.seq (.block (.seq (rq4 rfl rfl ?_)))))
  obtain ⟨g,eg⟩:=getx (k:=j) (xs:=e.drop) (by omega)
  have hwg:=(hE.wf.drop g (List.mem_of_getElem? eg)).level
  refine ih rfl .no Fx.se43 (.u rfl) (.u rfl) (fun _=>by omega) (fun _=>by omega) (fun _=>hed.nn (k:=j) (by first|omega|(simp only [Bool.and_eq_true,decide_eq_true_eq] at hc; omega)|(simp only [List.length_cons,List.length_nil]; omega))) ?_
  refine lA rfl .no Fx.ag104 (.u rfl) (fun _=>(hed.at (by omega) eg).rd) (fun _=>rfl) ?_
  refine al rfl Fx.zr104 ?_; intro b9
  refine sw rfl (.u rfl) (.u rfl) rfl Fx.sz104 .here rfl (gones1) ?_
  refine .nil (.code (.seq (.seq (rq3 rfl rfl (fz rfl .no Fx.fo104_0 (.u rfl) (ld rfl .no FxVerP.ag5 (.u rfl) (fun _=>Rd.own .here (by first|exact wap_f rfl|rfl)) ?_))))))
  refine cp rfl .no (.u rfl) (.u rfl) rfl (.nil (.code (.cond rfl (fun c5=>?_) (fun c5=>?_))))
  ·have c5k:=c5
   try simp only [qcA,qcC,qcB] at c5
   refine .seq (rq3 rfl rfl (bC rfl .no Fx.bp33_ .nil rfl ?_))
   refine sw rfl (.u rfl) (.u rfl) rfl Fx.sz33 tk7 (by first|exact qE|exact qL|rfl) (State.one') ?_
   refine aS rfl rfl (.nil (.code (.ret (We.fin0 Tryz.results21 (.cell rfl (fun w hw=>run_loadVarN Fx.ag33 (RdN.own .here) ((by first|exact qE|exact qL|rfl)) hw) (.tmp rfl .nil)) ?_))))
   exact ⟨State.zero,hd0,180,.inr (.inl ⟨hri,ap_drop (fold_stop eg hL (dropF_high (by omega))),rfl,rfl⟩),rfl,rfl,st_zero⟩
  have c5k:=c5
  try simp only [qcA,qcC,qcB] at c5
  refine .skip (.code (.seq ?_))
  have hg5:g.level=0∨g.level=1∨g.level=2∨g.level=3∨g.level=4:=by omega
  rcases hg5 with hg5 | hg5 | hg5 | hg5 | hg5
  ·refine wk_fz .here (by intro b hb; cases hb) ?_; intro Gfb9 hleb9 hbb9
   have hs:=hs.mono hleb9
   have hea:=hea.mono hleb9
   refine rq5 rfl rfl (fa rfl .no Fx.fo104_0 (.u rfl) (ld rfl .no FxVerP.ag5 (.u rfl) (fun _=>(hbb9.rd (by rfl)).rd) ?_))
   refine fz rfl .no Fx.fo33_0 (.u rfl) (iA rfl .no Fx.ar30 (.u rfl) (.u rfl) (fun _=>by omega) (fun _=>by omega) ?_)
   rw [show 0+g.level.toNat*1=0 from by rw [hg5]; rfl]
   refine aS rfl rfl (.nil (.code (.seq ?_)))
   have hll:=dropL_len hri' hL (i:=0) (by decide)
   refine rq6 rfl rfl (mV rfl rfl (nc rfl .no (.u rfl) (ld rfl .no Fx.ag29 (.u rfl) (fun _=>Rd.own tk5 (by first|exact wap_f rfl|rfl)) ?_)))
   refine mf (vf:=#[]) (vc:=[Value.pointer (some ⟨b9,0,none⟩)].toArray) rfl .no (fun a ha _=>by simp) (fun a ha _=>by simp [(Ev.u (c:=true) rfl:Ev _ true (.tmp 9) _).eval ha rfl]) ?_
   refine ka rfl (.inr rfl) Fx.go57 (Evc rfl (Evc rfl Evn)) (mtk1 tk4) (Ct.lendS (Q:=fun ν u=>ν=[]∧u=.int .i64 (idxI (isN g) (L 0))) (fun _ _=>Meta.len _) (fun sh G2 hle hv hsl=>by subst hv; exact idx_ok sh (L 0) G2 hsl (by omega) 58 Fx.go58 [.pointer (some ⟨b9,0,none⟩)] (isN g) (fun G3 h3 m _=>same1_ok m g b9 G3 (hbb9.mono (hle.trans h3))))) ?_
   rintro _ G80 μ80 hG80 ⟨_,rfl,rfl,rfl⟩
   have hs:=hs.mono hG80
   have hea:=hea.mono hG80
   have hbb9:=hbb9.mono hG80
   refine aS rfl rfl (.nil (.code (.seq (.seq (rq2 rfl rfl (mV rfl rfl (cp rfl .no (.u rfl) (.u rfl) rfl (.nil (.code (.cond rfl (fun c6=>?_) (fun c6=>?_)))))))))))
   ·have c6k:=c6
    try simp only [qcA,qcC,qcB] at c6
    refine .seq (rq3 rfl rfl (bC rfl .no Fx.bp33_ .nil rfl ?_))
    refine sw rfl (.u rfl) (.u rfl) rfl Fx.sz33 tk6 (by first|exact qE|exact qL|rfl) (State.one') ?_
    refine aS rfl rfl (.nil (.code (.ret (We.fin0 Tryz.results21 (.cell rfl (fun w hw=>run_loadVarN Fx.ag33 (RdN.own .here) ((by first|exact qE|exact qL|rfl)) hw) (.tmp rfl .nil)) ?_))))
    exact ⟨State.zero,hd0,180,.inr (.inl ⟨hri,ap_drop (fold_stop eg hL (dropF_miss (q:=0) hg5 (by assumption))),rfl,rfl⟩),rfl,rfl,st_zero⟩
   have c6k:=c6
   try simp only [qcA,qcC,qcB] at c6
   refine .skip (.code ?_)
   obtain ⟨kk,hk1,hk2⟩ : ∃ kk:Nat,idxI (isN g) (L 0)=(kk:Int)∧kk<(L 0).length:=⟨_,(idx_lt (by omega)).2,(idx_lt (by omega)).1⟩
   rw [hk1]
   refine rq10 rfl rfl (mV rfl rfl (mV rfl rfl (nc rfl .no (.u rfl) (ld rfl .no Fx.ag29 (.u rfl) (fun _=>Rd.own tk5 (by first|exact wap_f rfl|rfl)) ?_))))
   refine mV rfl rfl (mV rfl rfl (arn (((kk+1):Nat):Int) rfl .no (.u rfl) (.u rfl) rfl (fun _=>by omega) (fun _=>wrap_i64 (by omega) (by omega)) ?_))
   refine ka rfl (.inr rfl) Fx.go59 (Evc rfl (Evc rfl (Evc rfl Evn))) (mtk1 .here) (del_ok (L 0) w0 kk _ hk2 (by omega)) ?_
   rintro v91 G91 μ91 hG91 rfl
   have hs:=hs.mono hG91
   have hea:=hea.mono hG91
   have hbb9:=hbb9.mono hG91
   refine nc rfl .no (.u rfl) (s1v rfl (.u rfl) (.u rfl) .here Fx.sz29 tk5 (by show _<14; first|decide|omega) (rfl) ?_)
   refine .nil (.blk (.code (rq2 rfl rfl (arn (((j+1):Nat):Int) rfl .no (.u rfl) (.u rfl) rfl (fun _=>by omega) (fun _=>wrap_i64 (by omega) (by omega)) ?_))))
   refine mV rfl rfl (.nil (We.lpo (j+1,v91,w1,w2,w3,w4,updL L 0 ((L 0).take kk++(L 0).drop (kk+1))) ?_ ?_ ?_ ?_ ?_))
   ·exact (esC rfl (by first|rfl|exact evi (by omega)) (esD rfl (esD rfl (esD rfl (esD rfl (esD rfl eZ))))))
   ·exact (mS tk2 rfl (mS tk2 rfl (mS tk2 rfl (mS tk2 rfl (mS tk1 rfl (mS .here rfl (mS .here rfl (mS .here rfl (mS .here rfl mN)))))))))
   ·first|omega|(dsimp only; omega)
   ·exact (((hGl1).trans hleb9).trans hG80).trans hG91
   refine ⟨?_,?_⟩
   ·(try dsimp only)<;>(first|omega|rfl|assumption|(simp; done))
   (try dsimp only)<;>(exact fold_step eg hL (dropF_hit hg5 (by decide) hk1))
  ·refine wk_fz .here (by intro b hb; cases hb) ?_; intro Gfb9 hleb9 hbb9
   have hs:=hs.mono hleb9
   have hea:=hea.mono hleb9
   refine rq5 rfl rfl (fa rfl .no Fx.fo104_0 (.u rfl) (ld rfl .no FxVerP.ag5 (.u rfl) (fun _=>(hbb9.rd (by rfl)).rd) ?_))
   refine fz rfl .no Fx.fo33_0 (.u rfl) (iA rfl .no Fx.ar30 (.u rfl) (.u rfl) (fun _=>by omega) (fun _=>by omega) ?_)
   rw [show 0+g.level.toNat*1=1 from by rw [hg5]; rfl]
   refine aS rfl rfl (.nil (.code (.seq ?_)))
   have hll:=dropL_len hri' hL (i:=1) (by decide)
   refine rq6 rfl rfl (mV rfl rfl (nc rfl .no (.u rfl) (ld rfl .no Fx.ag29 (.u rfl) (fun _=>Rd.own tk5 (by first|exact wap_f rfl|rfl)) ?_)))
   refine mf (vf:=#[]) (vc:=[Value.pointer (some ⟨b9,0,none⟩)].toArray) rfl .no (fun a ha _=>by simp) (fun a ha _=>by simp [(Ev.u (c:=true) rfl:Ev _ true (.tmp 9) _).eval ha rfl]) ?_
   refine ka rfl (.inr rfl) Fx.go57 (Evc rfl (Evc rfl Evn)) (mtk1 tk3) (Ct.lendS (Q:=fun ν u=>ν=[]∧u=.int .i64 (idxI (isN g) (L 1))) (fun _ _=>Meta.len _) (fun sh G2 hle hv hsl=>by subst hv; exact idx_ok sh (L 1) G2 hsl (by omega) 58 Fx.go58 [.pointer (some ⟨b9,0,none⟩)] (isN g) (fun G3 h3 m _=>same1_ok m g b9 G3 (hbb9.mono (hle.trans h3))))) ?_
   rintro _ G80 μ80 hG80 ⟨_,rfl,rfl,rfl⟩
   have hs:=hs.mono hG80
   have hea:=hea.mono hG80
   have hbb9:=hbb9.mono hG80
   refine aS rfl rfl (.nil (.code (.seq (.seq (rq2 rfl rfl (mV rfl rfl (cp rfl .no (.u rfl) (.u rfl) rfl (.nil (.code (.cond rfl (fun c7=>?_) (fun c7=>?_)))))))))))
   ·have c7k:=c7
    try simp only [qcA,qcC,qcB] at c7
    refine .seq (rq3 rfl rfl (bC rfl .no Fx.bp33_ .nil rfl ?_))
    refine sw rfl (.u rfl) (.u rfl) rfl Fx.sz33 tk6 (by first|exact qE|exact qL|rfl) (State.one') ?_
    refine aS rfl rfl (.nil (.code (.ret (We.fin0 Tryz.results21 (.cell rfl (fun w hw=>run_loadVarN Fx.ag33 (RdN.own .here) ((by first|exact qE|exact qL|rfl)) hw) (.tmp rfl .nil)) ?_))))
    exact ⟨State.zero,hd0,180,.inr (.inl ⟨hri,ap_drop (fold_stop eg hL (dropF_miss (q:=1) hg5 (by assumption))),rfl,rfl⟩),rfl,rfl,st_zero⟩
   have c7k:=c7
   try simp only [qcA,qcC,qcB] at c7
   refine .skip (.code ?_)
   obtain ⟨kk,hk1,hk2⟩ : ∃ kk:Nat,idxI (isN g) (L 1)=(kk:Int)∧kk<(L 1).length:=⟨_,(idx_lt (by omega)).2,(idx_lt (by omega)).1⟩
   rw [hk1]
   refine rq10 rfl rfl (mV rfl rfl (mV rfl rfl (nc rfl .no (.u rfl) (ld rfl .no Fx.ag29 (.u rfl) (fun _=>Rd.own tk5 (by first|exact wap_f rfl|rfl)) ?_))))
   refine mV rfl rfl (mV rfl rfl (arn (((kk+1):Nat):Int) rfl .no (.u rfl) (.u rfl) rfl (fun _=>by omega) (fun _=>wrap_i64 (by omega) (by omega)) ?_))
   refine ka rfl (.inr rfl) Fx.go59 (Evc rfl (Evc rfl (Evc rfl Evn))) (mtk1 .here) (del_ok (L 1) w1 kk _ hk2 (by omega)) ?_
   rintro v91 G91 μ91 hG91 rfl
   have hs:=hs.mono hG91
   have hea:=hea.mono hG91
   have hbb9:=hbb9.mono hG91
   refine nc rfl .no (.u rfl) (s1v rfl (.u rfl) (.u rfl) .here Fx.sz29 tk5 (by show _<14; first|decide|omega) (rfl) ?_)
   refine .nil (.blk (.code (rq2 rfl rfl (arn (((j+1):Nat):Int) rfl .no (.u rfl) (.u rfl) rfl (fun _=>by omega) (fun _=>wrap_i64 (by omega) (by omega)) ?_))))
   refine mV rfl rfl (.nil (We.lpo (j+1,w0,v91,w2,w3,w4,updL L 1 ((L 1).take kk++(L 1).drop (kk+1))) ?_ ?_ ?_ ?_ ?_))
   ·exact (esC rfl (by first|rfl|exact evi (by omega)) (esD rfl (esD rfl (esD rfl (esD rfl (esD rfl eZ))))))
   ·exact (mS tk2 rfl (mS tk2 rfl (mS tk2 rfl (mS tk1 rfl (mS tk1 rfl (mS .here rfl (mS .here rfl (mS .here rfl (mS .here rfl mN)))))))))
   ·first|omega|(dsimp only; omega)
   ·exact (((hGl1).trans hleb9).trans hG80).trans hG91
   refine ⟨?_,?_⟩
   ·(try dsimp only)<;>(first|omega|rfl|assumption|(simp; done))
   (try dsimp only)<;>(exact fold_step eg hL (dropF_hit hg5 (by decide) hk1))
  ·refine wk_fz .here (by intro b hb; cases hb) ?_; intro Gfb9 hleb9 hbb9
   have hs:=hs.mono hleb9
   have hea:=hea.mono hleb9
   refine rq5 rfl rfl (fa rfl .no Fx.fo104_0 (.u rfl) (ld rfl .no FxVerP.ag5 (.u rfl) (fun _=>(hbb9.rd (by rfl)).rd) ?_))
   refine fz rfl .no Fx.fo33_0 (.u rfl) (iA rfl .no Fx.ar30 (.u rfl) (.u rfl) (fun _=>by omega) (fun _=>by omega) ?_)
   rw [show 0+g.level.toNat*1=2 from by rw [hg5]; rfl]
   refine aS rfl rfl (.nil (.code (.seq ?_)))
   have hll:=dropL_len hri' hL (i:=2) (by decide)
   refine rq6 rfl rfl (mV rfl rfl (nc rfl .no (.u rfl) (ld rfl .no Fx.ag29 (.u rfl) (fun _=>Rd.own tk5 (by first|exact wap_f rfl|rfl)) ?_)))
   refine mf (vf:=#[]) (vc:=[Value.pointer (some ⟨b9,0,none⟩)].toArray) rfl .no (fun a ha _=>by simp) (fun a ha _=>by simp [(Ev.u (c:=true) rfl:Ev _ true (.tmp 9) _).eval ha rfl]) ?_
   refine ka rfl (.inr rfl) Fx.go57 (Evc rfl (Evc rfl Evn)) (mtk1 tk2) (Ct.lendS (Q:=fun ν u=>ν=[]∧u=.int .i64 (idxI (isN g) (L 2))) (fun _ _=>Meta.len _) (fun sh G2 hle hv hsl=>by subst hv; exact idx_ok sh (L 2) G2 hsl (by omega) 58 Fx.go58 [.pointer (some ⟨b9,0,none⟩)] (isN g) (fun G3 h3 m _=>same1_ok m g b9 G3 (hbb9.mono (hle.trans h3))))) ?_
   rintro _ G80 μ80 hG80 ⟨_,rfl,rfl,rfl⟩
   have hs:=hs.mono hG80
   have hea:=hea.mono hG80
   have hbb9:=hbb9.mono hG80
   refine aS rfl rfl (.nil (.code (.seq (.seq (rq2 rfl rfl (mV rfl rfl (cp rfl .no (.u rfl) (.u rfl) rfl (.nil (.code (.cond rfl (fun c8=>?_) (fun c8=>?_)))))))))))
   ·have c8k:=c8
    try simp only [qcA,qcC,qcB] at c8
    refine .seq (rq3 rfl rfl (bC rfl .no Fx.bp33_ .nil rfl ?_))
    refine sw rfl (.u rfl) (.u rfl) rfl Fx.sz33 tk6 (by first|exact qE|exact qL|rfl) (State.one') ?_
    refine aS rfl rfl (.nil (.code (.ret (We.fin0 Tryz.results21 (.cell rfl (fun w hw=>run_loadVarN Fx.ag33 (RdN.own .here) ((by first|exact qE|exact qL|rfl)) hw) (.tmp rfl .nil)) ?_))))
    exact ⟨State.zero,hd0,180,.inr (.inl ⟨hri,ap_drop (fold_stop eg hL (dropF_miss (q:=2) hg5 (by assumption))),rfl,rfl⟩),rfl,rfl,st_zero⟩
   have c8k:=c8
   try simp only [qcA,qcC,qcB] at c8
   refine .skip (.code ?_)
   obtain ⟨kk,hk1,hk2⟩ : ∃ kk:Nat,idxI (isN g) (L 2)=(kk:Int)∧kk<(L 2).length:=⟨_,(idx_lt (by omega)).2,(idx_lt (by omega)).1⟩
   rw [hk1]
   refine rq10 rfl rfl (mV rfl rfl (mV rfl rfl (nc rfl .no (.u rfl) (ld rfl .no Fx.ag29 (.u rfl) (fun _=>Rd.own tk5 (by first|exact wap_f rfl|rfl)) ?_))))
   refine mV rfl rfl (mV rfl rfl (arn (((kk+1):Nat):Int) rfl .no (.u rfl) (.u rfl) rfl (fun _=>by omega) (fun _=>wrap_i64 (by omega) (by omega)) ?_))
   refine ka rfl (.inr rfl) Fx.go59 (Evc rfl (Evc rfl (Evc rfl Evn))) (mtk1 .here) (del_ok (L 2) w2 kk _ hk2 (by omega)) ?_
   rintro v91 G91 μ91 hG91 rfl
   have hs:=hs.mono hG91
   have hea:=hea.mono hG91
   have hbb9:=hbb9.mono hG91
   refine nc rfl .no (.u rfl) (s1v rfl (.u rfl) (.u rfl) .here Fx.sz29 tk5 (by show _<14; first|decide|omega) (rfl) ?_)
   refine .nil (.blk (.code (rq2 rfl rfl (arn (((j+1):Nat):Int) rfl .no (.u rfl) (.u rfl) rfl (fun _=>by omega) (fun _=>wrap_i64 (by omega) (by omega)) ?_))))
   refine mV rfl rfl (.nil (We.lpo (j+1,w0,w1,v91,w3,w4,updL L 2 ((L 2).take kk++(L 2).drop (kk+1))) ?_ ?_ ?_ ?_ ?_))
   ·exact (esC rfl (by first|rfl|exact evi (by omega)) (esD rfl (esD rfl (esD rfl (esD rfl (esD rfl eZ))))))
   ·exact (mS tk2 rfl (mS tk2 rfl (mS tk1 rfl (mS tk1 rfl (mS tk1 rfl (mS .here rfl (mS .here rfl (mS .here rfl (mS .here rfl mN)))))))))
   ·first|omega|(dsimp only; omega)
   ·exact (((hGl1).trans hleb9).trans hG80).trans hG91
   refine ⟨?_,?_⟩
   ·(try dsimp only)<;>(first|omega|rfl|assumption|(simp; done))
   (try dsimp only)<;>(exact fold_step eg hL (dropF_hit hg5 (by decide) hk1))
  ·refine wk_fz .here (by intro b hb; cases hb) ?_; intro Gfb9 hleb9 hbb9
   have hs:=hs.mono hleb9
   have hea:=hea.mono hleb9
   refine rq5 rfl rfl (fa rfl .no Fx.fo104_0 (.u rfl) (ld rfl .no FxVerP.ag5 (.u rfl) (fun _=>(hbb9.rd (by rfl)).rd) ?_))
   refine fz rfl .no Fx.fo33_0 (.u rfl) (iA rfl .no Fx.ar30 (.u rfl) (.u rfl) (fun _=>by omega) (fun _=>by omega) ?_)
   rw [show 0+g.level.toNat*1=3 from by rw [hg5]; rfl]
   refine aS rfl rfl (.nil (.code (.seq ?_)))
   have hll:=dropL_len hri' hL (i:=3) (by decide)
   refine rq6 rfl rfl (mV rfl rfl (nc rfl .no (.u rfl) (ld rfl .no Fx.ag29 (.u rfl) (fun _=>Rd.own tk5 (by first|exact wap_f rfl|rfl)) ?_)))
   refine mf (vf:=#[]) (vc:=[Value.pointer (some ⟨b9,0,none⟩)].toArray) rfl .no (fun a ha _=>by simp) (fun a ha _=>by simp [(Ev.u (c:=true) rfl:Ev _ true (.tmp 9) _).eval ha rfl]) ?_
   refine ka rfl (.inr rfl) Fx.go57 (Evc rfl (Evc rfl Evn)) (mtk1 tk1) (Ct.lendS (Q:=fun ν u=>ν=[]∧u=.int .i64 (idxI (isN g) (L 3))) (fun _ _=>Meta.len _) (fun sh G2 hle hv hsl=>by subst hv; exact idx_ok sh (L 3) G2 hsl (by omega) 58 Fx.go58 [.pointer (some ⟨b9,0,none⟩)] (isN g) (fun G3 h3 m _=>same1_ok m g b9 G3 (hbb9.mono (hle.trans h3))))) ?_
   rintro _ G80 μ80 hG80 ⟨_,rfl,rfl,rfl⟩
   have hs:=hs.mono hG80
   have hea:=hea.mono hG80
   have hbb9:=hbb9.mono hG80
   refine aS rfl rfl (.nil (.code (.seq (.seq (rq2 rfl rfl (mV rfl rfl (cp rfl .no (.u rfl) (.u rfl) rfl (.nil (.code (.cond rfl (fun c9=>?_) (fun c9=>?_)))))))))))
   ·have c9k:=c9
    try simp only [qcA,qcC,qcB] at c9
    refine .seq (rq3 rfl rfl (bC rfl .no Fx.bp33_ .nil rfl ?_))
    refine sw rfl (.u rfl) (.u rfl) rfl Fx.sz33 tk6 (by first|exact qE|exact qL|rfl) (State.one') ?_
    refine aS rfl rfl (.nil (.code (.ret (We.fin0 Tryz.results21 (.cell rfl (fun w hw=>run_loadVarN Fx.ag33 (RdN.own .here) ((by first|exact qE|exact qL|rfl)) hw) (.tmp rfl .nil)) ?_))))
    exact ⟨State.zero,hd0,180,.inr (.inl ⟨hri,ap_drop (fold_stop eg hL (dropF_miss (q:=3) hg5 (by assumption))),rfl,rfl⟩),rfl,rfl,st_zero⟩
   have c9k:=c9
   try simp only [qcA,qcC,qcB] at c9
   refine .skip (.code ?_)
   obtain ⟨kk,hk1,hk2⟩ : ∃ kk:Nat,idxI (isN g) (L 3)=(kk:Int)∧kk<(L 3).length:=⟨_,(idx_lt (by omega)).2,(idx_lt (by omega)).1⟩
   rw [hk1]
   refine rq10 rfl rfl (mV rfl rfl (mV rfl rfl (nc rfl .no (.u rfl) (ld rfl .no Fx.ag29 (.u rfl) (fun _=>Rd.own tk5 (by first|exact wap_f rfl|rfl)) ?_))))
   refine mV rfl rfl (mV rfl rfl (arn (((kk+1):Nat):Int) rfl .no (.u rfl) (.u rfl) rfl (fun _=>by omega) (fun _=>wrap_i64 (by omega) (by omega)) ?_))
   refine ka rfl (.inr rfl) Fx.go59 (Evc rfl (Evc rfl (Evc rfl Evn))) (mtk1 .here) (del_ok (L 3) w3 kk _ hk2 (by omega)) ?_
   rintro v91 G91 μ91 hG91 rfl
   have hs:=hs.mono hG91
   have hea:=hea.mono hG91
   have hbb9:=hbb9.mono hG91
   refine nc rfl .no (.u rfl) (s1v rfl (.u rfl) (.u rfl) .here Fx.sz29 tk5 (by show _<14; first|decide|omega) (rfl) ?_)
   refine .nil (.blk (.code (rq2 rfl rfl (arn (((j+1):Nat):Int) rfl .no (.u rfl) (.u rfl) rfl (fun _=>by omega) (fun _=>wrap_i64 (by omega) (by omega)) ?_))))
   refine mV rfl rfl (.nil (We.lpo (j+1,w0,w1,w2,v91,w4,updL L 3 ((L 3).take kk++(L 3).drop (kk+1))) ?_ ?_ ?_ ?_ ?_))
   ·exact (esC rfl (by first|rfl|exact evi (by omega)) (esD rfl (esD rfl (esD rfl (esD rfl (esD rfl eZ))))))
   ·exact (mS tk2 rfl (mS tk1 rfl (mS tk1 rfl (mS tk1 rfl (mS tk1 rfl (mS .here rfl (mS .here rfl (mS .here rfl (mS .here rfl mN)))))))))
   ·first|omega|(dsimp only; omega)
   ·exact (((hGl1).trans hleb9).trans hG80).trans hG91
   refine ⟨?_,?_⟩
   ·(try dsimp only)<;>(first|omega|rfl|assumption|(simp; done))
   (try dsimp only)<;>(exact fold_step eg hL (dropF_hit hg5 (by decide) hk1))
  refine wk_fz .here (by intro b hb; cases hb) ?_; intro Gfb9 hleb9 hbb9
  have hs:=hs.mono hleb9
  have hea:=hea.mono hleb9
  refine rq5 rfl rfl (fa rfl .no Fx.fo104_0 (.u rfl) (ld rfl .no FxVerP.ag5 (.u rfl) (fun _=>(hbb9.rd (by rfl)).rd) ?_))
  refine fz rfl .no Fx.fo33_0 (.u rfl) (iA rfl .no Fx.ar30 (.u rfl) (.u rfl) (fun _=>by omega) (fun _=>by omega) ?_)
  rw [show 0+g.level.toNat*1=4 from by rw [hg5]; rfl]
  refine aS rfl rfl (.nil (.code (.seq ?_)))
  have hll:=dropL_len hri' hL (i:=4) (by decide)
  refine rq6 rfl rfl (mV rfl rfl (nc rfl .no (.u rfl) (ld rfl .no Fx.ag29 (.u rfl) (fun _=>Rd.own tk5 (by first|exact wap_f rfl|rfl)) ?_)))
  refine mf (vf:=#[]) (vc:=[Value.pointer (some ⟨b9,0,none⟩)].toArray) rfl .no (fun a ha _=>by simp) (fun a ha _=>by simp [(Ev.u (c:=true) rfl:Ev _ true (.tmp 9) _).eval ha rfl]) ?_
  refine ka rfl (.inr rfl) Fx.go57 (Evc rfl (Evc rfl Evn)) (mtk1 .here) (Ct.lendS (Q:=fun ν u=>ν=[]∧u=.int .i64 (idxI (isN g) (L 4))) (fun _ _=>Meta.len _) (fun sh G2 hle hv hsl=>by subst hv; exact idx_ok sh (L 4) G2 hsl (by omega) 58 Fx.go58 [.pointer (some ⟨b9,0,none⟩)] (isN g) (fun G3 h3 m _=>same1_ok m g b9 G3 (hbb9.mono (hle.trans h3))))) ?_
  rintro _ G80 μ80 hG80 ⟨_,rfl,rfl,rfl⟩
  have hs:=hs.mono hG80
  have hea:=hea.mono hG80
  refine aS rfl rfl (.nil (.code (.seq (.seq (rq2 rfl rfl (mV rfl rfl (cp rfl .no (.u rfl) (.u rfl) rfl (.nil (.code (.cond rfl (fun c10=>?_) (fun c10=>?_)))))))))))
  ·have c10k:=c10
   try simp only [qcA,qcC,qcB] at c10
   refine .seq (rq3 rfl rfl (bC rfl .no Fx.bp33_ .nil rfl ?_))
   refine sw rfl (.u rfl) (.u rfl) rfl Fx.sz33 tk6 (by first|exact qE|exact qL|rfl) (State.one') ?_
   refine aS rfl rfl (.nil (.code (.ret (We.fin0 Tryz.results21 (.cell rfl (fun w hw=>run_loadVarN Fx.ag33 (RdN.own .here) ((by first|exact qE|exact qL|rfl)) hw) (.tmp rfl .nil)) ?_))))
   exact ⟨State.zero,hd0,180,.inr (.inl ⟨hri,ap_drop (fold_stop eg hL (dropF_miss (q:=4) hg5 (by assumption))),rfl,rfl⟩),rfl,rfl,st_zero⟩
  have c10k:=c10
  try simp only [qcA,qcC,qcB] at c10
  refine .skip (.code ?_)
  obtain ⟨kk,hk1,hk2⟩ : ∃ kk:Nat,idxI (isN g) (L 4)=(kk:Int)∧kk<(L 4).length:=⟨_,(idx_lt (by omega)).2,(idx_lt (by omega)).1⟩
  rw [hk1]
  refine rq10 rfl rfl (mV rfl rfl (mV rfl rfl (nc rfl .no (.u rfl) (ld rfl .no Fx.ag29 (.u rfl) (fun _=>Rd.own tk5 (by first|exact wap_f rfl|rfl)) ?_))))
  refine mV rfl rfl (mV rfl rfl (arn (((kk+1):Nat):Int) rfl .no (.u rfl) (.u rfl) rfl (fun _=>by omega) (fun _=>wrap_i64 (by omega) (by omega)) ?_))
  refine ka rfl (.inr rfl) Fx.go59 (Evc rfl (Evc rfl (Evc rfl Evn))) (mtk1 .here) (del_ok (L 4) w4 kk _ hk2 (by omega)) ?_
  rintro v91 G91 μ91 hG91 rfl
  have hs:=hs.mono hG91
  have hea:=hea.mono hG91
  refine nc rfl .no (.u rfl) (s1v rfl (.u rfl) (.u rfl) .here Fx.sz29 tk5 (by show _<14; first|decide|omega) (rfl) ?_)
  refine .nil (.blk (.code (rq2 rfl rfl (arn (((j+1):Nat):Int) rfl .no (.u rfl) (.u rfl) rfl (fun _=>by omega) (fun _=>wrap_i64 (by omega) (by omega)) ?_))))
  refine mV rfl rfl (.nil (We.lpo (j+1,w0,w1,w2,w3,v91,updL L 4 ((L 4).take kk++(L 4).drop (kk+1))) ?_ ?_ ?_ ?_ ?_))
  ·exact (esC rfl (by first|rfl|exact evi (by omega)) (esD rfl (esD rfl (esD rfl (esD rfl (esD rfl eZ))))))
  ·exact (mS tk1 rfl (mS tk1 rfl (mS tk1 rfl (mS tk1 rfl (mS tk1 rfl (mS .here rfl (mS .here rfl (mS .here rfl (mS .here rfl mN)))))))))
  ·first|omega|(dsimp only; omega)
  ·exact (((hGl1).trans hleb9).trans hG80).trans hG91
  refine ⟨?_,?_⟩
  ·(try dsimp only)<;>(first|omega|rfl|assumption|(simp; done))
  (try dsimp only)<;>(exact fold_step eg hL (dropF_hit hg5 (by decide) hk1))
 have c4k:=c4
 try simp only [qcA,qcC,qcB] at c4
 refine .exit (.xcode (.xlp (.xblk (.code (.seq (.seq (rq4 rfl rfl (fz rfl .no Fx.fo45_5 (.u rfl) (ld rfl .no Fx.ag29 (.u rfl) (fun _=>Rd.own tk7 (by first|exact wap_f rfl|rfl)) ?_)))))))))
 refine ln rfl .no Fx.sn29 (.u rfl) (mV rfl rfl (.nil (.code (.block ?_))))
 obtain rfl:j=e.drop.length:=by omega
 rw [List.take_length] at hL
 refine Wk.lop (α:=Nat×Value×Value×Value×Value×Value×Lvs) (fun gh=>[(97,true,.int .i64 (gh.1:Int))]) (fun gh=>[rS 40 Meta.cells gh.2.2.2.2.2.1 98 (gh.2.2.2.2.2.2 4),rS 40 Meta.cells gh.2.2.2.2.1 98 (gh.2.2.2.2.2.2 3),rS 40 Meta.cells gh.2.2.2.1 98 (gh.2.2.2.2.2.2 2),rS 40 Meta.cells gh.2.2.1 98 (gh.2.2.2.2.2.2 1),rS 40 Meta.cells gh.2.1 98 (gh.2.2.2.2.2.2 0),.blk b6 (cl (xC gh.2.1 gh.2.2.1 gh.2.2.2.1 gh.2.2.2.2.1 gh.2.2.2.2.2.1 e) 33)])
  (fun gh Gl=>(gh.1≤e.add.length)∧(foldO addF (e.add.take gh.1) L=some gh.2.2.2.2.2.2)) (fun gh=>e.add.length-gh.1) (0,w0,w1,w2,w3,w4,L) [(4,true,_),(6,true,_),(95,true,_),(96,true,_)] [_,_,_]
  (esC rfl (by first|rfl|exact evi (by omega)) (esD rfl (esD rfl (esD rfl (esD rfl eZ)))))
  (mS .here rfl (mS .here rfl (mS .here rfl (mS .here rfl (mS .here rfl (mS .here rfl (mS .here rfl (mS .here rfl (mS .here rfl mN))))))))) ?_ ?_
 ·refine ⟨?_,?_⟩
  ·(try dsimp only)<;>(first|omega|rfl|assumption|(simp; done))
  (try dsimp only)<;>(rfl)
 intro gh N2 Gl2 hN2 hGl2 hF2
 obtain ⟨j,w0,w1,w2,w3,w4,L2⟩:=gh; dsimp only at hF2 hN2 ⊢
 obtain ⟨hj,hA⟩:=hF2
 have hs:=hs.mono hGl2
 have hea:=hea.mono hGl2
 refine .seq (rq1 rfl rfl (cp rfl .no (.u rfl) (.u rfl) rfl (.nil (.code (.seq (.cond rfl (fun c11=>?_) (fun c11=>?_)))))))
 ·have c11k:=c11
  try simp only [qcA,qcC,qcB] at c11
  refine .skip (.code (.seq (.block (.seq (rq4 rfl rfl ?_)))))
  obtain ⟨m,em⟩:=getx (k:=j) (xs:=e.add) (by omega)
  have hwm:=(hE.wf.add m (List.mem_of_getElem? em)).level
  refine ih rfl .no Fx.se29 (.u rfl) (.u rfl) (fun _=>by omega) (fun _=>by omega) (fun _=>hea.nn (k:=j) (by first|omega|(simp only [Bool.and_eq_true,decide_eq_true_eq] at hc; omega)|(simp only [List.length_cons,List.length_nil]; omega))) ?_
  refine lA rfl .no Fx.ag98 (.u rfl) (fun _=>(hea.at (by omega) em).rd) (fun _=>Meta.len _) ?_
  refine al rfl Fx.zq98 ?_; intro b13
  refine sw rfl (.u rfl) (.u rfl) rfl Fx.sz98 .here rfl (Meta.one _) ?_
  refine .nil (.code (.seq (.seq (rq3 rfl rfl (fz rfl .no Fx.fo98_0 (.u rfl) (ld rfl .no FxVerP.ag5 (.u rfl) (fun _=>Rd.own .here (by first|exact wap_f rfl|rfl)) ?_))))))
  refine cp rfl .no (.u rfl) (.u rfl) rfl (.nil (.code (.cond rfl (fun c12=>?_) (fun c12=>?_))))
  ·have c12k:=c12
   try simp only [qcA,qcC,qcB] at c12
   refine .seq (rq3 rfl rfl (bC rfl .no Fx.bp33_ .nil rfl ?_))
   refine sw rfl (.u rfl) (.u rfl) rfl Fx.sz33 tk7 (by first|exact qE|exact qL|rfl) (State.one') ?_
   refine aS rfl rfl (.nil (.code (.ret (We.fin0 Tryz.results21 (.cell rfl (fun w hw=>run_loadVarN Fx.ag33 (RdN.own .here) ((by first|exact qE|exact qL|rfl)) hw) (.tmp rfl .nil)) ?_))))
   exact ⟨State.zero,hd0,180,.inr (.inl ⟨hri,ap_add hL (fold_stop em hA (addF_high (by omega))),rfl,rfl⟩),rfl,rfl,st_zero⟩
  have c12k:=c12
  try simp only [qcA,qcC,qcB] at c12
  refine .skip (.code ?_)
  have hm5:m.level=0∨m.level=1∨m.level=2∨m.level=3∨m.level=4:=by omega
  rcases hm5 with hm5 | hm5 | hm5 | hm5 | hm5
  ·refine Wk.mix ⟨false,false⟩ FxVeSa.mix (by kernel_rfl) ?_
   have hll:=addL_len (N:=1024) hA (i:=0) (dropL_len hri' hL (by decide))
   have htk:=List.length_take_le j e.add
   refine Wt.one 0 (by kernel_rfl) ?_
   refine fz rfl .no Fx.fo98_0 (.u rfl) (.nil (Wt.one 2 (by kernel_rfl) ?_))
   refine fz rfl .no Fx.fo98_0 (.u rfl) (.nil (Wt.one 3 (by kernel_rfl) ?_))
   refine ld rfl .no FxVerP.ag5 (.u rfl) (fun _=>Rd.own .here (by first|exact wap_f rfl|rfl)) ?_
   refine .nil (Wt.one 4 (by kernel_rfl) ?_)
   refine fz rfl .no Fx.fo33_0 (.u rfl) (.nil (Wt.one 5 (by kernel_rfl) ?_))
   refine iA rfl .no Fx.ar30 (.u rfl) (.u rfl) (fun _=>by omega) (fun _=>by omega) ?_
   rw [show 0+m.level.toNat*1=0 from by rw [hm5]; rfl]
   refine .nil (Wt.one 6 (by kernel_rfl) ?_)
   refine ld rfl .no Fx.ag29 (.u rfl) (fun _=>Rd.own tk6 (by first|exact wap_f rfl|rfl)) ?_
   refine .nil (Wt.one 7 (by kernel_rfl) ?_)
   refine lA rfl .no Fx.ag98 (.u rfl) (fun _=>RdN.own .here) (fun _=>Meta.len _) ?_
   refine .nil (Wt.one 10 (by kernel_rfl) ?_)
   refine fz rfl .no Fx.fo33_0 (.u rfl) (.nil (Wt.b2 1 8 (by kernel_rfl) ?_ ?_))
   ·refine ld rfl .no FxVerP.ag5 (.u rfl) (fun _=>Rd.own .here (by first|exact wap_f rfl|rfl)) ?_
    refine .nil (Wt.b1 8 (by kernel_rfl) ?_)
    refine Go.Tan.b1 rfl Fx.se29 Fx.zw98 (.u rfl) rfl rfl (by decide) ?_; intro b113
    refine .nil (Wt.b1 9 (by kernel_rfl) ?_)
    refine apS (xs:=(L2 0)) (m) rfl Fx.se29 Fx.zw98 rfl (.u rfl) (.u rfl) tk6 .here (Meta.len _) (Meta.one _) (by omega) (by unfold maxLen; omega) ?_; intro v114 ov114
    refine .nil (Wt.one 11 (by kernel_rfl) ?_)
    refine iA rfl .no Fx.ar30 (.u rfl) (.u rfl) (fun _=>by omega) (fun _=>by omega) ?_
    rw [show 0+m.level.toNat*1=0 from by rw [hm5]; rfl]
    refine .nil (Wt.b1 12 (by kernel_rfl) ?_)
    refine s1v rfl (.u rfl) (.u rfl) .here Fx.sz29 tk7 (by show _<14; first|decide|omega) (rfl) ?_
    refine .nil (Wt.last (by kernel_rfl) ?_)
    refine .blk (.code (rq2 rfl rfl (arn (((j+1):Nat):Int) rfl .no (.u rfl) (.u rfl) rfl (fun _=>by omega) (fun _=>wrap_i64 (by omega) (by omega)) ?_)))
    refine mV rfl rfl (.nil (We.lpo (j+1,v114,w1,w2,w3,w4,updL L2 0 (L2 0++[m])) ?_ ?_ ?_ ?_ ?_))
    ·exact (esC rfl (by first|rfl|exact evi (by omega)) (esD rfl (esD rfl (esD rfl (esD rfl eZ)))))
    ·exact (mS tk4 rfl (mS tk4 rfl (mS tk4 rfl (mS tk4 rfl (mS tk1 rfl (mS .here rfl (mS tk2 rfl (mS tk2 rfl (mS tk2 rfl mN)))))))))
    ·first|omega|(dsimp only; omega)
    ·exact hGl2
    refine ⟨?_,?_⟩
    ·(try dsimp only)<;>(first|omega|rfl|assumption|(simp; done))
    (try dsimp only)<;>(exact fold_step em hA (addF_hit hm5 (by decide)))
   refine Go.Tan.b1 rfl Fx.se29 Fx.zw98 (.u rfl) rfl rfl (by decide) ?_; intro b113
   refine .nil (Wt.b2 1 9 (by kernel_rfl) ?_ ?_)
   ·refine ld rfl .no FxVerP.ag5 (.u rfl) (fun _=>Rd.own tk1 (by first|exact wap_f rfl|rfl)) ?_
    refine .nil (Wt.b1 9 (by kernel_rfl) ?_)
    refine apS (xs:=(L2 0)) (m) rfl Fx.se29 Fx.zw98 rfl (.u rfl) (.u rfl) tk6 .here (Meta.len _) (Meta.one _) (by omega) (by unfold maxLen; omega) ?_; intro v114 ov114
    refine .nil (Wt.one 11 (by kernel_rfl) ?_)
    refine iA rfl .no Fx.ar30 (.u rfl) (.u rfl) (fun _=>by omega) (fun _=>by omega) ?_
    rw [show 0+m.level.toNat*1=0 from by rw [hm5]; rfl]
    refine .nil (Wt.b1 12 (by kernel_rfl) ?_)
    refine s1v rfl (.u rfl) (.u rfl) .here Fx.sz29 tk7 (by show _<14; first|decide|omega) (rfl) ?_
    refine .nil (Wt.last (by kernel_rfl) ?_)
    refine .blk (.code (rq2 rfl rfl (arn (((j+1):Nat):Int) rfl .no (.u rfl) (.u rfl) rfl (fun _=>by omega) (fun _=>wrap_i64 (by omega) (by omega)) ?_)))
    refine mV rfl rfl (.nil (We.lpo (j+1,v114,w1,w2,w3,w4,updL L2 0 (L2 0++[m])) ?_ ?_ ?_ ?_ ?_))
    ·exact (esC rfl (by first|rfl|exact evi (by omega)) (esD rfl (esD rfl (esD rfl (esD rfl eZ)))))
    ·exact (mS tk4 rfl (mS tk4 rfl (mS tk4 rfl (mS tk4 rfl (mS tk1 rfl (mS .here rfl (mS tk2 rfl (mS tk2 rfl (mS tk2 rfl mN)))))))))
    ·first|omega|(dsimp only; omega)
    ·exact hGl2
    refine ⟨?_,?_⟩
    ·(try dsimp only)<;>(first|omega|rfl|assumption|(simp; done))
    (try dsimp only)<;>(exact fold_step em hA (addF_hit hm5 (by decide)))
   refine apS (xs:=(L2 0)) (m) rfl Fx.se29 Fx.zw98 rfl (.u rfl) (.u rfl) tk6 .here (Meta.len _) (Meta.one _) (by omega) (by unfold maxLen; omega) ?_; intro v114 ov114
   refine .nil (Wt.one 1 (by kernel_rfl) ?_)
   refine ld rfl .no FxVerP.ag5 (.u rfl) (fun _=>Rd.own tk2 (by first|exact wap_f rfl|rfl)) ?_
   refine .nil (Wt.one 11 (by kernel_rfl) ?_)
   refine iA rfl .no Fx.ar30 (.u rfl) (.u rfl) (fun _=>by omega) (fun _=>by omega) ?_
   rw [show 0+m.level.toNat*1=0 from by rw [hm5]; rfl]
   refine .nil (Wt.b1 12 (by kernel_rfl) ?_)
   refine s1v rfl (.u rfl) (.u rfl) .here Fx.sz29 tk7 (by show _<14; first|decide|omega) (rfl) ?_
   refine .nil (Wt.last (by kernel_rfl) ?_)
   refine .blk (.code (rq2 rfl rfl (arn (((j+1):Nat):Int) rfl .no (.u rfl) (.u rfl) rfl (fun _=>by omega) (fun _=>wrap_i64 (by omega) (by omega)) ?_)))
   refine mV rfl rfl (.nil (We.lpo (j+1,v114,w1,w2,w3,w4,updL L2 0 (L2 0++[m])) ?_ ?_ ?_ ?_ ?_))
   ·exact (esC rfl (by first|rfl|exact evi (by omega)) (esD rfl (esD rfl (esD rfl (esD rfl eZ)))))
   ·exact (mS tk4 rfl (mS tk4 rfl (mS tk4 rfl (mS tk4 rfl (mS tk1 rfl (mS .here rfl (mS tk2 rfl (mS tk2 rfl (mS tk2 rfl mN)))))))))
   ·first|omega|(dsimp only; omega)
   ·exact hGl2
   refine ⟨?_,?_⟩
   ·(try dsimp only)<;>(first|omega|rfl|assumption|(simp; done))
   (try dsimp only)<;>(exact fold_step em hA (addF_hit hm5 (by decide)))
  ·refine Wk.mix ⟨false,false⟩ FxVeSa.mix (by kernel_rfl) ?_
   have hll:=addL_len (N:=1024) hA (i:=1) (dropL_len hri' hL (by decide))
   have htk:=List.length_take_le j e.add
   refine Wt.one 0 (by kernel_rfl) ?_
   refine fz rfl .no Fx.fo98_0 (.u rfl) (.nil (Wt.one 2 (by kernel_rfl) ?_))
   refine fz rfl .no Fx.fo98_0 (.u rfl) (.nil (Wt.one 3 (by kernel_rfl) ?_))
   refine ld rfl .no FxVerP.ag5 (.u rfl) (fun _=>Rd.own .here (by first|exact wap_f rfl|rfl)) ?_
   refine .nil (Wt.one 4 (by kernel_rfl) ?_)
   refine fz rfl .no Fx.fo33_0 (.u rfl) (.nil (Wt.one 5 (by kernel_rfl) ?_))
   refine iA rfl .no Fx.ar30 (.u rfl) (.u rfl) (fun _=>by omega) (fun _=>by omega) ?_
   rw [show 0+m.level.toNat*1=1 from by rw [hm5]; rfl]
   refine .nil (Wt.one 6 (by kernel_rfl) ?_)
   refine ld rfl .no Fx.ag29 (.u rfl) (fun _=>Rd.own tk6 (by first|exact wap_f rfl|rfl)) ?_
   refine .nil (Wt.one 7 (by kernel_rfl) ?_)
   refine lA rfl .no Fx.ag98 (.u rfl) (fun _=>RdN.own .here) (fun _=>Meta.len _) ?_
   refine .nil (Wt.one 10 (by kernel_rfl) ?_)
   refine fz rfl .no Fx.fo33_0 (.u rfl) (.nil (Wt.b2 1 8 (by kernel_rfl) ?_ ?_))
   ·refine ld rfl .no FxVerP.ag5 (.u rfl) (fun _=>Rd.own .here (by first|exact wap_f rfl|rfl)) ?_
    refine .nil (Wt.b1 8 (by kernel_rfl) ?_)
    refine Go.Tan.b1 rfl Fx.se29 Fx.zw98 (.u rfl) rfl rfl (by decide) ?_; intro b113
    refine .nil (Wt.b1 9 (by kernel_rfl) ?_)
    refine apS (xs:=(L2 1)) (m) rfl Fx.se29 Fx.zw98 rfl (.u rfl) (.u rfl) tk5 .here (Meta.len _) (Meta.one _) (by omega) (by unfold maxLen; omega) ?_; intro v114 ov114
    refine .nil (Wt.one 11 (by kernel_rfl) ?_)
    refine iA rfl .no Fx.ar30 (.u rfl) (.u rfl) (fun _=>by omega) (fun _=>by omega) ?_
    rw [show 0+m.level.toNat*1=1 from by rw [hm5]; rfl]
    refine .nil (Wt.b1 12 (by kernel_rfl) ?_)
    refine s1v rfl (.u rfl) (.u rfl) .here Fx.sz29 tk7 (by show _<14; first|decide|omega) (rfl) ?_
    refine .nil (Wt.last (by kernel_rfl) ?_)
    refine .blk (.code (rq2 rfl rfl (arn (((j+1):Nat):Int) rfl .no (.u rfl) (.u rfl) rfl (fun _=>by omega) (fun _=>wrap_i64 (by omega) (by omega)) ?_)))
    refine mV rfl rfl (.nil (We.lpo (j+1,w0,v114,w2,w3,w4,updL L2 1 (L2 1++[m])) ?_ ?_ ?_ ?_ ?_))
    ·exact (esC rfl (by first|rfl|exact evi (by omega)) (esD rfl (esD rfl (esD rfl (esD rfl eZ)))))
    ·exact (mS tk4 rfl (mS tk4 rfl (mS tk4 rfl (mS tk1 rfl (mS tk3 rfl (mS .here rfl (mS tk2 rfl (mS tk2 rfl (mS tk2 rfl mN)))))))))
    ·first|omega|(dsimp only; omega)
    ·exact hGl2
    refine ⟨?_,?_⟩
    ·(try dsimp only)<;>(first|omega|rfl|assumption|(simp; done))
    (try dsimp only)<;>(exact fold_step em hA (addF_hit hm5 (by decide)))
   refine Go.Tan.b1 rfl Fx.se29 Fx.zw98 (.u rfl) rfl rfl (by decide) ?_; intro b113
   refine .nil (Wt.b2 1 9 (by kernel_rfl) ?_ ?_)
   ·refine ld rfl .no FxVerP.ag5 (.u rfl) (fun _=>Rd.own tk1 (by first|exact wap_f rfl|rfl)) ?_
    refine .nil (Wt.b1 9 (by kernel_rfl) ?_)
    refine apS (xs:=(L2 1)) (m) rfl Fx.se29 Fx.zw98 rfl (.u rfl) (.u rfl) tk5 .here (Meta.len _) (Meta.one _) (by omega) (by unfold maxLen; omega) ?_; intro v114 ov114
    refine .nil (Wt.one 11 (by kernel_rfl) ?_)
    refine iA rfl .no Fx.ar30 (.u rfl) (.u rfl) (fun _=>by omega) (fun _=>by omega) ?_
    rw [show 0+m.level.toNat*1=1 from by rw [hm5]; rfl]
    refine .nil (Wt.b1 12 (by kernel_rfl) ?_)
    refine s1v rfl (.u rfl) (.u rfl) .here Fx.sz29 tk7 (by show _<14; first|decide|omega) (rfl) ?_
    refine .nil (Wt.last (by kernel_rfl) ?_)
    refine .blk (.code (rq2 rfl rfl (arn (((j+1):Nat):Int) rfl .no (.u rfl) (.u rfl) rfl (fun _=>by omega) (fun _=>wrap_i64 (by omega) (by omega)) ?_)))
    refine mV rfl rfl (.nil (We.lpo (j+1,w0,v114,w2,w3,w4,updL L2 1 (L2 1++[m])) ?_ ?_ ?_ ?_ ?_))
    ·exact (esC rfl (by first|rfl|exact evi (by omega)) (esD rfl (esD rfl (esD rfl (esD rfl eZ)))))
    ·exact (mS tk4 rfl (mS tk4 rfl (mS tk4 rfl (mS tk1 rfl (mS tk3 rfl (mS .here rfl (mS tk2 rfl (mS tk2 rfl (mS tk2 rfl mN)))))))))
    ·first|omega|(dsimp only; omega)
    ·exact hGl2
    refine ⟨?_,?_⟩
    ·(try dsimp only)<;>(first|omega|rfl|assumption|(simp; done))
    (try dsimp only)<;>(exact fold_step em hA (addF_hit hm5 (by decide)))
   refine apS (xs:=(L2 1)) (m) rfl Fx.se29 Fx.zw98 rfl (.u rfl) (.u rfl) tk5 .here (Meta.len _) (Meta.one _) (by omega) (by unfold maxLen; omega) ?_; intro v114 ov114
   refine .nil (Wt.one 1 (by kernel_rfl) ?_)
   refine ld rfl .no FxVerP.ag5 (.u rfl) (fun _=>Rd.own tk2 (by first|exact wap_f rfl|rfl)) ?_
   refine .nil (Wt.one 11 (by kernel_rfl) ?_)
   refine iA rfl .no Fx.ar30 (.u rfl) (.u rfl) (fun _=>by omega) (fun _=>by omega) ?_
   rw [show 0+m.level.toNat*1=1 from by rw [hm5]; rfl]
   refine .nil (Wt.b1 12 (by kernel_rfl) ?_)
   refine s1v rfl (.u rfl) (.u rfl) .here Fx.sz29 tk7 (by show _<14; first|decide|omega) (rfl) ?_
   refine .nil (Wt.last (by kernel_rfl) ?_)
   refine .blk (.code (rq2 rfl rfl (arn (((j+1):Nat):Int) rfl .no (.u rfl) (.u rfl) rfl (fun _=>by omega) (fun _=>wrap_i64 (by omega) (by omega)) ?_)))
   refine mV rfl rfl (.nil (We.lpo (j+1,w0,v114,w2,w3,w4,updL L2 1 (L2 1++[m])) ?_ ?_ ?_ ?_ ?_))
   ·exact (esC rfl (by first|rfl|exact evi (by omega)) (esD rfl (esD rfl (esD rfl (esD rfl eZ)))))
   ·exact (mS tk4 rfl (mS tk4 rfl (mS tk4 rfl (mS tk1 rfl (mS tk3 rfl (mS .here rfl (mS tk2 rfl (mS tk2 rfl (mS tk2 rfl mN)))))))))
   ·first|omega|(dsimp only; omega)
   ·exact hGl2
   refine ⟨?_,?_⟩
   ·(try dsimp only)<;>(first|omega|rfl|assumption|(simp; done))
   (try dsimp only)<;>(exact fold_step em hA (addF_hit hm5 (by decide)))
  ·refine Wk.mix ⟨false,false⟩ FxVeSa.mix (by kernel_rfl) ?_
   have hll:=addL_len (N:=1024) hA (i:=2) (dropL_len hri' hL (by decide))
   have htk:=List.length_take_le j e.add
   refine Wt.one 0 (by kernel_rfl) ?_
   refine fz rfl .no Fx.fo98_0 (.u rfl) (.nil (Wt.one 2 (by kernel_rfl) ?_))
   refine fz rfl .no Fx.fo98_0 (.u rfl) (.nil (Wt.one 3 (by kernel_rfl) ?_))
   refine ld rfl .no FxVerP.ag5 (.u rfl) (fun _=>Rd.own .here (by first|exact wap_f rfl|rfl)) ?_
   refine .nil (Wt.one 4 (by kernel_rfl) ?_)
   refine fz rfl .no Fx.fo33_0 (.u rfl) (.nil (Wt.one 5 (by kernel_rfl) ?_))
   refine iA rfl .no Fx.ar30 (.u rfl) (.u rfl) (fun _=>by omega) (fun _=>by omega) ?_
   rw [show 0+m.level.toNat*1=2 from by rw [hm5]; rfl]
   refine .nil (Wt.one 6 (by kernel_rfl) ?_)
   refine ld rfl .no Fx.ag29 (.u rfl) (fun _=>Rd.own tk6 (by first|exact wap_f rfl|rfl)) ?_
   refine .nil (Wt.one 7 (by kernel_rfl) ?_)
   refine lA rfl .no Fx.ag98 (.u rfl) (fun _=>RdN.own .here) (fun _=>Meta.len _) ?_
   refine .nil (Wt.one 10 (by kernel_rfl) ?_)
   refine fz rfl .no Fx.fo33_0 (.u rfl) (.nil (Wt.b2 1 8 (by kernel_rfl) ?_ ?_))
   ·refine ld rfl .no FxVerP.ag5 (.u rfl) (fun _=>Rd.own .here (by first|exact wap_f rfl|rfl)) ?_
    refine .nil (Wt.b1 8 (by kernel_rfl) ?_)
    refine Go.Tan.b1 rfl Fx.se29 Fx.zw98 (.u rfl) rfl rfl (by decide) ?_; intro b113
    refine .nil (Wt.b1 9 (by kernel_rfl) ?_)
    refine apS (xs:=(L2 2)) (m) rfl Fx.se29 Fx.zw98 rfl (.u rfl) (.u rfl) tk4 .here (Meta.len _) (Meta.one _) (by omega) (by unfold maxLen; omega) ?_; intro v114 ov114
    refine .nil (Wt.one 11 (by kernel_rfl) ?_)
    refine iA rfl .no Fx.ar30 (.u rfl) (.u rfl) (fun _=>by omega) (fun _=>by omega) ?_
    rw [show 0+m.level.toNat*1=2 from by rw [hm5]; rfl]
    refine .nil (Wt.b1 12 (by kernel_rfl) ?_)
    refine s1v rfl (.u rfl) (.u rfl) .here Fx.sz29 tk7 (by show _<14; first|decide|omega) (rfl) ?_
    refine .nil (Wt.last (by kernel_rfl) ?_)
    refine .blk (.code (rq2 rfl rfl (arn (((j+1):Nat):Int) rfl .no (.u rfl) (.u rfl) rfl (fun _=>by omega) (fun _=>wrap_i64 (by omega) (by omega)) ?_)))
    refine mV rfl rfl (.nil (We.lpo (j+1,w0,w1,v114,w3,w4,updL L2 2 (L2 2++[m])) ?_ ?_ ?_ ?_ ?_))
    ·exact (esC rfl (by first|rfl|exact evi (by omega)) (esD rfl (esD rfl (esD rfl (esD rfl eZ)))))
    ·exact (mS tk4 rfl (mS tk4 rfl (mS tk1 rfl (mS tk3 rfl (mS tk3 rfl (mS .here rfl (mS tk2 rfl (mS tk2 rfl (mS tk2 rfl mN)))))))))
    ·first|omega|(dsimp only; omega)
    ·exact hGl2
    refine ⟨?_,?_⟩
    ·(try dsimp only)<;>(first|omega|rfl|assumption|(simp; done))
    (try dsimp only)<;>(exact fold_step em hA (addF_hit hm5 (by decide)))
   refine Go.Tan.b1 rfl Fx.se29 Fx.zw98 (.u rfl) rfl rfl (by decide) ?_; intro b113
   refine .nil (Wt.b2 1 9 (by kernel_rfl) ?_ ?_)
   ·refine ld rfl .no FxVerP.ag5 (.u rfl) (fun _=>Rd.own tk1 (by first|exact wap_f rfl|rfl)) ?_
    refine .nil (Wt.b1 9 (by kernel_rfl) ?_)
    refine apS (xs:=(L2 2)) (m) rfl Fx.se29 Fx.zw98 rfl (.u rfl) (.u rfl) tk4 .here (Meta.len _) (Meta.one _) (by omega) (by unfold maxLen; omega) ?_; intro v114 ov114
    refine .nil (Wt.one 11 (by kernel_rfl) ?_)
    refine iA rfl .no Fx.ar30 (.u rfl) (.u rfl) (fun _=>by omega) (fun _=>by omega) ?_
    rw [show 0+m.level.toNat*1=2 from by rw [hm5]; rfl]
    refine .nil (Wt.b1 12 (by kernel_rfl) ?_)
    refine s1v rfl (.u rfl) (.u rfl) .here Fx.sz29 tk7 (by show _<14; first|decide|omega) (rfl) ?_
    refine .nil (Wt.last (by kernel_rfl) ?_)
    refine .blk (.code (rq2 rfl rfl (arn (((j+1):Nat):Int) rfl .no (.u rfl) (.u rfl) rfl (fun _=>by omega) (fun _=>wrap_i64 (by omega) (by omega)) ?_)))
    refine mV rfl rfl (.nil (We.lpo (j+1,w0,w1,v114,w3,w4,updL L2 2 (L2 2++[m])) ?_ ?_ ?_ ?_ ?_))
    ·exact (esC rfl (by first|rfl|exact evi (by omega)) (esD rfl (esD rfl (esD rfl (esD rfl eZ)))))
    ·exact (mS tk4 rfl (mS tk4 rfl (mS tk1 rfl (mS tk3 rfl (mS tk3 rfl (mS .here rfl (mS tk2 rfl (mS tk2 rfl (mS tk2 rfl mN)))))))))
    ·first|omega|(dsimp only; omega)
    ·exact hGl2
    refine ⟨?_,?_⟩
    ·(try dsimp only)<;>(first|omega|rfl|assumption|(simp; done))
    (try dsimp only)<;>(exact fold_step em hA (addF_hit hm5 (by decide)))
   refine apS (xs:=(L2 2)) (m) rfl Fx.se29 Fx.zw98 rfl (.u rfl) (.u rfl) tk4 .here (Meta.len _) (Meta.one _) (by omega) (by unfold maxLen; omega) ?_; intro v114 ov114
   refine .nil (Wt.one 1 (by kernel_rfl) ?_)
   refine ld rfl .no FxVerP.ag5 (.u rfl) (fun _=>Rd.own tk2 (by first|exact wap_f rfl|rfl)) ?_
   refine .nil (Wt.one 11 (by kernel_rfl) ?_)
   refine iA rfl .no Fx.ar30 (.u rfl) (.u rfl) (fun _=>by omega) (fun _=>by omega) ?_
   rw [show 0+m.level.toNat*1=2 from by rw [hm5]; rfl]
   refine .nil (Wt.b1 12 (by kernel_rfl) ?_)
   refine s1v rfl (.u rfl) (.u rfl) .here Fx.sz29 tk7 (by show _<14; first|decide|omega) (rfl) ?_
   refine .nil (Wt.last (by kernel_rfl) ?_)
   refine .blk (.code (rq2 rfl rfl (arn (((j+1):Nat):Int) rfl .no (.u rfl) (.u rfl) rfl (fun _=>by omega) (fun _=>wrap_i64 (by omega) (by omega)) ?_)))
   refine mV rfl rfl (.nil (We.lpo (j+1,w0,w1,v114,w3,w4,updL L2 2 (L2 2++[m])) ?_ ?_ ?_ ?_ ?_))
   ·exact (esC rfl (by first|rfl|exact evi (by omega)) (esD rfl (esD rfl (esD rfl (esD rfl eZ)))))
   ·exact (mS tk4 rfl (mS tk4 rfl (mS tk1 rfl (mS tk3 rfl (mS tk3 rfl (mS .here rfl (mS tk2 rfl (mS tk2 rfl (mS tk2 rfl mN)))))))))
   ·first|omega|(dsimp only; omega)
   ·exact hGl2
   refine ⟨?_,?_⟩
   ·(try dsimp only)<;>(first|omega|rfl|assumption|(simp; done))
   (try dsimp only)<;>(exact fold_step em hA (addF_hit hm5 (by decide)))
  ·refine Wk.mix ⟨false,false⟩ FxVeSa.mix (by kernel_rfl) ?_
   have hll:=addL_len (N:=1024) hA (i:=3) (dropL_len hri' hL (by decide))
   have htk:=List.length_take_le j e.add
   refine Wt.one 0 (by kernel_rfl) ?_
   refine fz rfl .no Fx.fo98_0 (.u rfl) (.nil (Wt.one 2 (by kernel_rfl) ?_))
   refine fz rfl .no Fx.fo98_0 (.u rfl) (.nil (Wt.one 3 (by kernel_rfl) ?_))
   refine ld rfl .no FxVerP.ag5 (.u rfl) (fun _=>Rd.own .here (by first|exact wap_f rfl|rfl)) ?_
   refine .nil (Wt.one 4 (by kernel_rfl) ?_)
   refine fz rfl .no Fx.fo33_0 (.u rfl) (.nil (Wt.one 5 (by kernel_rfl) ?_))
   refine iA rfl .no Fx.ar30 (.u rfl) (.u rfl) (fun _=>by omega) (fun _=>by omega) ?_
   rw [show 0+m.level.toNat*1=3 from by rw [hm5]; rfl]
   refine .nil (Wt.one 6 (by kernel_rfl) ?_)
   refine ld rfl .no Fx.ag29 (.u rfl) (fun _=>Rd.own tk6 (by first|exact wap_f rfl|rfl)) ?_
   refine .nil (Wt.one 7 (by kernel_rfl) ?_)
   refine lA rfl .no Fx.ag98 (.u rfl) (fun _=>RdN.own .here) (fun _=>Meta.len _) ?_
   refine .nil (Wt.one 10 (by kernel_rfl) ?_)
   refine fz rfl .no Fx.fo33_0 (.u rfl) (.nil (Wt.b2 1 8 (by kernel_rfl) ?_ ?_))
   ·refine ld rfl .no FxVerP.ag5 (.u rfl) (fun _=>Rd.own .here (by first|exact wap_f rfl|rfl)) ?_
    refine .nil (Wt.b1 8 (by kernel_rfl) ?_)
    refine Go.Tan.b1 rfl Fx.se29 Fx.zw98 (.u rfl) rfl rfl (by decide) ?_; intro b113
    refine .nil (Wt.b1 9 (by kernel_rfl) ?_)
    refine apS (xs:=(L2 3)) (m) rfl Fx.se29 Fx.zw98 rfl (.u rfl) (.u rfl) tk3 .here (Meta.len _) (Meta.one _) (by omega) (by unfold maxLen; omega) ?_; intro v114 ov114
    refine .nil (Wt.one 11 (by kernel_rfl) ?_)
    refine iA rfl .no Fx.ar30 (.u rfl) (.u rfl) (fun _=>by omega) (fun _=>by omega) ?_
    rw [show 0+m.level.toNat*1=3 from by rw [hm5]; rfl]
    refine .nil (Wt.b1 12 (by kernel_rfl) ?_)
    refine s1v rfl (.u rfl) (.u rfl) .here Fx.sz29 tk7 (by show _<14; first|decide|omega) (rfl) ?_
    refine .nil (Wt.last (by kernel_rfl) ?_)
    refine .blk (.code (rq2 rfl rfl (arn (((j+1):Nat):Int) rfl .no (.u rfl) (.u rfl) rfl (fun _=>by omega) (fun _=>wrap_i64 (by omega) (by omega)) ?_)))
    refine mV rfl rfl (.nil (We.lpo (j+1,w0,w1,w2,v114,w4,updL L2 3 (L2 3++[m])) ?_ ?_ ?_ ?_ ?_))
    ·exact (esC rfl (by first|rfl|exact evi (by omega)) (esD rfl (esD rfl (esD rfl (esD rfl eZ)))))
    ·exact (mS tk4 rfl (mS tk1 rfl (mS tk3 rfl (mS tk3 rfl (mS tk3 rfl (mS .here rfl (mS tk2 rfl (mS tk2 rfl (mS tk2 rfl mN)))))))))
    ·first|omega|(dsimp only; omega)
    ·exact hGl2
    refine ⟨?_,?_⟩
    ·(try dsimp only)<;>(first|omega|rfl|assumption|(simp; done))
    (try dsimp only)<;>(exact fold_step em hA (addF_hit hm5 (by decide)))
   refine Go.Tan.b1 rfl Fx.se29 Fx.zw98 (.u rfl) rfl rfl (by decide) ?_; intro b113
   refine .nil (Wt.b2 1 9 (by kernel_rfl) ?_ ?_)
   ·refine ld rfl .no FxVerP.ag5 (.u rfl) (fun _=>Rd.own tk1 (by first|exact wap_f rfl|rfl)) ?_
    refine .nil (Wt.b1 9 (by kernel_rfl) ?_)
    refine apS (xs:=(L2 3)) (m) rfl Fx.se29 Fx.zw98 rfl (.u rfl) (.u rfl) tk3 .here (Meta.len _) (Meta.one _) (by omega) (by unfold maxLen; omega) ?_; intro v114 ov114
    refine .nil (Wt.one 11 (by kernel_rfl) ?_)
    refine iA rfl .no Fx.ar30 (.u rfl) (.u rfl) (fun _=>by omega) (fun _=>by omega) ?_
    rw [show 0+m.level.toNat*1=3 from by rw [hm5]; rfl]
    refine .nil (Wt.b1 12 (by kernel_rfl) ?_)
    refine s1v rfl (.u rfl) (.u rfl) .here Fx.sz29 tk7 (by show _<14; first|decide|omega) (rfl) ?_
    refine .nil (Wt.last (by kernel_rfl) ?_)
    refine .blk (.code (rq2 rfl rfl (arn (((j+1):Nat):Int) rfl .no (.u rfl) (.u rfl) rfl (fun _=>by omega) (fun _=>wrap_i64 (by omega) (by omega)) ?_)))
    refine mV rfl rfl (.nil (We.lpo (j+1,w0,w1,w2,v114,w4,updL L2 3 (L2 3++[m])) ?_ ?_ ?_ ?_ ?_))
    ·exact (esC rfl (by first|rfl|exact evi (by omega)) (esD rfl (esD rfl (esD rfl (esD rfl eZ)))))
    ·exact (mS tk4 rfl (mS tk1 rfl (mS tk3 rfl (mS tk3 rfl (mS tk3 rfl (mS .here rfl (mS tk2 rfl (mS tk2 rfl (mS tk2 rfl mN)))))))))
    ·first|omega|(dsimp only; omega)
    ·exact hGl2
    refine ⟨?_,?_⟩
    ·(try dsimp only)<;>(first|omega|rfl|assumption|(simp; done))
    (try dsimp only)<;>(exact fold_step em hA (addF_hit hm5 (by decide)))
   refine apS (xs:=(L2 3)) (m) rfl Fx.se29 Fx.zw98 rfl (.u rfl) (.u rfl) tk3 .here (Meta.len _) (Meta.one _) (by omega) (by unfold maxLen; omega) ?_; intro v114 ov114
   refine .nil (Wt.one 1 (by kernel_rfl) ?_)
   refine ld rfl .no FxVerP.ag5 (.u rfl) (fun _=>Rd.own tk2 (by first|exact wap_f rfl|rfl)) ?_
   refine .nil (Wt.one 11 (by kernel_rfl) ?_)
   refine iA rfl .no Fx.ar30 (.u rfl) (.u rfl) (fun _=>by omega) (fun _=>by omega) ?_
   rw [show 0+m.level.toNat*1=3 from by rw [hm5]; rfl]
   refine .nil (Wt.b1 12 (by kernel_rfl) ?_)
   refine s1v rfl (.u rfl) (.u rfl) .here Fx.sz29 tk7 (by show _<14; first|decide|omega) (rfl) ?_
   refine .nil (Wt.last (by kernel_rfl) ?_)
   refine .blk (.code (rq2 rfl rfl (arn (((j+1):Nat):Int) rfl .no (.u rfl) (.u rfl) rfl (fun _=>by omega) (fun _=>wrap_i64 (by omega) (by omega)) ?_)))
   refine mV rfl rfl (.nil (We.lpo (j+1,w0,w1,w2,v114,w4,updL L2 3 (L2 3++[m])) ?_ ?_ ?_ ?_ ?_))
   ·exact (esC rfl (by first|rfl|exact evi (by omega)) (esD rfl (esD rfl (esD rfl (esD rfl eZ)))))
   ·exact (mS tk4 rfl (mS tk1 rfl (mS tk3 rfl (mS tk3 rfl (mS tk3 rfl (mS .here rfl (mS tk2 rfl (mS tk2 rfl (mS tk2 rfl mN)))))))))
   ·first|omega|(dsimp only; omega)
   ·exact hGl2
   refine ⟨?_,?_⟩
   ·(try dsimp only)<;>(first|omega|rfl|assumption|(simp; done))
   (try dsimp only)<;>(exact fold_step em hA (addF_hit hm5 (by decide)))
  refine Wk.mix ⟨false,false⟩ FxVeSa.mix (by kernel_rfl) ?_
  have hll:=addL_len (N:=1024) hA (i:=4) (dropL_len hri' hL (by decide))
  have htk:=List.length_take_le j e.add
  refine Wt.one 0 (by kernel_rfl) ?_
  refine fz rfl .no Fx.fo98_0 (.u rfl) (.nil (Wt.one 2 (by kernel_rfl) ?_))
  refine fz rfl .no Fx.fo98_0 (.u rfl) (.nil (Wt.one 3 (by kernel_rfl) ?_))
  refine ld rfl .no FxVerP.ag5 (.u rfl) (fun _=>Rd.own .here (by first|exact wap_f rfl|rfl)) ?_
  refine .nil (Wt.one 4 (by kernel_rfl) ?_)
  refine fz rfl .no Fx.fo33_0 (.u rfl) (.nil (Wt.one 5 (by kernel_rfl) ?_))
  refine iA rfl .no Fx.ar30 (.u rfl) (.u rfl) (fun _=>by omega) (fun _=>by omega) ?_
  rw [show 0+m.level.toNat*1=4 from by rw [hm5]; rfl]
  refine .nil (Wt.one 6 (by kernel_rfl) ?_)
  refine ld rfl .no Fx.ag29 (.u rfl) (fun _=>Rd.own tk6 (by first|exact wap_f rfl|rfl)) ?_
  refine .nil (Wt.one 7 (by kernel_rfl) ?_)
  refine lA rfl .no Fx.ag98 (.u rfl) (fun _=>RdN.own .here) (fun _=>Meta.len _) ?_
  refine .nil (Wt.one 10 (by kernel_rfl) ?_)
  refine fz rfl .no Fx.fo33_0 (.u rfl) (.nil (Wt.b2 1 8 (by kernel_rfl) ?_ ?_))
  ·refine ld rfl .no FxVerP.ag5 (.u rfl) (fun _=>Rd.own .here (by first|exact wap_f rfl|rfl)) ?_
   refine .nil (Wt.b1 8 (by kernel_rfl) ?_)
   refine Go.Tan.b1 rfl Fx.se29 Fx.zw98 (.u rfl) rfl rfl (by decide) ?_; intro b113
   refine .nil (Wt.b1 9 (by kernel_rfl) ?_)
   refine apS (xs:=(L2 4)) (m) rfl Fx.se29 Fx.zw98 rfl (.u rfl) (.u rfl) tk2 .here (Meta.len _) (Meta.one _) (by omega) (by unfold maxLen; omega) ?_; intro v114 ov114
   refine .nil (Wt.one 11 (by kernel_rfl) ?_)
   refine iA rfl .no Fx.ar30 (.u rfl) (.u rfl) (fun _=>by omega) (fun _=>by omega) ?_
   rw [show 0+m.level.toNat*1=4 from by rw [hm5]; rfl]
   refine .nil (Wt.b1 12 (by kernel_rfl) ?_)
   refine s1v rfl (.u rfl) (.u rfl) .here Fx.sz29 tk7 (by show _<14; first|decide|omega) (rfl) ?_
   refine .nil (Wt.last (by kernel_rfl) ?_)
   refine .blk (.code (rq2 rfl rfl (arn (((j+1):Nat):Int) rfl .no (.u rfl) (.u rfl) rfl (fun _=>by omega) (fun _=>wrap_i64 (by omega) (by omega)) ?_)))
   refine mV rfl rfl (.nil (We.lpo (j+1,w0,w1,w2,w3,v114,updL L2 4 (L2 4++[m])) ?_ ?_ ?_ ?_ ?_))
   ·exact (esC rfl (by first|rfl|exact evi (by omega)) (esD rfl (esD rfl (esD rfl (esD rfl eZ)))))
   ·exact (mS tk1 rfl (mS tk3 rfl (mS tk3 rfl (mS tk3 rfl (mS tk3 rfl (mS .here rfl (mS tk2 rfl (mS tk2 rfl (mS tk2 rfl mN)))))))))
   ·first|omega|(dsimp only; omega)
   ·exact hGl2
   refine ⟨?_,?_⟩
   ·(try dsimp only)<;>(first|omega|rfl|assumption|(simp; done))
   (try dsimp only)<;>(exact fold_step em hA (addF_hit hm5 (by decide)))
  refine Go.Tan.b1 rfl Fx.se29 Fx.zw98 (.u rfl) rfl rfl (by decide) ?_; intro b113
  refine .nil (Wt.b2 1 9 (by kernel_rfl) ?_ ?_)
  ·refine ld rfl .no FxVerP.ag5 (.u rfl) (fun _=>Rd.own tk1 (by first|exact wap_f rfl|rfl)) ?_
   refine .nil (Wt.b1 9 (by kernel_rfl) ?_)
   refine apS (xs:=(L2 4)) (m) rfl Fx.se29 Fx.zw98 rfl (.u rfl) (.u rfl) tk2 .here (Meta.len _) (Meta.one _) (by omega) (by unfold maxLen; omega) ?_; intro v114 ov114
   refine .nil (Wt.one 11 (by kernel_rfl) ?_)
   refine iA rfl .no Fx.ar30 (.u rfl) (.u rfl) (fun _=>by omega) (fun _=>by omega) ?_
   rw [show 0+m.level.toNat*1=4 from by rw [hm5]; rfl]
   refine .nil (Wt.b1 12 (by kernel_rfl) ?_)
   refine s1v rfl (.u rfl) (.u rfl) .here Fx.sz29 tk7 (by show _<14; first|decide|omega) (rfl) ?_
   refine .nil (Wt.last (by kernel_rfl) ?_)
   refine .blk (.code (rq2 rfl rfl (arn (((j+1):Nat):Int) rfl .no (.u rfl) (.u rfl) rfl (fun _=>by omega) (fun _=>wrap_i64 (by omega) (by omega)) ?_)))
   refine mV rfl rfl (.nil (We.lpo (j+1,w0,w1,w2,w3,v114,updL L2 4 (L2 4++[m])) ?_ ?_ ?_ ?_ ?_))
   ·exact (esC rfl (by first|rfl|exact evi (by omega)) (esD rfl (esD rfl (esD rfl (esD rfl eZ)))))
   ·exact (mS tk1 rfl (mS tk3 rfl (mS tk3 rfl (mS tk3 rfl (mS tk3 rfl (mS .here rfl (mS tk2 rfl (mS tk2 rfl (mS tk2 rfl mN)))))))))
   ·first|omega|(dsimp only; omega)
   ·exact hGl2
   refine ⟨?_,?_⟩
   ·(try dsimp only)<;>(first|omega|rfl|assumption|(simp; done))
   (try dsimp only)<;>(exact fold_step em hA (addF_hit hm5 (by decide)))
  refine apS (xs:=(L2 4)) (m) rfl Fx.se29 Fx.zw98 rfl (.u rfl) (.u rfl) tk2 .here (Meta.len _) (Meta.one _) (by omega) (by unfold maxLen; omega) ?_; intro v114 ov114
  refine .nil (Wt.one 1 (by kernel_rfl) ?_)
  refine ld rfl .no FxVerP.ag5 (.u rfl) (fun _=>Rd.own tk2 (by first|exact wap_f rfl|rfl)) ?_
  refine .nil (Wt.one 11 (by kernel_rfl) ?_)
  refine iA rfl .no Fx.ar30 (.u rfl) (.u rfl) (fun _=>by omega) (fun _=>by omega) ?_
  rw [show 0+m.level.toNat*1=4 from by rw [hm5]; rfl]
  refine .nil (Wt.b1 12 (by kernel_rfl) ?_)
  refine s1v rfl (.u rfl) (.u rfl) .here Fx.sz29 tk7 (by show _<14; first|decide|omega) (rfl) ?_
  refine .nil (Wt.last (by kernel_rfl) ?_)
  refine .blk (.code (rq2 rfl rfl (arn (((j+1):Nat):Int) rfl .no (.u rfl) (.u rfl) rfl (fun _=>by omega) (fun _=>wrap_i64 (by omega) (by omega)) ?_)))
  refine mV rfl rfl (.nil (We.lpo (j+1,w0,w1,w2,w3,v114,updL L2 4 (L2 4++[m])) ?_ ?_ ?_ ?_ ?_))
  ·exact (esC rfl (by first|rfl|exact evi (by omega)) (esD rfl (esD rfl (esD rfl (esD rfl eZ)))))
  ·exact (mS tk1 rfl (mS tk3 rfl (mS tk3 rfl (mS tk3 rfl (mS tk3 rfl (mS .here rfl (mS tk2 rfl (mS tk2 rfl (mS tk2 rfl mN)))))))))
  ·first|omega|(dsimp only; omega)
  ·exact hGl2
  refine ⟨?_,?_⟩
  ·(try dsimp only)<;>(first|omega|rfl|assumption|(simp; done))
  (try dsimp only)<;>(exact fold_step em hA (addF_hit hm5 (by decide)))
 have c11k:=c11
 try simp only [qcA,qcC,qcB] at c11
 refine .exit (.xcode (.xlp (.xblk (.code (.seq (.seq (rq3 rfl rfl (fz rfl .no Fx.fo33_0 (.u rfl) (lA rfl .no Fx.ag30 (.u rfl) (fun _=>RdN.part (n:=5) (cs':=[w0,w1,w2,w3,w4]) tk5 (rfl)) (fun _=>rfl) ?_)))))))))
 refine mV rfl rfl (.nil (.code (.block ?_)))
 obtain rfl:j=e.add.length:=by omega
 rw [List.take_length] at hA
 have hL2l:∀ i,i<5→(L2 i).length≤2048:=fun i hi=>by have:=addL_len (N:=1024) hA (i:=i) (dropL_len hri' hL hi); omega
 refine Wk.lop (α:=Nat×Lvs) (fun gh=>[(120,true,.int .i64 (gh.1:Int))]) (fun gh=>[rS 40 Meta.cells w4 98 (gh.2 4),rS 40 Meta.cells w3 98 (gh.2 3),rS 40 Meta.cells w2 98 (gh.2 2),rS 40 Meta.cells w1 98 (gh.2 1),rS 40 Meta.cells w0 98 (gh.2 0)])
  (fun gh Gl=>(gh.1≤5)∧(∀ i,gh.2 i=if i<gh.1 then srtL L2 i else L2 i)) (fun gh=>5-gh.1) (0,L2) [(4,true,_),(6,true,_),(119,true,_)] [_,_,_,_]
  (esC rfl (by first|rfl|exact evi (by omega)) (esD rfl (esD rfl (esD rfl eZ))))
  (mS .here rfl (mS .here rfl (mS .here rfl (mS .here rfl (mS .here rfl (mS .here rfl (mS .here rfl (mS .here rfl (mS .here rfl mN))))))))) ?_ ?_
 ·refine ⟨?_,?_⟩
  ·(try dsimp only)<;>(first|omega|rfl|assumption|(simp; done))
  (try dsimp only)<;>(exact fun i=>rfl)
 intro gh N3 Gl3 hN3 hGl3 hF3
 obtain ⟨k,M⟩:=gh; dsimp only at hF3 hN3 ⊢
 obtain ⟨hk,hM⟩:=hF3
 have hs:=hs.mono hGl3
 refine .seq (rq1 rfl rfl (cp rfl .no (.u rfl) (.u rfl) rfl (.nil (.code (.seq (.cond rfl (fun c13=>?_) (fun c13=>?_)))))))
 ·have c13k:=c13
  try simp only [qcA,qcC,qcB] at c13
  refine .skip (.code (.seq (.block (.seq ?_))))
  rcases (show k=0∨k=1∨k=2∨k=3∨k=4 by omega) with rfl|rfl|rfl|rfl|rfl
  ·refine rq5 rfl rfl (mV rfl rfl (ix rfl .no Fx.ar30 Fx.ag29 (.u rfl) (.u rfl) (fun _=>by decide) (fun _=>by decide) (fun _=>rfl) ?_))
   refine al rfl Fx.zr3 ?_; intro b14
   refine s1 rfl (.u rfl) (.u rfl) rfl FxVerT.sz3 .here (by decide) (rfl) ?_
   refine aS rfl rfl (.nil (.code ?_))
   refine wk_fz .here (by intro b hb; cases hb) ?_; intro Gfb14 hleb14 hbb14
   have hs:=hs.mono hleb14
   refine rq3 rfl rfl (mV rfl rfl (mf (vf:=#[]) (vc:=[Value.pointer (some ⟨b14,0,none⟩)].toArray) rfl .no (fun a ha _=>by simp) (fun a ha _=>by simp [(Ev.u (c:=true) rfl:Ev _ true (.tmp 14) _).eval ha rfl]) ?_))
   refine ka rfl (.inr rfl) Fx.go60 (Evc rfl (Evc rfl Evn)) (mtk1 tk4) (ssf_ok (M 0) w0 61 Fx.go61 [.pointer (some ⟨b14,0,none⟩)] (lvC 0) _ (lvC_cmp 0 b14 hbb14) (lvC_wk 0) (by rw [hM 0,if_neg (by decide)]; have:=hL2l 0 (by decide); omega)) ?_
   rintro _ G126 μ126 hG126 ⟨rfl,rfl⟩
   have hs:=hs.mono hG126
   have hbb14:=hbb14.mono hG126
   refine .nil (.blk (.code (rq2 rfl rfl (arn (((0+1):Nat):Int) rfl .no (.u rfl) (.u rfl) rfl (fun _=>by omega) (fun _=>wrap_i64 (by omega) (by omega)) ?_))))
   refine mV rfl rfl (.nil (We.lpo (1,updL M 0 (sortS (ltv (lvC 0)) (M 0))) ?_ ?_ ?_ ?_ ?_))
   ·exact (esC rfl (by first|rfl|exact evi (by omega)) (esD rfl (esD rfl (esD rfl eZ))))
   ·exact (mS tk1 rfl (mS tk1 rfl (mS tk1 rfl (mS tk1 rfl (mS .here rfl (mS .here rfl (mS .here rfl (mS .here rfl (mS .here rfl mN)))))))))
   ·first|omega|(dsimp only; omega)
   ·exact ((hGl3).trans hleb14).trans hG126
   refine ⟨?_,?_⟩
   ·(try dsimp only)<;>(first|omega|rfl|assumption|(simp; done))
   (try dsimp only)<;>(exact srt_step5 hM)
  ·refine rq5 rfl rfl (mV rfl rfl (ix rfl .no Fx.ar30 Fx.ag29 (.u rfl) (.u rfl) (fun _=>by decide) (fun _=>by decide) (fun _=>rfl) ?_))
   refine al rfl Fx.zr3 ?_; intro b14
   refine s1 rfl (.u rfl) (.u rfl) rfl FxVerT.sz3 .here (by decide) (rfl) ?_
   refine aS rfl rfl (.nil (.code ?_))
   refine wk_fz .here (by intro b hb; cases hb) ?_; intro Gfb14 hleb14 hbb14
   have hs:=hs.mono hleb14
   refine rq3 rfl rfl (mV rfl rfl (mf (vf:=#[]) (vc:=[Value.pointer (some ⟨b14,0,none⟩)].toArray) rfl .no (fun a ha _=>by simp) (fun a ha _=>by simp [(Ev.u (c:=true) rfl:Ev _ true (.tmp 14) _).eval ha rfl]) ?_))
   refine ka rfl (.inr rfl) Fx.go60 (Evc rfl (Evc rfl Evn)) (mtk1 tk3) (ssf_ok (M 1) w1 61 Fx.go61 [.pointer (some ⟨b14,0,none⟩)] (lvC 1) _ (lvC_cmp 1 b14 hbb14) (lvC_wk 1) (by rw [hM 1,if_neg (by decide)]; have:=hL2l 1 (by decide); omega)) ?_
   rintro _ G126 μ126 hG126 ⟨rfl,rfl⟩
   have hs:=hs.mono hG126
   have hbb14:=hbb14.mono hG126
   refine .nil (.blk (.code (rq2 rfl rfl (arn (((1+1):Nat):Int) rfl .no (.u rfl) (.u rfl) rfl (fun _=>by omega) (fun _=>wrap_i64 (by omega) (by omega)) ?_))))
   refine mV rfl rfl (.nil (We.lpo (2,updL M 1 (sortS (ltv (lvC 1)) (M 1))) ?_ ?_ ?_ ?_ ?_))
   ·exact (esC rfl (by first|rfl|exact evi (by omega)) (esD rfl (esD rfl (esD rfl eZ))))
   ·exact (mS tk1 rfl (mS tk1 rfl (mS tk1 rfl (mS .here rfl (mS .here rfl (mS .here rfl (mS .here rfl (mS .here rfl (mS .here rfl mN)))))))))
   ·first|omega|(dsimp only; omega)
   ·exact ((hGl3).trans hleb14).trans hG126
   refine ⟨?_,?_⟩
   ·(try dsimp only)<;>(first|omega|rfl|assumption|(simp; done))
   (try dsimp only)<;>(exact srt_step5 hM)
  ·refine rq5 rfl rfl (mV rfl rfl (ix rfl .no Fx.ar30 Fx.ag29 (.u rfl) (.u rfl) (fun _=>by decide) (fun _=>by decide) (fun _=>rfl) ?_))
   refine al rfl Fx.zr3 ?_; intro b14
   refine s1 rfl (.u rfl) (.u rfl) rfl FxVerT.sz3 .here (by decide) (rfl) ?_
   refine aS rfl rfl (.nil (.code ?_))
   refine wk_fz .here (by intro b hb; cases hb) ?_; intro Gfb14 hleb14 hbb14
   have hs:=hs.mono hleb14
   refine rq3 rfl rfl (mV rfl rfl (mf (vf:=#[]) (vc:=[Value.pointer (some ⟨b14,0,none⟩)].toArray) rfl .no (fun a ha _=>by simp) (fun a ha _=>by simp [(Ev.u (c:=true) rfl:Ev _ true (.tmp 14) _).eval ha rfl]) ?_))
   refine ka rfl (.inr rfl) Fx.go60 (Evc rfl (Evc rfl Evn)) (mtk1 tk2) (ssf_ok (M 2) w2 61 Fx.go61 [.pointer (some ⟨b14,0,none⟩)] (lvC 2) _ (lvC_cmp 2 b14 hbb14) (lvC_wk 2) (by rw [hM 2,if_neg (by decide)]; have:=hL2l 2 (by decide); omega)) ?_
   rintro _ G126 μ126 hG126 ⟨rfl,rfl⟩
   have hs:=hs.mono hG126
   have hbb14:=hbb14.mono hG126
   refine .nil (.blk (.code (rq2 rfl rfl (arn (((2+1):Nat):Int) rfl .no (.u rfl) (.u rfl) rfl (fun _=>by omega) (fun _=>wrap_i64 (by omega) (by omega)) ?_))))
   refine mV rfl rfl (.nil (We.lpo (3,updL M 2 (sortS (ltv (lvC 2)) (M 2))) ?_ ?_ ?_ ?_ ?_))
   ·exact (esC rfl (by first|rfl|exact evi (by omega)) (esD rfl (esD rfl (esD rfl eZ))))
   ·exact (mS tk1 rfl (mS tk1 rfl (mS .here rfl (mS .here rfl (mS .here rfl (mS .here rfl (mS .here rfl (mS .here rfl (mS .here rfl mN)))))))))
   ·first|omega|(dsimp only; omega)
   ·exact ((hGl3).trans hleb14).trans hG126
   refine ⟨?_,?_⟩
   ·(try dsimp only)<;>(first|omega|rfl|assumption|(simp; done))
   (try dsimp only)<;>(exact srt_step5 hM)
  ·refine rq5 rfl rfl (mV rfl rfl (ix rfl .no Fx.ar30 Fx.ag29 (.u rfl) (.u rfl) (fun _=>by decide) (fun _=>by decide) (fun _=>rfl) ?_))
   refine al rfl Fx.zr3 ?_; intro b14
   refine s1 rfl (.u rfl) (.u rfl) rfl FxVerT.sz3 .here (by decide) (rfl) ?_
   refine aS rfl rfl (.nil (.code ?_))
   refine wk_fz .here (by intro b hb; cases hb) ?_; intro Gfb14 hleb14 hbb14
   have hs:=hs.mono hleb14
   refine rq3 rfl rfl (mV rfl rfl (mf (vf:=#[]) (vc:=[Value.pointer (some ⟨b14,0,none⟩)].toArray) rfl .no (fun a ha _=>by simp) (fun a ha _=>by simp [(Ev.u (c:=true) rfl:Ev _ true (.tmp 14) _).eval ha rfl]) ?_))
   refine ka rfl (.inr rfl) Fx.go60 (Evc rfl (Evc rfl Evn)) (mtk1 tk1) (ssf_ok (M 3) w3 61 Fx.go61 [.pointer (some ⟨b14,0,none⟩)] (lvC 3) _ (lvC_cmp 3 b14 hbb14) (lvC_wk 3) (by rw [hM 3,if_neg (by decide)]; have:=hL2l 3 (by decide); omega)) ?_
   rintro _ G126 μ126 hG126 ⟨rfl,rfl⟩
   have hs:=hs.mono hG126
   have hbb14:=hbb14.mono hG126
   refine .nil (.blk (.code (rq2 rfl rfl (arn (((3+1):Nat):Int) rfl .no (.u rfl) (.u rfl) rfl (fun _=>by omega) (fun _=>wrap_i64 (by omega) (by omega)) ?_))))
   refine mV rfl rfl (.nil (We.lpo (4,updL M 3 (sortS (ltv (lvC 3)) (M 3))) ?_ ?_ ?_ ?_ ?_))
   ·exact (esC rfl (by first|rfl|exact evi (by omega)) (esD rfl (esD rfl (esD rfl eZ))))
   ·exact (mS tk1 rfl (mS .here rfl (mS .here rfl (mS .here rfl (mS .here rfl (mS .here rfl (mS .here rfl (mS .here rfl (mS .here rfl mN)))))))))
   ·first|omega|(dsimp only; omega)
   ·exact ((hGl3).trans hleb14).trans hG126
   refine ⟨?_,?_⟩
   ·(try dsimp only)<;>(first|omega|rfl|assumption|(simp; done))
   (try dsimp only)<;>(exact srt_step5 hM)
  refine rq5 rfl rfl (mV rfl rfl (ix rfl .no Fx.ar30 Fx.ag29 (.u rfl) (.u rfl) (fun _=>by decide) (fun _=>by decide) (fun _=>rfl) ?_))
  refine al rfl Fx.zr3 ?_; intro b14
  refine s1 rfl (.u rfl) (.u rfl) rfl FxVerT.sz3 .here (by decide) (rfl) ?_
  refine aS rfl rfl (.nil (.code ?_))
  refine wk_fz .here (by intro b hb; cases hb) ?_; intro Gfb14 hleb14 hbb14
  have hs:=hs.mono hleb14
  refine rq3 rfl rfl (mV rfl rfl (mf (vf:=#[]) (vc:=[Value.pointer (some ⟨b14,0,none⟩)].toArray) rfl .no (fun a ha _=>by simp) (fun a ha _=>by simp [(Ev.u (c:=true) rfl:Ev _ true (.tmp 14) _).eval ha rfl]) ?_))
  refine ka rfl (.inr rfl) Fx.go60 (Evc rfl (Evc rfl Evn)) (mtk1 .here) (ssf_ok (M 4) w4 61 Fx.go61 [.pointer (some ⟨b14,0,none⟩)] (lvC 4) _ (lvC_cmp 4 b14 hbb14) (lvC_wk 4) (by rw [hM 4,if_neg (by decide)]; have:=hL2l 4 (by decide); omega)) ?_
  rintro _ G126 μ126 hG126 ⟨rfl,rfl⟩
  have hs:=hs.mono hG126
  refine .nil (.blk (.code (rq2 rfl rfl (arn (((4+1):Nat):Int) rfl .no (.u rfl) (.u rfl) rfl (fun _=>by omega) (fun _=>wrap_i64 (by omega) (by omega)) ?_))))
  refine mV rfl rfl (.nil (We.lpo (5,updL M 4 (sortS (ltv (lvC 4)) (M 4))) ?_ ?_ ?_ ?_ ?_))
  ·exact (esC rfl (by first|rfl|exact evi (by omega)) (esD rfl (esD rfl (esD rfl eZ))))
  ·exact (mS .here rfl (mS .here rfl (mS .here rfl (mS .here rfl (mS .here rfl (mS .here rfl (mS .here rfl (mS .here rfl (mS .here rfl mN)))))))))
  ·first|omega|(dsimp only; omega)
  ·exact ((hGl3).trans hleb14).trans hG126
  refine ⟨?_,?_⟩
  ·(try dsimp only)<;>(first|omega|rfl|assumption|(simp; done))
  (try dsimp only)<;>(exact srt_step5 hM)
 have c13k:=c13
 try simp only [qcA,qcC,qcB] at c13
 refine .exit (.xcode (.xlp (.xblk (.code (.seq (.seq ?_))))))
 obtain rfl:k=5:=by omega
 rw [show M 0=srtL L2 0 from by rw [hM]; rfl,show M 1=srtL L2 1 from by rw [hM]; rfl,show M 2=srtL L2 2 from by rw [hM]; rfl,show M 3=srtL L2 3 from by rw [hM]; rfl,show M 4=srtL L2 4 from by rw [hM]; rfl]
 refine wk_fs tk4 (fun _ _=>rfl) (by intro b hb; cases hb) ?_; intro GfR0 hR0 hleR0 evR0 hsR0; subst evR0
 have hs:=hs.mono hleR0
 refine wk_fs tk3 (fun _ _=>rfl) (by intro b hb; cases hb) ?_; intro GfR1 hR1 hleR1 evR1 hsR1; subst evR1
 have hs:=hs.mono hleR1
 have hsR0:=hsR0.mono hleR1
 refine wk_fs tk2 (fun _ _=>rfl) (by intro b hb; cases hb) ?_; intro GfR2 hR2 hleR2 evR2 hsR2; subst evR2
 have hs:=hs.mono hleR2
 have hsR0:=hsR0.mono hleR2
 have hsR1:=hsR1.mono hleR2
 refine wk_fs tk1 (fun _ _=>rfl) (by intro b hb; cases hb) ?_; intro GfR3 hR3 hleR3 evR3 hsR3; subst evR3
 have hs:=hs.mono hleR3
 have hsR0:=hsR0.mono hleR3
 have hsR1:=hsR1.mono hleR3
 have hsR2:=hsR2.mono hleR3
 refine wk_fs .here (fun _ _=>rfl) (by intro b hb; cases hb) ?_; intro GfR4 hR4 hleR4 evR4 hsR4; subst evR4
 have hs:=hs.mono hleR4
 have hsR0:=hsR0.mono hleR4
 have hsR1:=hsR1.mono hleR4
 have hsR2:=hsR2.mono hleR4
 have hsR3:=hsR3.mono hleR4
 rw [xC_cells (e:=e) (L:=srtL L2)]
 have hXR:=stR5 (X:=(mkX e (srtL L2))) hsR0 hsR1 hsR2 hsR3 hsR4 (fun i hi=>by show (srtL L2 i).length≤_; rw [srtL_len]; have:=hL2l i hi; omega) (fun i hi m hm=>addL_wf (dropL_wf hs.wf hL) hE.wf.add hA i hi m (srtL_mem.1 hm))
 refine rq3 rfl rfl (lA rfl .no Fx.ag33 (.u rfl) (fun _=>RdN.own .here) (fun _=>(by first|exact qE|exact qL|rfl)) ?_)
 refine kv rfl .no Fx.go54 (Evc rfl Evn) (fun _=>vRight_ok (mkX e (srtL L2)) (hx5 hR0 hR1 hR2 hR3 hR4) _ hXR) ?_
 refine nt rfl .no (.u rfl) (.nil (.code (.cond rfl (fun c14=>?_) (fun c14=>?_))))
 ·have c14k:=c14
  try simp only [qcA,qcC,qcB] at c14
  refine .seq (rq3 rfl rfl (bC rfl .no Fx.bp33_ .nil rfl ?_))
  refine sw rfl (.u rfl) (.u rfl) rfl Fx.sz33 tk1 (by first|exact qE|exact qL|rfl) (State.one') ?_
  refine aS rfl rfl (.nil (.code (.ret (We.fin0 Tryz.results21 (.cell rfl (fun w hw=>run_loadVarN Fx.ag33 (RdN.own .here) ((by first|exact qE|exact qL|rfl)) hw) (.tmp rfl .nil)) ?_))))
  exact ⟨State.zero,hd0,180,.inr (.inl ⟨hri,by rw [ap_end hok hL hA]; exact chk_no (EqS.refl _) (by assumption),rfl,rfl⟩),rfl,rfl,st_zero⟩
 have c14k:=c14
 try simp only [qcA,qcC,qcB] at c14
 refine .skip (.code (.seq (rq3 rfl rfl (lA rfl .no Fx.ag33 (.u rfl) (fun _=>RdN.own .here) (fun _=>(by first|exact qE|exact qL|rfl)) ?_))))
 refine sw rfl (.u rfl) (.u rfl) rfl Fx.sz33 tk1 (by first|exact qE|exact qL|rfl) (State.one') ?_
 refine aS rfl rfl (.nil (.code (.ret (We.fin0 Tryz.results21 (.cell rfl (fun w hw=>run_loadVarN Fx.ag33 (RdN.own .here) ((by first|exact qE|exact qL|rfl)) hw) (.tmp rfl .nil)) ?_))))
 exact ⟨(mkX e (srtL L2)),(hx5 hR0 hR1 hR2 hR3 hR4),0,.inr (.inr ⟨hri,rfl,_,by rw [ap_end hok hL hA]; exact chk_eq (EqS.refl _) (by assumption),EqS.refl _⟩),rfl,rfl,hXR⟩
end Go.Proofs.YtdeobooblmjlfaaGreatDoor
namespace Go.Tan
open Go.RowKit
section
variable {P:Program} {n:Nat} {l:List Oper} {K K':Env→PM→Mem→Prop} {mc:Md}
theorem Sat.nil {G:PM} {w:World} (h:∀ b o,G b=some o→w.heap[b]? = some o):Sat G [] w:=⟨h,by simp,by simp [keys],by simp [keys]⟩
theorem Wo.unlay {j:Nat} {ρ:Env} {G:PM} {μ:Mem} {oi oj:Oper} {c:Bool} {v:Value} (hK:KOk K) (hoj:nth l j=some oj) (hap:Apart l oi oj) (hd:dstOk n oi.dst)
  (H:Wo true mc P n l K [j] (lay ρ oi.dst c v) G μ):Wo true mc P n l (fun ρ' G' μ'=>PM.le G G'∧(∃ c' v',ρ'=lay ρ oj.dst c' v')∧K (lay ρ' oi.dst c v) G' μ') [j] ρ G μ:=by
 have h0:∀ {ρ G μ},Wo true mc P n l K [] ρ G μ→K ρ G μ:=fun h=>by cases h with | nil h=>exact h
 have sw:∀ {c':Bool} {v':Value} {G':PM} {μ':Mem},Wo true mc P n l K [] (lay (lay ρ oi.dst c v) oj.dst c' v') G' μ'→K (lay (lay ρ oj.dst c' v') oi.dst c v) G' μ':=fun h=>hK.1 _ _ _ _ (look_swap hap.dd) (h0 h)
 cases H with
 | @pure _ _ _ _ _ o cj vj ho hk hg hr h =>
  obtain rfl:oj=o:=Option.some.inj (hoj.symm.trans ho)
  refine .pure hoj hk (gd_drop hap.ij hg) (fun hc a w ha=>drop_put hd hap.sj hap.ij (Φ:=fun s=>s.run P w=.ok (.value vj) w) (fun a ha=>hr hc a w ha) a ha) (.nil ⟨PM.le.refl G,⟨_,_,rfl⟩,sw h⟩)
 | @read _ _ _ _ _ o cj vj ho hk hg hr h =>
  obtain rfl:oj=o:=Option.some.inj (hoj.symm.trans ho)
  refine .read hoj hk (gd_drop hap.ij hg) (fun hc a w ha hs=>drop_put hd hap.sj hap.ij (Φ:=fun s=>s.run P w=.ok (.value vj) w) (fun a ha=>hr hc a w ha hs) a ha) (.nil ⟨PM.le.refl G,⟨_,_,rfl⟩,sw h⟩)
 | @make _ _ _ _ _ o ob mkv ho hk hg hr h =>
  obtain rfl:oj=o:=Option.some.inj (hoj.symm.trans ho)
  exact .make hoj hk hg hr fun b=>.nil ⟨PM.le.refl G,⟨_,_,rfl⟩,sw (h b)⟩
 | @box _ _ _ _ _ o ob mkv ho hk hg hr h =>
  obtain rfl:oj=o:=Option.some.inj (hoj.symm.trans ho)
  exact .box hoj hk hg (fun a w ha=>drop_put hd hap.sj hap.ij (Φ:=fun s=>s.run P w=.ok (.value (mkv w.heap.size)) (w.alloc ob)) (fun a ha=>hr a w ha) a ha) fun b=>.nil ⟨PM.le.refl G,⟨_,_,rfl⟩,sw (h b)⟩
 | @callv _ _ _ _ _ o cj f args vj Gp ho hk hg hr hf h =>
  obtain rfl:oj=o:=Option.some.inj (hoj.symm.trans ho)
  exact .callv hoj hk (gd_drop hap.ij hg) (fun hc a w ha=>drop_put hd hap.sj hap.ij (Φ:=fun s=>s.run P w=.ok (.enter f args) w) (fun a ha=>hr hc a w ha) a ha) hf (.nil ⟨PM.le.refl G,⟨_,_,rfl⟩,sw h⟩)
 | @call _ _ _ _ _ o f args post ho hk hg hr hf h =>
  obtain rfl:oj=o:=Option.some.inj (hoj.symm.trans ho)
  exact .call hoj hk (gd_drop hap.ij hg) (fun a w ha=>drop_put hd hap.sj hap.ij (Φ:=fun s=>s.run P w=.ok (.enter f args) w) (fun a ha=>hr a w ha) a ha) hf fun v' G' μ' hle hp=>.nil ⟨hle,⟨_,_,rfl⟩,sw (h v' G' μ' hle hp)⟩
 | callg hdf _ _ _ _ _=>cases hdf
 | @fresh _ _ _ _ _ o μ₁ μ₂ post ho hk hg hp hr hw h =>
  obtain rfl:oj=o:=Option.some.inj (hoj.symm.trans ho)
  exact .fresh hoj hk hg hp (fun a w ha hs=>drop_put hd hap.sj hap.ij (Φ:=fun s=>∃ v w' G' μa μb,s.run P w=.ok (.value v) w'∧Tr G (keys μ₁) w G' (μa++μb) w'∧post G' μa μb v) (fun a ha=>hr a w ha hs) a ha) hw fun v' G' μa μb hle hq=>.nil ⟨hle,⟨_,_,rfl⟩,sw (h v' G' μa μb hle hq)⟩
 | @act _ _ _ _ _ o μ₁ μ₂ post ho hk hg hp hr h =>
  obtain rfl:oj=o:=Option.some.inj (hoj.symm.trans ho)
  exact .act hoj hk (gd_drop hap.ij hg) hp (fun a w ha hs=>drop_put hd hap.sj hap.ij (Φ:=fun s=>(∃ v w' G' μ',(s.run P w=.ok (.value v) w'∨s.run P w=.ok .skip w'∧v=undef)∧Tr G (keys μ₁) w G' μ' w'∧post G' μ' v) ∨
    (∃ f args,s.run P w=.ok (.enter f args) w∧Ct P f args G μ₁ post)) (fun a ha=>hr a w ha hs) a ha) fun v' G' μ' hle hq=>.nil ⟨hle,⟨_,_,rfl⟩,sw (h v' G' μ' hle hq)⟩
def oneP (mc:Md) (l:List Oper) (listed:Array Bool) (i:Nat):Bool :=
 (rdy l listed).contains i&&match nth l i with
 | some oi=>(kindOf mc oi.op == .read)&&(List.range l.length).all fun j=>listed.getD j true||j == i||match nth l j with
  | some oj=>dep l l.length j i||oi.apart l.toArray oj
  | none=>false
 | none=>false
def PRd (P:Program) (n:Nat) (l:List Oper) (o:Oper) (c:Bool) (v:Value) (ρ:Env) (G:PM):Prop :=
 Gd l ρ o.guard c∧(c=true→∀ a w,Ag n ρ a→(∀ b u,G b=some u→w.heap[b]? = some u)→(execOp a.eval o).run P w=.ok (.value v) w)
def Wp (mc:Md) (P:Program) (n:Nat) (l:List Oper) (K:Env→PM→Mem→Prop):Nat→Array Bool→Env→PM→Mem→Prop
 | 0,listed,ρ,G,μ=>rdy l listed=[]∧K ρ G μ
 | m+1,listed,ρ,G,μ=>(∃ i,oneOk mc l listed i=true∧Wo true mc P n l (fun ρ' G' μ'=>Wp mc P n l K m (listed.setIfInBounds i true) ρ' G' μ') [i] ρ G μ) ∨
   (rdy l listed≠[]∧∀ j∈rdy l listed,Wo true mc P n l (fun ρ' G' μ'=>Wp mc P n l K m (listed.setIfInBounds j true) ρ' G' μ') [j] ρ G μ) ∨
   (∃ i o c v,oneP mc l listed i=true∧nth l i=some o∧PRd P n l o c v ρ G∧Wp mc P n l K m (listed.setIfInBounds i true) (lay ρ o.dst c v) G μ)
theorem PRd.congr {o:Oper} {c:Bool} {v:Value} {ρ ρ':Env} {G:PM} (h:PRd P n l o c v ρ G) (e:∀ i,look ρ i=look ρ' i):PRd P n l o c v ρ' G :=
 ⟨h.1.congr fun _ t _ _ _=>e t,fun hc a w ha hs=>h.2 hc a w (ha.congr e) hs⟩
theorem Wp.kok (hK:KOk K):∀ (m:Nat) (listed:Array Bool),KOk (fun ρ G μ=>Wp mc P n l K m listed ρ G μ)
 | 0,listed=>⟨fun ρ ρ' G μ e h=>⟨h.1,hK.1 _ _ _ _ e h.2⟩,fun ρ G μ μ' p h=>⟨h.1,hK.2 _ _ _ _ p h.2⟩⟩
 | m+1,listed=>by
  refine ⟨fun ρ ρ' G μ e h=>?_,fun ρ G μ μ' p h=>?_⟩
  ·rcases h with ⟨i,h1,h2⟩ | ⟨h1,h2⟩ | ⟨i,o,c,v,h1,h2,h3,h4⟩
   ·exact .inl ⟨i,h1,h2.congr (Wp.kok hK m _) e⟩
   ·exact .inr (.inl ⟨h1,fun j hj=>(h2 j hj).congr (Wp.kok hK m _) e⟩)
   exact .inr (.inr ⟨i,o,c,v,h1,h2,h3.congr e,(Wp.kok hK m _).1 _ _ _ _ (look_lay_congr e _ _ _) h4⟩)
  rcases h with ⟨i,h1,h2⟩ | ⟨h1,h2⟩ | ⟨i,o,c,v,h1,h2,h3,h4⟩
  ·exact .inl ⟨i,h1,h2.perm (Wp.kok hK m _) p⟩
  ·exact .inr (.inl ⟨h1,fun j hj=>(h2 j hj).perm (Wp.kok hK m _) p⟩)
  exact .inr (.inr ⟨i,o,c,v,h1,h2,h3,(Wp.kok hK m _).2 _ _ _ _ p h4⟩)
theorem oneP_mono {listed:Array Bool} {i j:Nat} (hne:i≠j) (h:oneP mc l listed i=true):oneP mc l (listed.setIfInBounds j true) i=true:=by
 unfold oneP at h ⊢
 simp only [Bool.and_eq_true] at h ⊢
 obtain ⟨h1,h2⟩:=h
 refine ⟨by simpa using rdy_mono (by simpa using h1) hne,?_⟩
 cases hi:nth l i with
 | none=>rw [hi] at h2; cases h2
 | some oi =>
  simp only [hi,Bool.and_eq_true] at h2 ⊢
  refine ⟨h2.1,List.all_eq_true.2 fun k hk=>?_⟩
  have h3:=List.all_eq_true.1 h2.2 k hk
  by_cases e:j=k
  ·subst e
   have:(listed.setIfInBounds j true).getD j true=true:=by
    rcases Nat.lt_or_ge j listed.size with h' | h'<;>simp [h']
   rw [this]; rfl
  rw [getD_set_ne true e]; exact h3
theorem Wp.front (hK:KOk K) (hs:Region.noSelect l.toArray=true) (hmk:∀ j oj,nth l j=some oj→kindOf mc oj.op=.make→Makes P oj) (hds:∀ j oj,nth l j=some oj→dstOk n oj.dst) :
  ∀ (m:Nat) (listed:Array Bool) (j:Nat) (ρ:Env) (G:PM) (μ:Mem),unlN listed=m+1→Closed l listed→j∈rdy l listed→Wp mc P n l K (m+1) listed ρ G μ→Wo true mc P n l (fun ρ' G' μ'=>Wp mc P n l K m (listed.setIfInBounds j true) ρ' G' μ') [j] ρ G μ
 | m,listed,j,ρ,G,μ,hu,hcl,hj,H=>by
  rcases H with ⟨i,h1,h2⟩ | ⟨_,h2⟩ | ⟨i,oi,c,v,h1,hoi,h2,h3⟩
  ·by_cases e:j=i
   ·subst e; exact h2
   have hi:i∈rdy l listed:=by unfold oneOk at h1; simp only [Bool.and_eq_true] at h1; simpa using h1.1
   have hj':=rdy_mono hj e
   have hiun:=(rdy_iff.1 hi).1
   have hjun:=(rdy_iff.1 hj).1
   have hu1:=unlN_set hiun
   have hjun':(listed.setIfInBounds i true).getD j true=false:=by rw [getD_set_ne true (Ne.symm e)]; exact hjun
   have hp:=unlN_pos hjun'
   obtain ⟨m',rfl⟩ : ∃ m',m=m'+1:=⟨m-1,by omega⟩
   obtain ⟨_,oi,hoi,_⟩:=rdy_iff.1 hi
   obtain ⟨_,oj,hoj,_⟩:=rdy_iff.1 hj
   have h3:Wo true mc P n l (fun ρ' G' μ'=>Wp mc P n l K m' ((listed.setIfInBounds i true).setIfInBounds j true) ρ' G' μ') (i :: [j]) ρ G μ :=
    h2.bind1 fun ρ' G' μ' h=>Wp.front hK hs hmk hds m' (listed.setIfInBounds i true) j ρ' G' μ' (by omega) (hcl.set hi) hj' h
   have hnoe:=not_dep hcl hiun hj l.length
   have hjl:j<l.length:=by
    have:=(nth_eq l j).trans hoj
    exact (by simpa using (Array.getElem?_eq_some_iff.1 this).1)
   have h1':=h1
   unfold oneOk at h1'
   simp only [Bool.and_eq_true,hoi] at h1'
   obtain ⟨_,hki,hall⟩:=h1'
   have h4:=List.all_eq_true.1 hall j (List.mem_range.2 hjl)
   simp only [hjun,hoj,hnoe,Bool.false_or,Bool.or_eq_true,beq_iff_eq,e,false_or,Bool.and_eq_true,bne_iff_ne] at h4
   simp only [Bool.or_eq_true,beq_iff_eq] at hki
   have hkk:kindOf mc oi.op=.pure∨(kindOf mc oi.op=.read∧kindOf mc oj.op≠.act)∨kindOf mc oj.op=.make:=by
    rcases hki with h5 | h5
    ·exact .inl h5
    rcases h4.2 with h6 | h6
    ·exact .inl h6
    exact .inr (.inl ⟨h5,h6⟩)
   have h5:=Wo.swap (Wp.kok hK m' _) rfl hoi hoj (apart_of hs hoi hoj h4.1) hds (hmk j oj hoj) hkk h3
   refine h5.cut1.bind1 fun ρ' G' μ' h=>.nil (.inl ⟨i,oneOk_mono (Ne.symm e) h1,?_⟩)
   rw [Array.setIfInBounds_comm _ _ e]
   exact h
  ·exact h2 j hj
  by_cases e:j=i
  ·subst e
   have hkr:kindOf mc oi.op=.read:=by
    unfold oneP at h1; simp only [Bool.and_eq_true,hoi,beq_iff_eq] at h1; exact h1.2.1
   exact .read hoi (.inl hkr) h2.1 (fun hc a w ha hs=>h2.2 hc a w ha hs.sub) (.nil h3)
  have hi:i∈rdy l listed:=by unfold oneP at h1; simp only [Bool.and_eq_true] at h1; simpa using h1.1
  have hj':=rdy_mono hj e
  have hiun:=(rdy_iff.1 hi).1
  have hjun:=(rdy_iff.1 hj).1
  have hu1:=unlN_set hiun
  have hjun':(listed.setIfInBounds i true).getD j true=false:=by rw [getD_set_ne true (Ne.symm e)]; exact hjun
  have hp:=unlN_pos hjun'
  obtain ⟨m',rfl⟩ : ∃ m',m=m'+1:=⟨m-1,by omega⟩
  obtain ⟨_,oj,hoj,_⟩:=rdy_iff.1 hj
  have hnoe:=not_dep hcl hiun hj l.length
  have hjl:j<l.length:=by
   have:=(nth_eq l j).trans hoj
   exact (by simpa using (Array.getElem?_eq_some_iff.1 this).1)
  have h1':=h1
  unfold oneP at h1'
  simp only [Bool.and_eq_true,hoi] at h1'
  obtain ⟨_,_,hall⟩:=h1'
  have h4:=List.all_eq_true.1 hall j (List.mem_range.2 hjl)
  simp only [hjun,hoj,hnoe,Bool.false_or,Bool.or_eq_true,beq_iff_eq,e,false_or] at h4
  have hap:=apart_of hs hoi hoj h4
  have h5:=Wp.front hK hs hmk hds m' (listed.setIfInBounds i true) j _ G μ (by omega) (hcl.set hi) hj' h3
  refine (Wo.unlay (Wp.kok hK m' _) hoj hap (hds i oi hoi) h5).bind1 fun ρ' G' μ' ⟨hle,⟨c',v',hρ⟩,h⟩=>.nil (.inr (.inr ⟨i,oi,c,v,oneP_mono (Ne.symm e) h1,hoi,?_,?_⟩))
  ·subst hρ
   refine ⟨gd_put hap.ji h2.1,fun hc a w ha hs=>?_⟩
   exact keep_put (hds j oj hoj) hap.si hap.ji (Φ:=fun s=>s.run P w=.ok (.value v) w) (fun a ha=>h2.2 hc a w ha (fun b u hb=>hs b u (hle b u hb))) a ha
  rw [Array.setIfInBounds_comm _ _ e]
  exact h
theorem Wp.any {Q:Exit→Act→World→Prop} {G0:PM} {K0:List Nat} {w0:World} (hK:KOk K) (hs:Region.noSelect l.toArray=true) (hmk:∀ j oj,nth l j=some oj→kindOf mc oj.op=.make→Makes P oj) (hds:∀ j oj,nth l j=some oj→dstOk n oj.dst)
  (hQ:∀ ρ G μ,K ρ G μ→∀ a w,Ag n ρ a→Tr G0 K0 w0 G μ w→Q .normal a w) :
  ∀ (m:Nat) (listed:Array Bool) (ρ:Env) (G:PM) (μ:Mem) (a:Act) (w:World),unlN listed=m→Closed l listed→Wp mc P n l K m listed ρ G μ→Ag n ρ a→Tr G0 K0 w0 G μ w→wpAny P .any l.toArray Q m listed a w
 | 0,listed,ρ,G,μ,a,w,_,_,H,ha,ht=>⟨H.1,hQ _ _ _ H.2 a w ha ht⟩
 | m+1,listed,ρ,G,μ,a,w,hu,hcl,H,ha,ht=>by
  refine ⟨fun h0=>?_,fun j hj=>?_⟩
  ·rcases H with ⟨i,h1,_⟩ | ⟨h1,_⟩ | ⟨i,oi,c,v,h1,_⟩
   ·have hi:i∈rdy l listed:=by unfold oneOk at h1; simp only [Bool.and_eq_true] at h1; simpa using h1.1
    unfold rdy at hi
    rw [h0] at hi; cases hi
   ·exact absurd h0 h1
   have hi:i∈rdy l listed:=by unfold oneP at h1; simp only [Bool.and_eq_true] at h1; simpa using h1.1
   unfold rdy at hi
   rw [h0] at hi; cases hi
  have hj':j∈rdy l listed:=hj
  have hu1:=unlN_set (rdy_iff.1 hj').1
  obtain ⟨o,ho,h⟩:=(Wp.front hK hs hmk hds m listed j ρ G μ hu hcl hj' H).head ha ht (next:=wpAny P .any l.toArray Q m (listed.setIfInBounds j true)) (Q:=Q) hds
   (fun ρ' G' μ' a' w' H' ha' ht'=>by cases H' with | nil h=>exact Wp.any hK hs hmk hds hQ m _ ρ' G' μ' a' w' (by omega) (hcl.set hj') h ha' ht')
  simp only [wpOp,nth_eq,ho]
  split
  ·rename_i hw; rw [if_pos hw] at h; exact .inl h
  rename_i hw; rw [if_neg hw] at h; exact h
theorem Wk.mixp {X:Cx} {k:List KI} {id:Nat} {ρ:Env} {G:PM} {μ:Mem} (mc:Md) (hm:X.P.follows .mixedOrders=true) (hok:mixOk X.P X.n l=true)
  (h:Wp mc X.P X.n l (fun ρ G μ=>We X .normal k ρ G μ) l.length (Array.replicate l.length false) ρ G μ):Wk X (.region id l.toArray true) k ρ G μ:=by
 simp only [mixOk,Bool.and_eq_true] at hok
 obtain ⟨⟨h1,h2⟩,h3⟩:=hok
 refine ⟨fun a w ha ht=>wp_region_any hm ?_⟩
 have hu:unlN (Array.replicate l.length false)=l.length:=by simp [unlN]
 have:=Wp.any (Q:=Qof X k) (We.kok .normal) h1 (fun j oj hj hk=>makes_of hk (List.all_eq_true.1 h3 oj (mem_of_nth hj)))
  (fun j oj hj=>by
   have:=List.all_eq_true.1 h2 oj (mem_of_nth hj)
   cases hd:oj.dst with
   | none=>trivial
   | some d=>rw [hd] at this; show d<X.n; exact of_decide_eq_true this) (fun _ _ _ h a w ha ht=>h.out a w ha ht) l.length _ ρ G μ a _ hu (Closed.none l.length) h ha ht.drew
 simpa using this
variable {ρ:Env} {G:PM} {μ:Mem} {m:Nat} {listed:Array Bool}
theorem Wp.last (hr:rdy l listed=[]) (h:K ρ G μ):Wp mc P n l K 0 listed ρ G μ:=⟨hr,h⟩
theorem Wp.one (i:Nat) (hc:oneOk mc l listed i=true) (h:Wo true mc P n l (fun ρ' G' μ'=>Wp mc P n l K m (listed.setIfInBounds i true) ρ' G' μ') [i] ρ G μ):Wp mc P n l K (m+1) listed ρ G μ:=.inl ⟨i,hc,h⟩
theorem Wp.pr (i:Nat) (hc:oneP mc l listed i=true) (h:Wo true mc P n l (fun ρ' G' μ'=>(G'=G∧μ'=[])∧Wp mc P n l K m (listed.setIfInBounds i true) ρ' G μ) [i] ρ G []):Wp mc P n l K (m+1) listed ρ G μ:=by
 have h1:=hc
 unfold oneP at h1
 simp only [Bool.and_eq_true] at h1
 cases hoi:nth l i with
 | none=>rw [hoi] at h1; cases h1.2
 | some oi =>
  have hkr:kindOf mc oi.op=.read:=by simp only [hoi,Bool.and_eq_true,beq_iff_eq] at h1; exact h1.2.1
  cases h with
  | @read _ _ _ _ _ o c v ho hk hg hr h =>
   obtain rfl:oi=o:=Option.some.inj (hoi.symm.trans ho)
   cases h with
   | nil h=>exact .inr (.inr ⟨i,oi,c,v,hc,hoi,⟨hg,fun hc' a w ha hs=>hr hc' a w ha (Sat.nil hs)⟩,h.2⟩)
  | @pure _ _ _ _ _ o cj vj ho hk _ _ _=>obtain rfl:oi=o:=Option.some.inj (hoi.symm.trans ho); rcases hk with hk | hk<;>simp_all
  | @make _ _ _ _ _ o _ _ ho hk _ _ _=>obtain rfl:oi=o:=Option.some.inj (hoi.symm.trans ho); rcases hk with hk | hk<;>simp_all
  | @box _ _ _ _ _ o _ _ ho hk _ _ _=>obtain rfl:oi=o:=Option.some.inj (hoi.symm.trans ho); rcases hk with hk | hk<;>simp_all
  | @callv _ _ _ _ _ o cj f args vj Gp ho hk _ _ _ _=>obtain rfl:oi=o:=Option.some.inj (hoi.symm.trans ho); rcases hk with hk | hk | hk<;>simp_all
  | @call _ _ _ _ _ o f args post ho hk _ _ _ _=>obtain rfl:oi=o:=Option.some.inj (hoi.symm.trans ho); rcases hk with hk | hk | hk<;>simp_all
  | callg hdf _ _ _ _ _=>cases hdf
  | @fresh _ _ _ _ _ o μ₁ μ₂ post ho hk _ _ _ _ _=>obtain rfl:oi=o:=Option.some.inj (hoi.symm.trans ho); rcases hk with hk | hk<;>simp_all
  | @act _ _ _ _ _ o μ₁ μ₂ post ho hk _ _ _ _=>obtain rfl:oi=o:=Option.some.inj (hoi.symm.trans ho); rcases hk with hk | hk<;>simp_all
theorem Wp.b1 (j:Nat) (hr:rdy l listed=[j]) (h:Wo true mc P n l (fun ρ' G' μ'=>Wp mc P n l K m (listed.setIfInBounds j true) ρ' G' μ') [j] ρ G μ):Wp mc P n l K (m+1) listed ρ G μ :=
 .inr (.inl ⟨by rw [hr]; simp,fun j' hj'=>by rw [hr] at hj'; obtain rfl:=List.mem_singleton.1 hj'; exact h⟩)
end
theorem StN.zero:StN State.zero:=by
 have z:u64 0:=⟨by decide,by decide⟩
 exact ⟨z,z,z,z,fun _ _=>z⟩
theorem StL.zero:StL State.zero:=⟨by decide,fun i _ m hm=>absurd hm List.not_mem_nil⟩
theorem StN.cg {s s':State} (h:EqS s s') (k:StN s'):StN s:=⟨h.log▸k.log,h.next▸k.next,h.seq▸k.seq,h.least▸k.least,fun i hi=>by rw [h.gens]; exact k.gens i hi⟩
theorem StL.right {s:State} (h:rightS s=true):StL s:=by
 have h1:=(rightP_of h).few
 exact ⟨by omega,fun i hi m hm=>by have:=right_fits h hi m hm; omega⟩
theorem AppR.stN {s:State} {e:Edit} {X:State} {r:Int} (h:AppR s e X r) (hw:e.wf):StN X:=by
 rcases h with ⟨_,_,rfl⟩ | ⟨_,_,_,rfl⟩ | ⟨_,_,Y,h1,h2⟩
 ·exact StN.zero
 ·exact StN.zero
 ·obtain ⟨_,_,L1,L2,_,_,rfl⟩:=applyO_inv h1
  exact StN.cg h2 ⟨hw.log,hw.next,hw.seq,hw.least,hw.gens⟩
theorem AppR.stL {s:State} {e:Edit} {X:State} {r:Int} (h:AppR s e X r):StL X:=by
 rcases h with ⟨_,_,rfl⟩ | ⟨_,_,_,rfl⟩ | ⟨h1,h2,Y,h3,h4⟩
 ·exact StL.zero
 ·exact StL.zero
 ·obtain ⟨_,h5,_⟩:=applyO_inv h3
  exact StL.right (by rw [h4.right]; exact h5)
theorem AppR.few {s:State} {e:Edit} {X:State} (h:AppR s e X 0) (hw:e.wf):e.add.length≤1000000∧e.drop.length≤1000000∧(e.add.flatMap encM).length≤900000000000:=by
 obtain ⟨_,Z,h1,_⟩:=h.right
 obtain ⟨a1,a2,a3⟩:=added h1
 have h4:=metas_len' (R:=1024) e.add fun m hm=>⟨hw.add m hm,(a1 m hm).2.2.1,(a1 m hm).2.2.2⟩
 have h5:e.add.length*(2*1024+112)≤1024*(2*1024+112):=Nat.mul_le_mul_right _ a2
 exact ⟨by omega,by omega,by omega⟩
def maniC (h:Hd) (s:State) (hd:Nat→Sh) (mark:BitVec 64) (n used:Int) (torn:Bool):List Value :=
 [V h.kind,V h.level,uv .u64 h.gen,uv .u64 h.epoch,uv .u64 h.num]++s.cells hd++[uv .u64 mark,.int .i64 n,.int .i64 used,.bool torn]
section
variable {h:Hd} {s s':State} {hd hd':Nat→Sh} {mark mark':BitVec 64} {n n' used used':Int} {torn torn':Bool}
theorem mani_len:(maniC h s hd mark n used torn).length=23:=rfl
theorem mani_one:∀ u∈maniC h s hd mark n used torn,u.oneCell'=true:=by
 intro u hu
 unfold maniC at hu
 rcases List.mem_append.1 hu with hu | hu
 ·rcases List.mem_append.1 hu with hu | hu
  ·simp only [List.mem_cons,List.not_mem_nil,or_false] at hu
   rcases hu with rfl|rfl|rfl|rfl|rfl<;>rfl
  ·exact State.one' _ hu
 ·simp only [List.mem_cons,List.not_mem_nil,or_false] at hu
  rcases hu with rfl|rfl|rfl|rfl<;>rfl
end
structure MnR (S:State) (m:Mn):Prop where
 eq:EqS S m.st
 right:rightS S=true
theorem MnR.zero:MnR State.zero Mn.zero:=⟨EqS.refl _,right_zero⟩
structure ManV where
 hd:Hd
 m:Mn
 used:Nat
 torn:Bool
noncomputable def readM (root:Nat→Y) (xs:List Y):Option ManV :=
 if (readP root xs).2≠0∨30≤xs.length∧(readP root xs).1.hd.kind≠3#8 then none else (stepsM (readP root xs).1.recs Mn.zero).map fun m=>⟨(readP root xs).1.hd,m,(readP root xs).1.used,(readP root xs).1.torn⟩
theorem readM_bad {root:Nat→Y} {xs:List Y} (h:(readP root xs).2≠0∨30≤xs.length∧(readP root xs).1.hd.kind≠3#8):readM root xs=none:=by unfold readM; rw [if_pos h]
theorem readM_yes {root:Nat→Y} {xs:List Y} {m:Mn} (h:¬ ((readP root xs).2≠0∨30≤xs.length∧(readP root xs).1.hd.kind≠3#8)) (hs:stepsM (readP root xs).1.recs Mn.zero=some m):readM root xs=some ⟨(readP root xs).1.hd,m,(readP root xs).1.used,(readP root xs).1.torn⟩:=by
 unfold readM; rw [if_neg h,hs]; rfl
instance {h:Hd} {s:State} {hd:Nat→Sh} {mark:BitVec 64} {n used:Int} {torn:Bool}:QLen (maniC h s hd mark n used torn) 23:=⟨mani_len⟩
end Go.Tan
namespace Go.Proofs.YtdeobooblmjlfaaGreatDoor
open Go.Tan Go.RowKit
namespace Fx
theorem go21:goFn Tryz.prog 21=true:=by kernel_rfl
theorem go22:goFn Tryz.prog 22=true:=by kernel_rfl
theorem go23:goFn Tryz.prog 23=true:=by kernel_rfl
end Fx
theorem wLay_row (root:Nat→Y) (h:Hd) (n:BitVec 64) (p:List Y) (v:Value) (G:PM) (hK:RdNP G 1 0 (wa 64 kW)):Ct Tryz.prog 23 ([.agg (ba 32 root).toArray,.agg ([V h.kind,V h.level,uv .u64 h.gen,uv .u64 h.epoch,uv .u64 h.num]:List Value).toArray,uv .u64 n,v]:List Value).toArray G [rB v 5 p] (fun _ μ' u=>∃ ν,μ'=rB v 5 p :: ν∧∃ v' L e,(L,e)=layP root h n p∧ν=[rB v' 5 L]∧u=.tuple #[v',.int .i64 e]) :=
 Ct.lendB (fun hp G2 hle hv hs=>by subst hv; exact wLay_ok root h n p hp G2 hs (hK.mono hle))
set_option maxHeartbeats 2000000 in
theorem mLay_ok (root:Nat→Y) (h:Hd) (n mark:BitVec 64) (s:State) (hd:Nat→Sh) (e:Edit) (ha he:Sh) (G:PM) (hs:StR G s hd) (hE:EdR G e ha he) (hK:RdNP G 1 0 (wa 64 kW)):Ct Tryz.prog 10 ([.agg (ba 32 root).toArray,.agg ([V h.kind,V h.level,uv .u64 h.gen,uv .u64 h.epoch,uv .u64 h.num]:List Value).toArray,uv .u64 n,uv .u64 mark,s.val hd,e.val ha he]:List Value).toArray G [] (fun G' μ' u=>∃ v L X hdX r,LayR root h n mark s e L X r∧μ'=[rB v 5 L]∧u=.tuple #[v,State.val X hdX,.int .i64 r]∧StR G' X hdX):=by
 refine Ct.of Tryz.func10 rfl Tryz.ntmps10 rfl fun w0 hs0=>?_
 refine .seq (rq7 rfl rfl ?_)
 refine bx rfl (.u rfl) rfl ?_; intro b6
 refine bx rfl (.u rfl) rfl ?_; intro b7
 refine bx rfl (.u rfl) rfl ?_; intro b10
 refine bx rfl (.u rfl) rfl ?_; intro b11
 refine aS rfl rfl ?_
 refine al rfl Fx.zq33 ?_; intro b13
 refine aS rfl rfl (.nil (.code (.seq ?_)))
 refine wk_fz tk4 (by intro b hb; cases hb) ?_; intro Gfb6 hleb6 hbb6
 have hs:=hs.mono hleb6
 have hE:=hE.mono hleb6
 have hK:=hK.mono hleb6
 refine wk_fz tk3 (by intro b hb; cases hb) ?_; intro Gfb7 hleb7 hbb7
 have hs:=hs.mono hleb7
 have hE:=hE.mono hleb7
 have hK:=hK.mono hleb7
 have hbb6:=hbb6.mono hleb7
 refine wk_fz tk1 (by intro b hb; cases hb) ?_; intro Gfb11 hleb11 hbb11
 have hs:=hs.mono hleb11
 have hE:=hE.mono hleb11
 have hK:=hK.mono hleb11
 have hbb6:=hbb6.mono hleb11
 have hbb7:=hbb7.mono hleb11
 refine rq9 rfl rfl (lA rfl .no Fx.ag33 (.u rfl) (fun _=>RdN.own tk1) (fun _=>(by first|exact qE|exact qL|rfl)) ?_)
 refine lA rfl .no Fx.ag45 (.u rfl) (fun _=>(hbb11.rdn (m:=11) (cs':=e.cells ha he) (rfl)).rd) (fun _=>(by first|exact qE|exact qL|rfl)) ?_
 refine kc rfl Fx.go21 (Evc rfl (Evc rfl Evn)) (apply_ok s hd e ha he _ hs hE) ?_
 rintro _ G22 μ22 hG22 ⟨X22,hX22,er22,hA22,rfl,rfl,hR22⟩
 have hE:=hE.mono hG22
 have hK:=hK.mono hG22
 have hbb6:=hbb6.mono hG22
 have hbb7:=hbb7.mono hG22
 have hbb11:=hbb11.mono hG22
 refine mV rfl rfl (ex rfl .no (.u rfl) rfl (ex rfl .no (.u rfl) rfl ?_))
 refine al rfl Fx.zq33 ?_; intro b15
 refine sw rfl (.u rfl) (.u rfl) rfl Fx.sz33 .here (by first|exact qE|exact qL|rfl) (State.one') ?_
 refine aS rfl rfl (.nil (.code (.seq (.seq (rq2 rfl rfl (mV rfl rfl (cp rfl .no (.u rfl) (.u rfl) rfl (.nil (.code (.cond rfl (fun c1=>?_) (fun c1=>?_)))))))))))
 ·have c1k:=c1
  try simp only [qcA,qcC,qcB] at c1
  refine .seq (rq5 rfl rfl (bC rfl .no Fx.bp33_ .nil rfl ?_))
  refine mV rfl rfl (aS rfl rfl (sw rfl (.u rfl) (.u rfl) rfl Fx.sz33 tk1 (by first|exact qE|exact qL|rfl) (State.one') ?_))
  refine aS rfl rfl (.nil (.code (.ret (we_nilB 5 ?_))))
  refine We.fin Tryz.results10 (.tmp rfl (.cell rfl (fun w hw=>run_loadVarN Fx.ag33 (RdN.own tk1) ((by first|exact qE|exact qL|rfl)) hw) (.tmp rfl .nil))) (mS .here rfl mN) ?_
  exact ⟨_,[],State.zero,hd0,er22,⟨X22,er22,hA22,.inl ⟨c1,rfl,rfl,rfl⟩⟩,rfl,rfl,st_zero⟩
 have c1k:=c1
 try simp only [qcA,qcC,qcB] at c1
 refine .skip (.code (.seq ?_))
 have hfe:=AppR.few (s:=s) (e:=e) (X:=X22) (by rw [show er22=0 by omega] at hA22; exact hA22) hE.wf
 have hen:=encE_len hE.wf hfe.1 hfe.2.1
 refine rq4 rfl rfl (lA rfl .no Fx.ag33 (.u rfl) (fun _=>RdN.own .here) (fun _=>(by first|exact qE|exact qL|rfl)) ?_)
 refine kv rfl .no Fx.go22 (Evc rfl Evn) (fun _=>mRoot_ok X22 hX22 _ hR22 (hA22.stN hE.wf) hA22.stL hK) ?_
 refine al rfl Fx.zq23 ?_; intro b17
 refine sw rfl (.u rfl) (.u rfl) rfl Fx.sz23 .here rfl (ba_one _ _) ?_
 refine .nil (.code (.seq (Wk.mixp ⟨true,false⟩ Fx.mix (by kernel_rfl) ?_)))
 refine Wp.one 2 (by kernel_rfl) ?_
 refine mV rfl rfl (.nil (Wp.one 3 (by kernel_rfl) ?_))
 refine mV rfl rfl (.nil (Wp.one 5 (by kernel_rfl) ?_))
 refine sa0 rfl .no Fx.ar23 (.u rfl) (.nil (Wp.pr 0 (by kernel_rfl) ?_))
 refine lA rfl .no Fx.ag23 (.u rfl) (fun _=>(hbb6.rdn (m:=32) (cs':=_) (by first|exact ba_all|exact app_l|exact app_r)).rd) (fun _=>(ba_len _ _)) ?_
 refine .nil ⟨⟨rfl,rfl⟩,?_⟩
 refine Wp.pr 1 (by kernel_rfl) ?_
 refine lA rfl .no Fx.ag28 (.u rfl) (fun _=>(hbb7.rdn (m:=5) (cs':=[V h.kind,V h.level,uv .u64 h.gen,uv .u64 h.epoch,uv .u64 h.num]) (rfl)).rd) (fun _=>rfl) ?_
 refine .nil ⟨⟨rfl,rfl⟩,?_⟩
 refine Wp.pr 7 (by kernel_rfl) ?_
 refine lA rfl .no Fx.ag45 (.u rfl) (fun _=>(hbb11.rdn (m:=11) (cs':=e.cells ha he) (rfl)).rd) (fun _=>(by first|exact qE|exact qL|rfl)) ?_
 refine .nil ⟨⟨rfl,rfl⟩,?_⟩
 refine Wp.b1 4 (by kernel_rfl) ?_
 refine kc rfl Fx.go24 (Evc rfl (Evc rfl (Evc rfl Evn))) (Ct.rowc (Fix_ok [] ⟨none,0⟩ mark 8 _ SlR.nul (by simp) (by decide))) ?_
 rintro v36 G36 μ36 hG36 ⟨L36,ov36,eL36,rfl⟩
 have hE:=hE.mono hG36
 have hK:=hK.mono hG36
 have hR22:=hR22.mono hG36
 refine .nil (Wp.b1 6 (by kernel_rfl) ?_)
 have lL36:L36.length=8:=by rw [eL36,List.nil_append,fix_len]
 refine apY rfl Fx.se24 Fx.zv5 (.u rfl) (.u rfl) .here (Sc.arr tk1) (by (try simp only [qlA,yl_len]); omega) ?_
 intro v38 L38 ov38 eL38
 have lL38:L38.length=L36.length+32:=by rw [eL38,List.length_append]; first|rfl | simp [yl_len]
 refine .nil (Wp.b1 8 (by kernel_rfl) ?_)
 refine kc rfl Fx.go25 (Evc rfl Evn) (encode_ok e ha he _ hE hfe.1 hfe.2.1 (by omega)) ?_
 rintro _ G40 μ40 hG40 ⟨h40,L40,eL40,rfl,rfl,hs40⟩
 have hK:=hK.mono hG40
 have hR22:=hR22.mono hG40
 refine .nil (Wp.b1 9 (by kernel_rfl) ?_)
 have lL40:L40.length=(encE e).length:=by rw [eL40]
 refine apY rfl Fx.se24 Fx.zv5 (.u rfl) (.u rfl) .here hs40.sc (by (try simp only [qlA,yl_len]); omega) ?_
 intro v41 L41 ov41 eL41
 have lL41:L41.length=L38.length+L40.length:=by rw [eL41,List.length_append]
 refine .nil (Wp.b1 10 (by kernel_rfl) ?_)
 refine ka rfl (.inl rfl) Fx.go23 (Evc rfl (Evc rfl (Evc rfl (Evc rfl Evn)))) (mtk1 .here) (wLay_row root h n L41 _ _ hK) ?_
 rintro _ G42 μ42 hG42 ⟨_,rfl,v42,L42,e42,hL42,rfl,rfl⟩
 have hR22:=hR22.mono hG42
 refine .nil (Wp.one 11 (by kernel_rfl) ?_)
 refine mV rfl rfl (.nil (Wp.one 12 (by kernel_rfl) ?_))
 refine ex rfl .no (.u rfl) rfl (.nil (Wp.one 13 (by kernel_rfl) ?_))
 refine ex rfl .no (.u rfl) rfl (.nil (Wp.one 14 (by kernel_rfl) ?_))
 refine aS rfl rfl (.nil (Wp.one 15 (by kernel_rfl) ?_))
 refine aS rfl rfl (.nil (Wp.last (by kernel_rfl) ?_))
 refine .code (.seq (.seq (rq2 rfl rfl (mV rfl rfl (cp rfl .no (.u rfl) (.u rfl) rfl (.nil (.code (.cond rfl (fun c2=>?_) (fun c2=>?_)))))))))
 ·have c2k:=c2
  try simp only [qcA,qcC,qcB] at c2
  refine .seq (rq5 rfl rfl (bC rfl .no Fx.bp33_ .nil rfl ?_))
  refine mV rfl rfl (aS rfl rfl (sw rfl (.u rfl) (.u rfl) rfl Fx.sz33 tk4 (by first|exact qE|exact qL|rfl) (State.one') ?_))
  refine aS rfl rfl (.nil (.code (.ret (we_nilB 5 ?_))))
  refine We.fin Tryz.results10 (.tmp rfl (.cell rfl (fun w hw=>run_loadVarN Fx.ag33 (RdN.own tk1) ((by first|exact qE|exact qL|rfl)) hw) (.tmp rfl .nil))) (mS .here rfl mN) ?_
  rw [eL41,eL38,eL36,eL40] at hL42
  exact ⟨_,[],State.zero,hd0,e42,⟨X22,er22,hA22,.inr ⟨by omega,L42,e42,hL42,.inl ⟨c2,rfl,rfl,rfl⟩⟩⟩,rfl,rfl,st_zero⟩
 have c2k:=c2
 try simp only [qcA,qcC,qcB] at c2
 refine .skip (.code (.seq (Wk.draw (mc:=⟨false,false⟩) [0,1,2,3,4] Fx.mix (by kernel_rfl) ?_)))
 refine mV rfl rfl (lA rfl .no Fx.ag33 (.u rfl) (fun _=>RdN.own tk3) (fun _=>(by first|exact qE|exact qL|rfl)) ?_)
 refine aS rfl rfl (sw rfl (.u rfl) (.u rfl) rfl Fx.sz33 tk4 (by first|exact qE|exact qL|rfl) (State.one') ?_)
 refine aS rfl rfl (.nil (.code (.ret (We.fin Tryz.results10 (.tmp rfl (.cell rfl (fun w hw=>run_loadVarN Fx.ag33 (RdN.own .here) ((by first|exact qE|exact qL|rfl)) hw) (.tmp rfl .nil))) (mS tk2 rfl mN) ?_))))
 rw [eL41,eL38,eL36,eL40] at hL42
 exact ⟨v42,L42,X22,hX22,0,⟨X22,er22,hA22,.inr ⟨by omega,L42,e42,hL42,.inr ⟨by omega,rfl,rfl,rfl⟩⟩⟩,rfl,rfl,hR22⟩
namespace Fx
theorem fo83_2:fOff Tryz.prog 83 2=some 65:=by kernel_rfl
theorem fo56_1:fOff Tryz.prog 56 1=some 5:=by kernel_rfl
theorem ag54:aggN Tryz.prog 54=some none:=by kernel_rfl
end Fx
namespace Fx
theorem sz83:szT Tryz.prog 83=some 74:=by kernel_rfl
theorem bp56_0_2:bPl Tryz.prog 56 [0,2]=some ([V 0#8,V 0#8,uv .u64 0#64,uv .u64 0#64,uv .u64 0#64,.slice none 0 0,.int .i64 0,.bool false],[(0,5),(6,1)]):=by kernel_rfl
theorem bp83_0_1_2:bPl Tryz.prog 83 [0,1,2]=some (ba 32 zF++ba 32 zF++[.slice none 0 0,V 0#8,V 0#8,uv .u64 0#64,uv .u64 0#64,uv .u64 0#64,.slice none 0 0,.int .i64 0,.bool false,.slice none 0 0],[(0,64),(64,1),(65,8)]):=by kernel_rfl
theorem zq83:zrL Tryz.prog 83=some (ba 32 zF++ba 32 zF++[.slice none 0 0,V 0#8,V 0#8,uv .u64 0#64,uv .u64 0#64,uv .u64 0#64,.slice none 0 0,.int .i64 0,.bool false,.slice none 0 0]):=by kernel_rfl
theorem cv5_3:cvK Tryz.prog 5 3=some .i64:=by kernel_rfl
theorem fo56_2:fOff Tryz.prog 56 2=some 6:=by kernel_rfl
theorem fo56_3:fOff Tryz.prog 56 3=some 7:=by kernel_rfl
theorem sz4:szT Tryz.prog 4=some 1:=by kernel_rfl
end Fx
theorem three {α β γ:Type} [DecidableEq α] (A B:α) (o:Option (β×γ)):A≠B∨(A=B∧o=none)∨(A=B∧∃ Q R,o=some (Q,R)):=by
 by_cases h:A=B
 ·rcases o with _ | ⟨Q,R⟩
  ·exact .inr (.inl ⟨h,rfl⟩)
  ·exact .inr (.inr ⟨h,Q,R,rfl⟩)
 ·exact .inl h
namespace Fx
theorem fo35_3:fOff Tryz.prog 35 3=some 20:=by kernel_rfl
end Fx
namespace Fx
theorem zr35:zrL Tryz.prog 35=some ([.int .u8 0,.int .u8 0,.int .u64 0,.int .u64 0,.int .u64 0,.slice none 0 0,.slice none 0 0,.slice none 0 0,.slice none 0 0,.slice none 0 0,.int .u64 0,.int .u64 0,.int .u64 0,.int .u64 0,.int .u64 0,.int .u64 0,.int .u64 0,.int .u64 0,.int .u64 0,.int .u64 0,.int .i64 0,.int .i64 0,.bool false]):=by kernel_rfl
theorem go14:goFn Tryz.prog 14=true:=by kernel_rfl
theorem fo56_0:fOff Tryz.prog 56 0=some 0:=by kernel_rfl
theorem bp35_:bPl Tryz.prog 35 []=some ([.int .u8 0,.int .u8 0,.int .u64 0,.int .u64 0,.int .u64 0,.slice none 0 0,.slice none 0 0,.slice none 0 0,.slice none 0 0,.slice none 0 0,.int .u64 0,.int .u64 0,.int .u64 0,.int .u64 0,.int .u64 0,.int .u64 0,.int .u64 0,.int .u64 0,.int .u64 0,.int .u64 0,.int .i64 0,.int .i64 0,.bool false],[]):=by kernel_rfl
theorem sz35:szT Tryz.prog 35=some 23:=by kernel_rfl
theorem ag35:aggN Tryz.prog 35=some (some 23):=by kernel_rfl
theorem bp35_0_4_5:bPl Tryz.prog 35 [0,4,5]=some ([.int .u8 0,.int .u8 0,.int .u64 0,.int .u64 0,.int .u64 0,.slice none 0 0,.slice none 0 0,.slice none 0 0,.slice none 0 0,.slice none 0 0,.int .u64 0,.int .u64 0,.int .u64 0,.int .u64 0,.int .u64 0,.int .u64 0,.int .u64 0,.int .u64 0,.int .u64 0,.int .u64 0,.int .i64 0,.int .i64 0,.bool false],[(0,5),(21,1),(22,1)]):=by kernel_rfl
end Fx
end Go.Proofs.YtdeobooblmjlfaaGreatDoor
namespace Go.Tan
open Go.RowKit
structure MAct where
 mark:BitVec 64
 e:Edit
 ha:Sh
 he:Sh
def MAct.cells (a:MAct):List Value:=uv .u64 a.mark :: a.e.cells a.ha a.he
theorem MAct.len (a:MAct):a.cells.length=12:=rfl
theorem readM_back {root:Nat→Y} {h:Hd} {R:List (List Y)} {m:Mn} (hk:h.kind=3#8) (hr:h.right=true) (hs:stepsM R Mn.zero=some m):readM root (logL root h R)=some ⟨h,m,(logL root h R).length,false⟩:=by
 have e:=log_back (root:=root) (h:=h) R hr
 have:=readM_yes (root:=root) (xs:=logL root h R) (m:=m) (by rw [e]; rintro (q | q); (exact q rfl); (exact q.2 hk)) (by rw [e]; exact hs)
 rw [e] at this; exact this
theorem readM_kind {root:Nat→Y} {h:Hd} {R:List (List Y)} (hk:h.kind≠3#8∨h.right=false):readM root (logL root h R)=none:=by
 by_cases hr:h.right=true
 ·have e:=log_back (root:=root) (h:=h) R hr
  refine readM_bad (.inr ⟨?_,by rw [e]; exact hk.resolve_right (by simp [hr])⟩)
  rw [logL,List.length_append,head_len]; omega
 exact readM_bad (.inl (by rw [log_wrong R (by simpa using hr)]; decide))
theorem readM_nil {root:Nat→Y}:readM root []=some ⟨Hd.zero,Mn.zero,0,true⟩:=by
 have e:readP root []=(⟨Hd.zero,[],0,true⟩,0):=read_short (by decide)
 have:=readM_yes (root:=root) (xs:=[]) (m:=Mn.zero) (by rw [e]; rintro (q | q); (exact q rfl); (exact absurd q.1 (by decide))) (by rw [e]; rfl)
 rw [e] at this; exact this
theorem readM_head {root:Nat→Y} {h:Hd} (hk:h.kind=3#8) (hr:h.right=true):readM root (headL h)=some ⟨h,Mn.zero,30,false⟩:=by
 have:=readM_back (root:=root) (R:=[]) hk hr rfl
 have e:logL root h []=headL h:=by simp [logL,bodyL]
 rw [e,head_len] at this; exact this
theorem readM_other {root:Nat→Y} {h:Hd} (hk:h.kind≠3#8):readM root (headL h)=none:=by
 have:=readM_kind (root:=root) (h:=h) (R:=[]) (.inl hk)
 have e:logL root h []=headL h:=by simp [logL,bodyL]
 rw [e] at this; exact this
end Go.Tan
namespace Go.Proofs.YtdeobooblmjlfaaGreatDoor
open Go.Tan Go.RowKit
namespace Fx
theorem bp23_:bPl Tryz.prog 23 []=some (ba 32 (fun _=>0#8),[]):=by kernel_rfl
theorem go6:goFn Tryz.prog 6=true:=by kernel_rfl
theorem bp28_0:bPl Tryz.prog 28 [0]=some ([V 0#8,V 0#8,uv .u64 0#64,uv .u64 0#64,uv .u64 0#64],[(0,1)]):=by kernel_rfl
theorem fo35_5:fOff Tryz.prog 35 5=some 22:=by kernel_rfl
theorem fo35_4:fOff Tryz.prog 35 4=some 21:=by kernel_rfl
end Fx
set_option maxRecDepth 100000
namespace FxManOa
theorem co98:Tryz.prog.cellsOf 98=40:=by kernel_rfl
theorem co5:Tryz.prog.cellsOf 5=1:=by kernel_rfl
theorem co26:Tryz.prog.cellsOf 26=1:=by kernel_rfl
theorem co3:Tryz.prog.cellsOf 3=1:=by kernel_rfl
theorem co9:Tryz.prog.cellsOf 9=1:=by kernel_rfl
theorem co23:Tryz.prog.cellsOf 23=32:=by kernel_rfl
theorem co104:Tryz.prog.cellsOf 104=2:=by kernel_rfl
theorem co33:Tryz.prog.cellsOf 33=14:=by kernel_rfl
theorem co31:Tryz.prog.cellsOf 31=5:=by kernel_rfl
theorem co30:Tryz.prog.cellsOf 30=5:=by kernel_rfl
theorem co29:Tryz.prog.cellsOf 29=1:=by kernel_rfl
theorem co45:Tryz.prog.cellsOf 45=11:=by kernel_rfl
theorem co43:Tryz.prog.cellsOf 43=1:=by kernel_rfl
end FxManOa
namespace Fx
theorem by98:Tryz.prog.bytesOf 98=112:=by kernel_rfl
theorem by104:Tryz.prog.bytesOf 104=16:=by kernel_rfl
theorem co130:Tryz.prog.cellsOf 130=1:=by kernel_rfl
theorem co202:Tryz.prog.cellsOf 202=64:=by kernel_rfl
end Fx
section
variable {H:Type} {R:Nat} {enc:TypeId×Value→H} {W:World} {cs:List Value}
def mQ (R:Nat) (m:Meta):Prop:=m.wf∧m.min.size≤R∧m.max.size≤R
theorem meta_of (hR:R≤140737488351232) (h:Rg R enc Tryz.prog W 98 cs):∃ m:Meta,cs=m.cells∧mQ R m:=by
 have hl:=h.len Tryz.underlying98
 rw [FxManOa.co98] at hl
 obtain ⟨n0,h0,w0⟩:=h.intAt Tryz.underlying98 0 5 0 rfl Tryz.underlying5 FxManOa.co5
 obtain ⟨n1,h1,w1⟩:=h.intAt Tryz.underlying98 1 26 1 rfl Tryz.underlying26 FxManOa.co26
 obtain ⟨n2,h2,w2⟩:=h.intAt Tryz.underlying98 2 26 2 rfl Tryz.underlying26 FxManOa.co26
 obtain ⟨n3,h3,w3⟩:=h.intAt Tryz.underlying98 3 26 3 rfl Tryz.underlying26 FxManOa.co26
 obtain ⟨n4,h4,w4⟩:=h.intAt Tryz.underlying98 4 3 4 rfl Tryz.underlying3 FxManOa.co3
 obtain ⟨n5,h5,w5⟩:=h.intAt Tryz.underlying98 5 3 5 rfl Tryz.underlying3 FxManOa.co3
 obtain ⟨s6,h6,w6⟩:=h.strAt Tryz.underlying98 6 9 6 rfl Tryz.underlying9 FxManOa.co9
 obtain ⟨s7,h7,w7⟩:=h.strAt Tryz.underlying98 7 9 7 rfl Tryz.underlying9 FxManOa.co9
 obtain ⟨r,hr⟩:=(h.fld Tryz.underlying98 8 23 8 rfl FxManOa.co23).ints Tryz.underlying23 Tryz.underlying5 FxManOa.co5
 rw [show IntKind.u8.min=0 by decide,show IntKind.u8.max=255 by decide] at w0
 rw [show IntKind.u64.min=0 by decide,show IntKind.u64.max=18446744073709551615 by decide] at w1
 rw [show IntKind.u64.min=0 by decide,show IntKind.u64.max=18446744073709551615 by decide] at w2
 rw [show IntKind.u64.min=0 by decide,show IntKind.u64.max=18446744073709551615 by decide] at w3
 rw [show IntKind.i64.min = -9223372036854775808 by decide,show IntKind.i64.max=9223372036854775807 by decide] at w4
 rw [show IntKind.i64.min = -9223372036854775808 by decide,show IntKind.i64.max=9223372036854775807 by decide] at w5
 refine ⟨⟨n0,n1,n2,n3,n4,n5,s6,s7,r⟩,list_eq hl fun i hi=>?_,⟨⟨w0.1,by show n0<_; omega⟩,⟨w3.1,by show n3<_; omega⟩,w4,Nat.le_trans w6 (by omega),Nat.le_trans w7 (by omega),w1,w2,w5,fun j hj=>?_⟩,w6,w7⟩
 ·match i,hi with
  | 0,_=>exact h0
  | 1,_=>exact h1
  | 2,_=>exact h2
  | 3,_=>exact h3
  | 4,_=>exact h4
  | 5,_=>exact h5
  | 6,_=>exact h6
  | 7,_=>exact h7
  | n+8,hi =>
   have hn:n<32:=by have:n+8<40:=hi; omega
   rw [show n+8=8+n by omega,take_at (hr n hn).1]
   rw [Meta.cells,List.getElem?_append_right (by simp)]
   simp [hn]
 have w8:=(hr j hj).2; rw [show IntKind.u8.min=0 by decide,show IntKind.u8.max=255 by decide] at w8; exact w8
theorem gone_of (h:Rg R enc Tryz.prog W 104 cs):∃ g:Gone,cs=g.cells∧g.wf:=by
 have hl:=h.len Tryz.underlying104
 rw [FxManOa.co104] at hl
 obtain ⟨n0,h0,w0⟩:=h.intAt Tryz.underlying104 0 5 0 rfl Tryz.underlying5 FxManOa.co5
 obtain ⟨n1,h1,w1⟩:=h.intAt Tryz.underlying104 1 26 1 rfl Tryz.underlying26 FxManOa.co26
 rw [show IntKind.u8.min=0 by decide,show IntKind.u8.max=255 by decide] at w0
 rw [show IntKind.u64.min=0 by decide,show IntKind.u64.max=18446744073709551615 by decide] at w1
 refine ⟨⟨n0,n1⟩,list_eq hl fun i hi=>?_,⟨w0.1,by show n0<_; omega⟩,⟨w1.1,by show n1<_; omega⟩⟩
 match i,hi with
 | 0,_=>exact h0
 | 1,_=>exact h1
 | n+2,hi=>exact absurd hi (by show ¬ n+2<2; omega)
theorem state_of (hR:R≤140737488351232) (h:Rg R enc Tryz.prog W 33 cs):∃ (s:State) (hd:Nat→Sh),cs=s.cells hd∧StR (fun b=>W.heap[b]?) s hd∧(u64 s.log∧u64 s.next∧u64 s.seq∧u64 s.least∧∀ i,i<5→u64 (s.gens i))∧∀ i,i<5→∀ m∈s.lv i,mQ R m:=by
 have hl:=h.len Tryz.underlying33
 rw [FxManOa.co33] at hl
 obtain ⟨n1,h1,w1⟩:=h.intAt Tryz.underlying33 1 26 5 rfl Tryz.underlying26 FxManOa.co26
 obtain ⟨n2,h2,w2⟩:=h.intAt Tryz.underlying33 2 26 6 rfl Tryz.underlying26 FxManOa.co26
 obtain ⟨n3,h3,w3⟩:=h.intAt Tryz.underlying33 3 26 7 rfl Tryz.underlying26 FxManOa.co26
 obtain ⟨n4,h4,w4⟩:=h.intAt Tryz.underlying33 4 26 8 rfl Tryz.underlying26 FxManOa.co26
 obtain ⟨r,hr⟩:=(h.fld Tryz.underlying33 5 31 9 rfl FxManOa.co31).ints Tryz.underlying31 Tryz.underlying26 FxManOa.co26
 rw [show IntKind.u64.min=0 by decide,show IntKind.u64.max=18446744073709551615 by decide] at w1
 rw [show IntKind.u64.min=0 by decide,show IntKind.u64.max=18446744073709551615 by decide] at w2
 rw [show IntKind.u64.min=0 by decide,show IntKind.u64.max=18446744073709551615 by decide] at w3
 rw [show IntKind.u64.min=0 by decide,show IntKind.u64.max=18446744073709551615 by decide] at w4
 have hlv:∀ i,∃ (y:Sh×List Meta),i<5→cs[i]? = some (y.1.val y.2.length)∧SlR (fun b=>W.heap[b]?) 40 Meta.cells y.1 y.2∧y.2.length*112≤R∧∀ m∈y.2,mQ R m:=by
  intro i
  by_cases hi:i<5
  ·obtain ⟨hd,l,e,hs,hc,hq⟩:=((h.fld Tryz.underlying33 0 30 0 rfl FxManOa.co30).elm Tryz.underlying30 hi FxManOa.co29).sl Meta.cells (mQ R) Tryz.underlying29 FxManOa.co98 (by decide) Fx.by98 (fun cs' h'=>meta_of hR h')
   have:=take_at (take1 e)
   refine ⟨(hd,l),fun _=>⟨by simpa using this,hs,Nat.le_trans (Nat.mul_le_mul_right _ hs.le) hc,hq⟩⟩
  exact ⟨(⟨none,0⟩,[]),fun h=>absurd h hi⟩
 obtain ⟨M,hM⟩ : ∃ M:Nat→Sh×List Meta,∀ i,i<5→cs[i]? = some ((M i).1.val (M i).2.length)∧SlR (fun b=>W.heap[b]?) 40 Meta.cells (M i).1 (M i).2∧(M i).2.length*112≤R∧∀ m∈(M i).2,mQ R m:=⟨fun i=>Classical.choose (hlv i),fun i=>Classical.choose_spec (hlv i)⟩
 refine ⟨⟨fun i=>(M i).2,n1,n2,n3,n4,r⟩,fun i=>(M i).1,list_eq hl fun i hi=>?_,⟨fun i hi=>(hM i hi).2.1,fun i hi=>Nat.le_trans (hM i hi).2.2.1 hR,fun i hi m hm=>((hM i hi).2.2.2 m hm).1⟩,⟨⟨w1.1,by show n1<_; omega⟩,⟨w2.1,by show n2<_; omega⟩,⟨w3.1,by show n3<_; omega⟩,⟨w4.1,by show n4<_; omega⟩,fun j hj=>by
  have w8:=(hr j hj).2; rw [show IntKind.u64.min=0 by decide,show IntKind.u64.max=18446744073709551615 by decide] at w8; exact ⟨w8.1,by show r j<_; omega⟩⟩,fun i hi=>(hM i hi).2.2.2⟩
 match i,hi with
 | 0,_=>exact (hM 0 (by decide)).1
 | 1,_=>exact (hM 1 (by decide)).1
 | 2,_=>exact (hM 2 (by decide)).1
 | 3,_=>exact (hM 3 (by decide)).1
 | 4,_=>exact (hM 4 (by decide)).1
 | 5,_=>exact h1
 | 6,_=>exact h2
 | 7,_=>exact h3
 | 8,_=>exact h4
 | 9,_=>exact take_at (hr 0 (by decide)).1
 | 10,_=>exact take_at (hr 1 (by decide)).1
 | 11,_=>exact take_at (hr 2 (by decide)).1
 | 12,_=>exact take_at (hr 3 (by decide)).1
 | 13,_=>exact take_at (hr 4 (by decide)).1
 | n+14,hi=>exact absurd hi (by show ¬ n+14<14; omega)
theorem edit_of (hR:R≤140737488351232) (h:Rg R enc Tryz.prog W 45 cs):∃ (e:Edit) (ha hd:Sh),cs=e.cells ha hd∧EdR (fun b=>W.heap[b]?) e ha hd∧e.add.length*112≤R∧e.drop.length*16≤R∧∀ m∈e.add,mQ R m:=by
 have hl:=h.len Tryz.underlying45
 rw [FxManOa.co45] at hl
 obtain ⟨n0,h0,w0⟩:=h.intAt Tryz.underlying45 0 26 0 rfl Tryz.underlying26 FxManOa.co26
 obtain ⟨n1,h1,w1⟩:=h.intAt Tryz.underlying45 1 26 1 rfl Tryz.underlying26 FxManOa.co26
 obtain ⟨n2,h2,w2⟩:=h.intAt Tryz.underlying45 2 26 2 rfl Tryz.underlying26 FxManOa.co26
 obtain ⟨n3,h3,w3⟩:=h.intAt Tryz.underlying45 3 26 3 rfl Tryz.underlying26 FxManOa.co26
 obtain ⟨r,hr⟩:=(h.fld Tryz.underlying45 4 31 4 rfl FxManOa.co31).ints Tryz.underlying31 Tryz.underlying26 FxManOa.co26
 rw [show IntKind.u64.min=0 by decide,show IntKind.u64.max=18446744073709551615 by decide] at w0
 rw [show IntKind.u64.min=0 by decide,show IntKind.u64.max=18446744073709551615 by decide] at w1
 rw [show IntKind.u64.min=0 by decide,show IntKind.u64.max=18446744073709551615 by decide] at w2
 rw [show IntKind.u64.min=0 by decide,show IntKind.u64.max=18446744073709551615 by decide] at w3
 obtain ⟨ha,la,ea,hsa,hca,hqa⟩:=(h.fld Tryz.underlying45 5 29 9 rfl FxManOa.co29).sl Meta.cells (mQ R) Tryz.underlying29 FxManOa.co98 (by decide) Fx.by98 (fun cs' h'=>meta_of hR h')
 obtain ⟨hd,ld,ed,hsd,hcd,hqd⟩:=(h.fld Tryz.underlying45 6 43 10 rfl FxManOa.co43).sl Gone.cells Gone.wf Tryz.underlying43 FxManOa.co104 (by decide) Fx.by104 (fun cs' h'=>gone_of h')
 refine ⟨⟨n0,n1,n2,n3,r,la,ld⟩,ha,hd,list_eq hl fun i hi=>?_,⟨hsa,hsd,⟨w0.1,by show n0<_; omega⟩,⟨w1.1,by show n1<_; omega⟩,⟨w2.1,by show n2<_; omega⟩,⟨w3.1,by show n3<_; omega⟩,fun j hj=>?_,fun m hm=>(hqa m hm).1,hqd⟩,Nat.le_trans (Nat.mul_le_mul_right _ hsa.le) hca,Nat.le_trans (Nat.mul_le_mul_right _ hsd.le) hcd,hqa⟩
 rotate_left
 ·have w8:=(hr j hj).2; rw [show IntKind.u64.min=0 by decide,show IntKind.u64.max=18446744073709551615 by decide] at w8; exact ⟨w8.1,by show r j<_; omega⟩
 match i,hi with
 | 0,_=>exact h0
 | 1,_=>exact h1
 | 2,_=>exact h2
 | 3,_=>exact h3
 | 4,_=>exact take_at (hr 0 (by decide)).1
 | 5,_=>exact take_at (hr 1 (by decide)).1
 | 6,_=>exact take_at (hr 2 (by decide)).1
 | 7,_=>exact take_at (hr 3 (by decide)).1
 | 8,_=>exact take_at (hr 4 (by decide)).1
 | 9,_=>exact take1 ea
 | 10,_=>exact take1 ed
 | n+11,hi=>exact absurd hi (by show ¬ n+11<11; omega)
theorem agg_of {t:TypeId} {fs:Array Field} {base:Nat} {v:Value} (ht:Tryz.prog.underlying t=some (.struct fs)) (h:Value.okWide Tryz.prog W .any base t v) {l:List Value} (hl:v.cells.toList=l):v=.agg l.toArray:=by
 unfold Value.okWide at h
 rw [ht] at h
 obtain ⟨c,rfl,_⟩:=h
 rw [← hl]; rfl
end
theorem tanOwn:ownKnob Tryz.prog.godebug=none:=by kernel_rfl
theorem tanLaid:laidOutB Tryz.prog=true:=by kernel_rfl
theorem gC:Tryz.prog.globalNamed "tantalus/sha.constants" = some 1:=by kernel_rfl
theorem gCT:(Tryz.prog.globals[1]?).map (·.type)=some 202:=by kernel_rfl
theorem gR:Tryz.prog.globalNamed "tantalus/tantalusref03.K" = some 0:=by kernel_rfl
theorem gRT:(Tryz.prog.globals[0]?).map (·.type)=some 202:=by kernel_rfl
def kInts:List Int:=[1116352408,1899447441,3049323471,3921009573,961987163,1508970993,2453635748,2870763221,3624381080,310598401,607225278,1426881987,1925078388,2162078206,2614888103,3248222580,3835390401,4022224774,264347078,604807628,770255983,1249150122,1555081692,1996064986,2554220882,2821834349,2952996808,3210313671,3336571891,3584528711,113926993,338241895,666307205,773529912,1294757372,1396182291,1695183700,1986661051,2177026350,2456956037,2730485921,2820302411,3259730800,3345764771,3516065817,3600352804,4094571909,275423344,430227734,506948616,659060556,883997877,958139571,1322822218,1537002063,1747873779,1955562222,2024104815,2227730452,2361852424,2428436474,2756734187,3204031479,3329325298]
theorem kInts_at:∀ j,j<64→kInts.getD j 0=((kW j).toNat:Int):=by decide
theorem tabC {W:World} {rest:List (String×DataW Unit)} (h:laidMet Tryz.prog (("tantalus/sha.constants",Rows.laid_tantalus_sha_constants) :: rest) W):RdNP (fun b=>W.heap[b]?) 1 0 (wa 64 kW) :=
 tab_rd (Lib.tabIs_of_head (zs:=kInts) (rest:=rest) gC gCT Tryz.underlying202 Tryz.underlying130 Fx.co130 Fx.co202 h) gC rfl kInts_at
theorem tabR {W:World} {x:String×DataW Unit} {rest:List (String×DataW Unit)} (h:laidMet Tryz.prog (x :: ("tantalus/tantalusref03.K",Rows.laid_tantalus_tantalusref03_K) :: rest) W):RdNP (fun b=>W.heap[b]?) 0 0 (wa 64 kW) :=
 tab_rd (Lib.tabIs_of_head (zs:=kInts) (rest:=rest) gR gRT Tryz.underlying202 Tryz.underlying130 Fx.co130 Fx.co202 (laid_tail h)) gR rfl kInts_at
def kCells:Array Value:=#[.int .u32 1116352408,.int .u32 1899447441,.int .u32 3049323471,.int .u32 3921009573,.int .u32 961987163,.int .u32 1508970993,.int .u32 2453635748,.int .u32 2870763221,.int .u32 3624381080,.int .u32 310598401,.int .u32 607225278,.int .u32 1426881987,.int .u32 1925078388,.int .u32 2162078206,.int .u32 2614888103,.int .u32 3248222580,.int .u32 3835390401,.int .u32 4022224774,.int .u32 264347078,.int .u32 604807628,.int .u32 770255983,.int .u32 1249150122,.int .u32 1555081692,.int .u32 1996064986,.int .u32 2554220882,.int .u32 2821834349,.int .u32 2952996808,.int .u32 3210313671,.int .u32 3336571891,.int .u32 3584528711,.int .u32 113926993,.int .u32 338241895,.int .u32 666307205,.int .u32 773529912,.int .u32 1294757372,.int .u32 1396182291,.int .u32 1695183700,.int .u32 1986661051,.int .u32 2177026350,.int .u32 2456956037,.int .u32 2730485921,.int .u32 2820302411,.int .u32 3259730800,.int .u32 3345764771,.int .u32 3516065817,.int .u32 3600352804,.int .u32 4094571909,.int .u32 275423344,.int .u32 430227734,.int .u32 506948616,.int .u32 659060556,.int .u32 883997877,.int .u32 958139571,.int .u32 1322822218,.int .u32 1537002063,.int .u32 1747873779,.int .u32 1955562222,.int .u32 2024104815,.int .u32 2227730452,.int .u32 2361852424,.int .u32 2428436474,.int .u32 2756734187,.int .u32 3204031479,.int .u32 3329325298]
def setO:Obj→Obj
 | .cells _ t frozen=>.cells kCells t frozen
 | o=>o
noncomputable def laidWorld (os:Os):World :=
 { World.holding Tryz.prog os ⟨#[], #[],[]⟩ with heap:=((World.holding Tryz.prog os ⟨#[], #[],[]⟩).heap.modify 0 setO).modify 1 setO }
set_option maxRecDepth 100000
namespace Fx
theorem co28:Tryz.prog.cellsOf 28=5:=by kernel_rfl
theorem co47:Tryz.prog.cellsOf 47=12:=by kernel_rfl
theorem co42:Tryz.prog.cellsOf 42=37:=by kernel_rfl
end Fx
section
variable {H:Type} {M:Nat}
end
section
variable {H:Type} {R:Nat} {enc:TypeId×Value→H} {W:World} {cs:List Value}
theorem split5 (hl:cs.length=5) {a b c d e:Value} (h0:(cs.drop 0).take 1=[a]) (h1:(cs.drop 1).take 1=[b]) (h2:(cs.drop 2).take 1=[c]) (h3:(cs.drop 3).take 1=[d]) (h4:(cs.drop 4).take 1=[e]):cs=[a,b,c,d,e]:=by
 match cs,hl with
 | [p,q,r,s,t],_=>simp at h0 h1 h2 h3 h4; rw [h0,h1,h2,h3,h4]
theorem head_of (h:Rg R enc Tryz.prog W 28 cs):∃ hd:Hd,cs=[V hd.kind,V hd.level,uv .u64 hd.gen,uv .u64 hd.epoch,uv .u64 hd.num]:=by
 have hl:=h.len Tryz.underlying28
 rw [Fx.co28] at hl
 obtain ⟨a,ha⟩:=(h.fld Tryz.underlying28 0 5 0 rfl FxManOa.co5).uw rfl Tryz.underlying5
 obtain ⟨b,hb⟩:=(h.fld Tryz.underlying28 1 5 1 rfl FxManOa.co5).uw rfl Tryz.underlying5
 obtain ⟨c,hc⟩:=(h.fld Tryz.underlying28 2 26 2 rfl FxManOa.co26).uw rfl Tryz.underlying26
 obtain ⟨d,hd⟩:=(h.fld Tryz.underlying28 3 26 3 rfl FxManOa.co26).uw rfl Tryz.underlying26
 obtain ⟨e,he⟩:=(h.fld Tryz.underlying28 4 26 4 rfl FxManOa.co26).uw rfl Tryz.underlying26
 exact ⟨⟨a,b,c,d,e⟩,split5 hl ha hb hc hd he⟩
theorem canon_edit (e:Edit) (ha he:Sh):e.canon.cells ha he=e.cells ha he∧e.canon.canon=e.canon:=by
 constructor
 ·have e1:((List.range 5).map fun i=>Value.int .u64 (e.canon.gens i))=(List.range 5).map fun i=>Value.int .u64 (e.gens i):=List.map_congr_left fun i hi=>by show Value.int .u64 (if i<5 then e.gens i else 0)=_; rw [if_pos (List.mem_range.1 hi)]
  have e2:e.canon.add.length=e.add.length:=by show (e.add.map Meta.canon).length=_; rw [List.length_map]
  unfold Edit.cells; rw [e1,e2]; rfl
 unfold Edit.canon
 simp only [List.map_map]
 congr 1
 ·funext i; by_cases h:i<5<;>simp [h]
 refine List.map_congr_left fun m _=>?_
 show Meta.canon (Meta.canon m)=Meta.canon m
 unfold Meta.canon
 congr 1
 funext i; by_cases h:i<32<;>simp [h]
theorem canon_r {G:PM} {e:Edit} {ha he:Sh} (h:EdR G e ha he):EdR G e.canon ha he:=by
 have hm:∀ (l:List Meta),SlR G 40 Meta.cells ha l→SlR G 40 Meta.cells ha (l.map Meta.canon):=fun l hs=>by
  refine ⟨fun hne=>hs.there (fun e=>hne (by rw [e]; rfl)),by rw [List.length_map]; exact hs.le,fun i x hx=>?_⟩
  rw [List.getElem?_map] at hx
  cases hy:l[i]? with
  | none=>rw [hy] at hx; cases hx
  | some y=>rw [hy] at hx; obtain rfl:=Option.some.inj hx; rw [canon_cells]; exact hs.rd i y hy
 refine ⟨hm _ h.add,h.drop,h.wf.log,h.wf.next,h.wf.seq,h.wf.least,fun i hi=>?_,fun m hmm=>?_,h.wf.drop⟩
 ·show u64 (if i<5 then e.gens i else 0); rw [if_pos hi]; exact h.wf.gens i hi
 obtain ⟨y,hy,rfl⟩:=List.mem_map.1 hmm
 have w:=h.wf.add y hy
 exact ⟨w.level,w.number,w.size,w.minL,w.maxL,w.gen,w.epoch,w.count,fun j hj=>by show 0≤(if j<32 then y.root j else 0)∧_; rw [show (Meta.canon y).root j=y.root j from if_pos hj,if_pos hj]; exact w.root j hj⟩
theorem act_of (hR:R≤140737488351232) (h:Rg R enc Tryz.prog W 47 cs):∃ a:MAct,cs=a.cells∧EdR (fun b=>W.heap[b]?) a.e a.ha a.he∧a.e.canon=a.e:=by
 have hl:=h.len Tryz.underlying47
 rw [Fx.co47] at hl
 obtain ⟨mk,hmk⟩:=(h.fld Tryz.underlying47 0 26 0 rfl FxManOa.co26).uw rfl Tryz.underlying26
 obtain ⟨e,ha,he,h1,h2,_⟩:=edit_of hR (h.fld Tryz.underlying47 1 45 1 rfl FxManOa.co45)
 obtain ⟨c1,c2⟩:=canon_edit e ha he
 refine ⟨⟨mk,e.canon,ha,he⟩,?_,canon_r h2,c2⟩
 rw [split2 (cs:=cs) (a:=1) (b:=11) hl,hmk,h1,←c1]; rfl
theorem of_of (h:Rg R enc Tryz.prog W 42 cs):∃ (root:Nat→Y) (hd:Hd),cs=ba 32 root++[V hd.kind,V hd.level,uv .u64 hd.gen,uv .u64 hd.epoch,uv .u64 hd.num]:=by
 have hl:=h.len Tryz.underlying42
 rw [Fx.co42] at hl
 obtain ⟨r,hr⟩:=(h.fld Tryz.underlying42 0 23 0 rfl FxManOa.co23).ba Tryz.underlying23 Tryz.underlying5 FxManOa.co5 FxManOa.co23
 obtain ⟨hd,hh⟩:=head_of (h.fld Tryz.underlying42 1 28 32 rfl Fx.co28)
 exact ⟨r,hd,by rw [split2 (cs:=cs) (a:=32) (b:=5) hl,hr,hh]⟩
end
namespace FxMzR
theorem bp56_0_2:bPl Tryz.prog 56 [0,2]=some ([V 0#8,V 0#8,uv .u64 0#64,uv .u64 0#64,uv .u64 0#64,.slice none 0 0,.int .i64 0,.bool false],[(0,5),(6,1)]):=by kernel_rfl
theorem bp83_0_1_2:bPl Tryz.prog 83 [0,1,2]=some (ba 32 zF++ba 32 zF++[.slice none 0 0,V 0#8,V 0#8,uv .u64 0#64,uv .u64 0#64,uv .u64 0#64,.slice none 0 0,.int .i64 0,.bool false,.slice none 0 0],[(0,64),(64,1),(65,8)]):=by kernel_rfl
theorem zq83:zrL Tryz.prog 83=some (ba 32 zF++ba 32 zF++[.slice none 0 0,V 0#8,V 0#8,uv .u64 0#64,uv .u64 0#64,uv .u64 0#64,.slice none 0 0,.int .i64 0,.bool false,.slice none 0 0]):=by kernel_rfl
theorem sz83:szT Tryz.prog 83=some 74:=by kernel_rfl
theorem fo83_2:fOff Tryz.prog 83 2=some 65:=by kernel_rfl
theorem fo56_2:fOff Tryz.prog 56 2=some 6:=by kernel_rfl
theorem fo56_3:fOff Tryz.prog 56 3=some 7:=by kernel_rfl
theorem zr35:zrL Tryz.prog 35=some ([.int .u8 0,.int .u8 0,.int .u64 0,.int .u64 0,.int .u64 0,.slice none 0 0,.slice none 0 0,.slice none 0 0,.slice none 0 0,.slice none 0 0,.int .u64 0,.int .u64 0,.int .u64 0,.int .u64 0,.int .u64 0,.int .u64 0,.int .u64 0,.int .u64 0,.int .u64 0,.int .u64 0,.int .i64 0,.int .i64 0,.bool false]):=by kernel_rfl
theorem go14:goFn Tryz.prog 14=true:=by kernel_rfl
theorem fo56_0:fOff Tryz.prog 56 0=some 0:=by kernel_rfl
theorem bp35_:bPl Tryz.prog 35 []=some ([.int .u8 0,.int .u8 0,.int .u64 0,.int .u64 0,.int .u64 0,.slice none 0 0,.slice none 0 0,.slice none 0 0,.slice none 0 0,.slice none 0 0,.int .u64 0,.int .u64 0,.int .u64 0,.int .u64 0,.int .u64 0,.int .u64 0,.int .u64 0,.int .u64 0,.int .u64 0,.int .u64 0,.int .i64 0,.int .i64 0,.bool false],[]):=by kernel_rfl
theorem sz35:szT Tryz.prog 35=some 23:=by kernel_rfl
theorem ag35:aggN Tryz.prog 35=some (some 23):=by kernel_rfl
theorem bp35_0_4_5:bPl Tryz.prog 35 [0,4,5]=some ([.int .u8 0,.int .u8 0,.int .u64 0,.int .u64 0,.int .u64 0,.slice none 0 0,.slice none 0 0,.slice none 0 0,.slice none 0 0,.slice none 0 0,.int .u64 0,.int .u64 0,.int .u64 0,.int .u64 0,.int .u64 0,.int .u64 0,.int .u64 0,.int .u64 0,.int .u64 0,.int .u64 0,.int .i64 0,.int .i64 0,.bool false],[(0,5),(21,1),(22,1)]):=by kernel_rfl
theorem fo56_1:fOff Tryz.prog 56 1=some 5:=by kernel_rfl
theorem ag54:aggN Tryz.prog 54=some none:=by kernel_rfl
theorem bp23_:bPl Tryz.prog 23 []=some (ba 32 (fun _=>0#8),[]):=by kernel_rfl
theorem go6:goFn Tryz.prog 6=true:=by kernel_rfl
theorem bp28_0:bPl Tryz.prog 28 [0]=some ([V 0#8,V 0#8,uv .u64 0#64,uv .u64 0#64,uv .u64 0#64],[(0,1)]):=by kernel_rfl
theorem fo35_5:fOff Tryz.prog 35 5=some 22:=by kernel_rfl
theorem fo35_4:fOff Tryz.prog 35 4=some 21:=by kernel_rfl
theorem fo35_3:fOff Tryz.prog 35 3=some 20:=by kernel_rfl
end FxMzR
theorem cells_m8 {h h':Hd} {v v':Value} {u u':Int} {t t':Bool} (e1:h=h') (e2:v=v') (e3:u=u') (e4:t=t'):([V h.kind,V h.level,uv .u64 h.gen,uv .u64 h.epoch,uv .u64 h.num,v,.int .i64 u,.bool t]:List Value)=[V h'.kind,V h'.level,uv .u64 h'.gen,uv .u64 h'.epoch,uv .u64 h'.num,v',.int .i64 u',.bool t']:=by rw [e1,e2,e3,e4]
theorem readP_e {root:Nat→Y} {xs:List Y} (h:xs.length≤30):(readP root xs).1.recs=[]:=by
 unfold readP
 split
 ·rfl
 split
 ·rfl
 unfold bodyR
 rw [rd_short (by rw [List.length_drop]; omega)]
theorem wReadE_ok (root:Nat→Y) (xs:List Y) (hx:Sh) (G:PM) (hs:SlR G 1 encY hx xs) (hK:RdNP G 1 0 (wa 64 kW)) (hm:xs.length≤30):Ct Tryz.prog 14 ([.agg (ba 32 root).toArray,hx.val xs.length]:List Value).toArray G [] (fun G' μ' u=>∃ s ps,SlP G' s ps∧ps.map (·.2)=(readP root xs).1.recs∧μ'=[]∧u=.tuple #[.agg ([V (readP root xs).1.hd.kind,V (readP root xs).1.hd.level,uv .u64 (readP root xs).1.hd.gen,uv .u64 (readP root xs).1.hd.epoch,uv .u64 (readP root xs).1.hd.num,(s.val ps.length),.int .i64 ((readP root xs).1.used:Int),.bool (readP root xs).1.torn]:List Value).toArray,.int .i64 (readP root xs).2]):=by
 refine Ct.of Tryz.func14 rfl Tryz.ntmps14 rfl fun w0 hs0=>?_
 refine .seq (rq3 rfl rfl ?_)
 refine bx rfl (.u rfl) rfl ?_; intro b2
 refine al rfl Fx.zq56 ?_; intro b4
 refine aS rfl rfl (.nil (.code (.seq (.seq (rq3 rfl rfl (mV rfl rfl (ln rfl .no Fx.sn24 (.u rfl) (cp rfl .no (.u rfl) (.u rfl) rfl (.nil (.code (.cond rfl (fun c1=>?_) (fun c1=>?_))))))))))))
 ·have c1k:=c1
  try simp only [qcA,qcC,qcB] at c1
  refine .seq (rq3 rfl rfl (bC rfl .no Fx.bp56_3 (.cons (.u rfl) rfl .nil) rfl ?_))
  refine sw rfl (.u rfl) (.u rfl) rfl Fx.sz56 .here (by first|exact qE|exact qL|rfl) (one8 rfl rfl rfl rfl rfl rfl rfl rfl) ?_
  refine aS rfl rfl (.nil (.code (.ret (We.fin0 Tryz.results14 (.cell rfl (fun w hw=>run_loadVarN Fx.ag56 (RdN.own .here) ((by first|exact qE|exact qL|rfl)) hw) (.tmp rfl .nil)) ?_))))
  refine ⟨⟨none,0⟩,[],SlP.nul,by rw [read_short (by omega)]; rfl,rfl,?_⟩
  rw [read_short (by omega)]; rfl
 have c1k:=c1
 try simp only [qcA,qcC,qcB] at c1
 refine .skip (.code (.seq (rq8 rfl rfl (mV rfl rfl (kv rfl .no Fx.go28 (Evc rfl Evn) (fun _=>Take_ok xs hx _ hs (by omega)) ?_)))))
 refine mV rfl rfl (ex rfl .no (.u rfl) rfl (ex rfl .no (.u rfl) rfl ?_))
 refine al rfl Fx.zq28 ?_; intro b6
 refine sw rfl (.u rfl) (.u rfl) rfl Fx.sz28 .here (by first|exact qE|exact qL|rfl) (one5 rfl rfl rfl rfl rfl) ?_
 refine aS rfl rfl (.nil (.code (.seq (.seq (rq2 rfl rfl (mV rfl rfl (cp rfl .no (.u rfl) (.u rfl) rfl (.nil (.code (.cond rfl (fun c2=>?_) (fun c2=>?_)))))))))))
 ·have c2k:=c2
  try simp only [qcA,qcC,qcB] at c2
  refine .seq (rq4 rfl rfl (bC rfl .no Fx.bp56_ .nil rfl ?_))
  refine mV rfl rfl (sw rfl (.u rfl) (.u rfl) rfl Fx.sz56 tk1 (by first|exact qE|exact qL|rfl) (one8 rfl rfl rfl rfl rfl rfl rfl rfl) ?_)
  refine aS rfl rfl (.nil (.code (.ret (We.fin0 Tryz.results14 (.cell rfl (fun w hw=>run_loadVarN Fx.ag56 (RdN.own .here) ((by first|exact qE|exact qL|rfl)) hw) (.tmp rfl .nil)) ?_))))
  refine ⟨⟨none,0⟩,[],SlP.nul,by rw [read_head (by omega) c2]; rfl,rfl,?_⟩
  rw [read_head (by omega) c2]; rfl
 have c2k:=c2
 try simp only [qcA,qcC,qcB] at c2
 refine .skip (.code (.seq (Wk.draw (mc:=⟨false,false⟩) [0,1,3,5,6,2,4,7,8,9] Fx.mix (by kernel_rfl) ?_)))
 refine lA rfl .no Fx.ag23 (.u rfl) (fun _=>RdN.own tk2) (fun _=>(by first|exact qE|exact qL|rfl)) ?_
 refine lA rfl .no Fx.ag28 (.u rfl) (fun _=>RdN.own .here) (fun _=>(by first|exact qE|exact qL|rfl)) ?_
 refine lA rfl .no Fx.ag28 (.u rfl) (fun _=>RdN.own .here) (fun _=>(by first|exact qE|exact qL|rfl)) ?_
 refine lA rfl .no Fx.ag28 (.u rfl) (fun _=>RdN.own .here) (fun _=>(by first|exact qE|exact qL|rfl)) ?_
 refine bCe ([V (takeH xs).1.kind,V (takeH xs).1.level,uv .u64 (takeH xs).1.gen,uv .u64 (takeH xs).1.epoch,uv .u64 (takeH xs).1.num,.slice none 0 0,.int .i64 30,.bool false]) rfl .no FxMzR.bp56_0_2 (.cons (.u rfl) rfl (.cons (.u rfl) rfl .nil)) rfl (rfl) (kv rfl .no Fx.go29 (Evc rfl (Evc rfl Evn)) (fun _=>KeyOf_ok root (takeH xs).1 _ hK) ?_)
 refine kc rfl Fx.go13 (Evc rfl Evn) (Ct.frzB (nLay_ok (takeH xs).1 _)) ?_
 rintro _ G29 μ29 hG29 ⟨h29,L29,eL29,rfl,rfl,hs29⟩
 have hs:=hs.mono hG29
 refine bCe (rdC (keyEnc root (headL (takeH xs).1)) (keyMac root (headL (takeH xs).1)) (h29.val L29.length) (takeH xs).1 (.slice none 0 0) 30 false (.slice none 0 0)) rfl .no FxMzR.bp83_0_1_2 (.cons (.u rfl) rfl (.cons (.u rfl) rfl (.cons (.u rfl) rfl .nil))) (rd_ok rdz_len k64 rfl) (rd_built rfl k64 _ _ rfl) ?_
 refine al rfl FxMzR.zq83 ?_; intro b8
 refine sw rfl (.u rfl) (.u rfl) rfl (by rw [rdc_len]; exact FxMzR.sz83) .here (rdc_len.trans rdz_len.symm) (rdc_one rfl rfl rfl) ?_
 refine .nil ?_
 subst eL29
 have lh:=head_len (takeH xs).1
 refine .code (.seq (wk_nilS 1 encP 24 ?_))
 refine rq3 rfl rfl (mV rfl rfl (kD (30) rfl .no Fx.se24 hs (.u rfl) (.u rfl) (fun _=>by omega) (fun _=>by omega) ?_))
 intro h34 L34 eL34 lL34 hs34
 have lL34:=lL34 rfl
 refine aS rfl rfl (.nil (.code (.seq (.block ?_))))
 refine Wk.lop (α:=List Y×Sh×List Y×Sh×List (Sh×List Y)×Value×Nat) (fun gh=>[(9,true,gh.2.1.val gh.1.length)]) (fun gh=>[rS 1 encP gh.2.2.2.2.2.1 24 gh.2.2.2.2.1,.blk b8 (cl (rdC (keyEnc root (headL (takeH xs).1)) (keyMac root (headL (takeH xs).1)) (h29.val (headL (takeH xs).1).length) (takeH xs).1 gh.2.2.2.2.2.1 (gh.2.2.2.2.2.2:Int) false (gh.2.2.2.1.val gh.2.2.1.length)) 83)])
  (fun gh Gl=>(SlR Gl 1 encY gh.2.1 gh.1)∧(SlR Gl 1 encY gh.2.2.2.1 gh.2.2.1)∧(AllS Gl gh.2.2.2.2.1)∧(gh.2.2.1=[]→gh.2.2.2.1=⟨none,0⟩)∧(bodyR root (takeH xs).1 xs=readL (openAt root (takeH xs).1) xs.length gh.1 gh.2.2.1 (gh.2.2.2.2.1.map (·.2)) gh.2.2.2.2.2.2)∧(gh.2.2.2.2.1.length+gh.1.length≤xs.length)∧(gh.1.length=0)) (fun gh=>gh.1.length) (L34,h34,[],⟨none,0⟩,[],.slice none 0 0,30) [(1,true,_),(4,true,_),(8,true,_)] [_,_,_]
  (esD rfl (esD rfl (esD rfl (esD rfl eZ))))
  (mS .here rfl (mS .here rfl (mS .here rfl (mS .here rfl (mS .here rfl mN))))) ?_ ?_
 ·refine ⟨?_,?_,?_,?_,?_,?_,?_⟩
  ·(try dsimp only)<;>(exact hs34)
  ·(try dsimp only)<;>(exact SlR.nul)
  ·(try dsimp only)<;>(exact AllS.nil)
  ·(try dsimp only)<;>(exact fun _=>rfl)
  ·(try dsimp only)<;>(rw [eL34]; rfl)
  ·(try dsimp only)<;>(simp; omega)
  (try dsimp only)<;>(omega)
 intro gh N0 Gl0 hN0 hGl0 hF0
 obtain ⟨M,r,Q,sQ,ps,vr,used⟩:=gh; dsimp only at hF0 hN0 ⊢
 obtain ⟨hr,hq,hA,h0,eB,hps,hM0⟩:=hF0
 refine .seq (.seq (rq3 rfl rfl (mV rfl rfl (ln rfl .no Fx.sn24 (.u rfl) (cp rfl .no (.u rfl) (.u rfl) rfl (.nil (.code (.cond rfl (fun c3=>?_) (fun c3=>?_)))))))))
 ·have c3k:=c3
  try simp only [qcA,qcC,qcB] at c3
  exfalso; omega
 have c3k:=c3
 try simp only [qcA,qcC,qcB] at c3
 refine .exit (.xcode (.xlp (.xblk (.code (.seq ?_)))))
 refine wk_fs .here (fun _ _=>rfl) (by intro b hb; cases hb) ?_; intro GfRR hRR hleRR evRR hsRR; subst evRR
 have hA:=hA.mono hleRR
 have hsRR:=SlP.of hsRR hA
 refine rq9 rfl rfl (fz rfl .no FxMzR.fo83_2 (.u rfl) (fa rfl .no FxMzR.fo56_2 (.u rfl) (ld rfl .no Fx.ag3 (.u rfl) (fun _=>Rd.own .here rdc_used) ?_)))
 refine mV rfl rfl (ln rfl .no Fx.sn24 (.u rfl) (cp rfl .no (.u rfl) (.u rfl) rfl (fz rfl .no FxMzR.fo83_2 (.u rfl) (fa rfl .no FxMzR.fo56_3 (.u rfl) (s1 rfl (.u rfl) (.u rfl) rfl FxVerV.sz4 .here (by (try rw [rdc_len]); decide) (rds_torn) ?_)))))
 refine .nil (.code (.seq (rq4 rfl rfl (fz rfl .no FxMzR.fo83_2 (.u rfl) (lA rfl .no Fx.ag56 (.u rfl) (fun _=>RdN.part (n:=8) (cs':=[V (takeH xs).1.kind,V (takeH xs).1.level,uv .u64 (takeH xs).1.gen,uv .u64 (takeH xs).1.epoch,uv .u64 (takeH xs).1.num,(hRR.val ps.length),.int .i64 (used:Int),.bool (decide ((used:Int)<(xs.length:Int)))]) .here (rdc_log)) (fun _=>rfl) (sw rfl (.u rfl) (.u rfl) rfl Fx.sz56 tk2 (by first|exact qE|exact qL|rfl) (one8 rfl rfl rfl rfl rfl rfl rfl rfl) ?_))))))
 refine aS rfl rfl (.nil (.code (.ret (We.fin0 Tryz.results14 (.cell rfl (fun w hw=>run_loadVarN Fx.ag56 (RdN.own .here) ((by first|exact qE|exact qL|rfl)) hw) (.tmp rfl .nil)) ?_))))
 have E:=read_some (root:=root) (by omega) c2 (eB.trans (rd_short (by omega)))
 refine ⟨hRR,ps,hsRR,by rw [E],rfl,?_⟩
 rw [E]
 exact congrArg (fun z=>Value.tuple #[.agg (List.toArray z),.int .i64 0]) (cells_m8 rfl rfl rfl (by simp))
theorem mReadE_ok (root:Nat→Y) (xs:List Y) (hx:Sh) (G:PM) (hs:SlR G 1 encY hx xs) (hK:RdNP G 1 0 (wa 64 kW)) (hm:xs.length≤30):Ct Tryz.prog 6 ([.agg (ba 32 root).toArray,hx.val xs.length]:List Value).toArray G [] (fun G' μ' u=>(readM root xs=none∧μ'=[]∧u=.tuple #[.agg (maniC Hd.zero State.zero hd0 0#64 0 0 false).toArray,.int .i64 190])∨∃ v X hX,readM root xs=some v∧MnR X v.m∧μ'=[]∧u=.tuple #[.agg (maniC v.hd X hX v.m.mark (v.m.n:Int) (v.used:Int) v.torn).toArray,.int .i64 0]∧StR G' X hX):=by
 refine Ct.of Tryz.func6 rfl Tryz.ntmps6 rfl fun w0 hs0=>?_
 refine .seq (rq3 rfl rfl ?_)
 refine bx rfl (.u rfl) rfl ?_; intro b2
 refine al rfl FxMzR.zr35 ?_; intro b4
 refine aS rfl rfl (.nil (.code (.seq (rq9 rfl rfl (lA rfl .no Fx.ag23 (.u rfl) (fun _=>RdN.own tk1) (fun _=>(by first|exact mani_len|rfl)) ?_)))))
 refine mV rfl rfl (kc rfl FxMzR.go14 (Evc rfl (Evc rfl Evn)) (wReadE_ok root xs hx _ hs hK hm) ?_)
 rintro _ G14 μ14 hG14 ⟨s14,ps14,hp14,ep14,rfl,rfl⟩
 have hfe:ps14.length=0:=by have q:=congrArg List.length ep14; rw [readP_e hm,List.length_map] at q; exact q
 refine mV rfl rfl (ex rfl .no (.u rfl) rfl (ex rfl .no (.u rfl) rfl ?_))
 refine al rfl Fx.zq56 ?_; intro b6
 refine sw rfl (.u rfl) (.u rfl) rfl Fx.sz56 .here (by first|exact mani_len|rfl) (one8 rfl rfl rfl rfl rfl rfl rfl rfl) ?_
 refine aS rfl rfl (.nil (.code (.seq (.seq (Wk.rg [0,1,2,3,4,5,6,7,8,9,10,11,12] rfl rfl (mV rfl rfl (cp rfl .no (.u rfl) (.u rfl) rfl (mV rfl rfl (mv rfl (.f rfl rfl) (.u rfl) (ln rfl (.f rfl rfl) Fx.sn24 (.s rfl) (cp rfl (.f rfl rfl) (.s rfl) (.u rfl) rfl (mv rfl (.f rfl rfl) (.s rfl) (fz rfl (.tc rfl rfl) FxMzR.fo56_0 (.u rfl) (fz rfl (.tc rfl rfl) Fx.fo28_0 (.s rfl) (ld rfl (.tc rfl rfl) Fx.ag5 (.s rfl) (fun hc=>Rd.own .here rfl) ?_)))))))))))))))
 refine cp rfl (.tc rfl rfl) (.s rfl) (.u rfl) rfl (pkA rfl (.f rfl rfl) (.s rfl) (.s rfl) (pkO rfl .no (.u rfl) (.s rfl) (.nil (.code (.cond rfl (fun c1=>?_) (fun c1=>?_))))))
 ·have c1k:=c1
  try simp only [qcA,qcC,qcB] at c1
  refine .seq (rq3 rfl rfl (bCe (maniC Hd.zero State.zero hd0 0#64 0 0 false) rfl .no FxMzR.bp35_ .nil rfl (rfl) ?_))
  refine sw rfl (.u rfl) (.u rfl) rfl FxMzR.sz35 tk1 (by first|exact mani_len|rfl) (mani_one) ?_
  refine aS rfl rfl (.nil (.code (.ret (We.fin0 Tryz.results6 (.cell rfl (fun w hw=>run_loadVarN FxMzR.ag35 (RdN.own .here) (mani_len) hw) (.tmp rfl .nil)) ?_))))
  exact .inl ⟨readM_bad (c1.imp id (fun q=>⟨by omega,fun e=>q.2 (by rw [e]; rfl)⟩)),rfl,rfl⟩
 have c1k:=c1
 try simp only [qcA,qcC,qcB] at c1
 refine .skip (.code (.seq (rq9 rfl rfl (fz rfl .no FxMzR.fo56_0 (.u rfl) (lA rfl .no Fx.ag28 (.u rfl) (fun _=>RdN.part (n:=5) (cs':=[V (readP root xs).1.hd.kind,V (readP root xs).1.hd.level,uv .u64 (readP root xs).1.hd.gen,uv .u64 (readP root xs).1.hd.epoch,uv .u64 (readP root xs).1.hd.num]) .here (rfl)) (fun _=>rfl) ?_)))))
 refine fz rfl .no FxMzR.fo56_2 (.u rfl) (ld rfl .no Fx.ag3 (.u rfl) (fun _=>Rd.own .here (by first|exact wap_f rfl|rfl)) ?_)
 refine fz rfl .no FxMzR.fo56_3 (.u rfl) (ld rfl .no Fx.ag4 (.u rfl) (fun _=>Rd.own .here (by first|exact wap_f rfl|rfl)) ?_)
 refine bCe (maniC (readP root xs).1.hd State.zero hd0 0#64 0 ((readP root xs).1.used:Int) (readP root xs).1.torn) rfl .no FxMzR.bp35_0_4_5 (.cons (.u rfl) rfl (.cons (.u rfl) rfl (.cons (.u rfl) rfl .nil))) rfl (rfl) ?_
 refine al rfl FxMzR.zr35 ?_; intro b8
 refine sw rfl (.u rfl) (.u rfl) rfl FxMzR.sz35 .here (by first|exact mani_len|rfl) (mani_one) ?_
 refine .nil (.code (.seq (.seq (rq4 rfl rfl (fz rfl .no FxMzR.fo56_1 (.u rfl) (ld rfl .no FxMzR.ag54 (.u rfl) (fun _=>Rd.own tk1 rfl) ?_))))))
 refine ln rfl .no Fx.sn54 (.u rfl) (mV rfl rfl (.nil (.code (.block ?_))))
 refine Wk.lop (α:=Nat) (fun k=>[(41,true,.int .i64 (k:Int))]) (fun k=>[.blk b8 (cl (maniC (readP root xs).1.hd State.zero hd0 0#64 0 ((readP root xs).1.used:Int) (readP root xs).1.torn) 35)])
  (fun k Gl=>(k≤ps14.length)) (fun k=>ps14.length-k) 0 [(4,true,_),(8,true,_),(39,true,_),(40,true,_)] [_,_,_]
  (esC rfl (by first|rfl|exact evi (by omega)) (esD rfl (esD rfl (esD rfl (esD rfl eZ)))))
  (mS .here rfl (mS .here rfl (mS .here rfl (mS .here rfl mN)))) ?_ ?_
 ·(try dsimp only)<;>(first|omega|rfl|assumption|(simp; done))
 intro k N0 Gl0 hN0 hGl0 hF0
 try dsimp only at hF0 hN0 ⊢
 have hk:=hF0
 refine .seq (rq1 rfl rfl (cp rfl .no (.u rfl) (.u rfl) rfl (.nil (.code (.seq (.cond rfl (fun c2=>?_) (fun c2=>?_)))))))
 ·have c2k:=c2
  try simp only [qcA,qcC,qcB] at c2
  exfalso; omega
 have c2k:=c2
 try simp only [qcA,qcC,qcB] at c2
 refine .exit (.xcode (.xlp (.xblk (.code (.seq (rq3 rfl rfl (lA rfl .no FxMzR.ag35 (.u rfl) (fun _=>RdN.own .here) (fun _=>(by first|exact mani_len|rfl)) ?_)))))))
 refine sw rfl (.u rfl) (.u rfl) rfl FxMzR.sz35 tk2 (by first|exact mani_len|rfl) (mani_one) ?_
 refine aS rfl rfl (.nil (.code (.ret (We.fin0 Tryz.results6 (.cell rfl (fun w hw=>run_loadVarN FxMzR.ag35 (RdN.own .here) (mani_len) hw) (.tmp rfl .nil)) ?_))))
 exact .inr ⟨_,State.zero,hd0,readM_yes (m:=Mn.zero) (fun q=>by rcases q with q | q; (exact q c1.1); (rcases c1.2 with c | c; (omega); (exact q.2 (BitVec.eq_of_toNat_eq (by have:((readP root xs).1.hd.kind.toNat:Int)=3:=c; show _=3; omega))))) (by rw [readP_e hm]; rfl),MnR.zero,rfl,rfl,st_zero⟩
theorem mReadE_v (root:Nat→Y) (xs:List Y) (hx:Sh) (G:PM) (hs:SlR G 1 encY hx xs) (hK:RdNP G 1 0 (wa 64 kW)) (hm:xs.length≤30) {v:ManV} (hv:readM root xs=some v):Ct Tryz.prog 6 ([.agg (ba 32 root).toArray,hx.val xs.length]:List Value).toArray G [] (fun G' μ' u=>∃ X hX,MnR X v.m∧μ'=[]∧u=.tuple #[.agg (maniC v.hd X hX v.m.mark (v.m.n:Int) (v.used:Int) v.torn).toArray,.int .i64 0]∧StR G' X hX) :=
 (mReadE_ok root xs hx G hs hK hm).mono fun G' μ' u hh=>by
  rcases hh with ⟨h1,_⟩ | ⟨w,X,hX,h1,h2⟩
  ·rw [hv] at h1; cases h1
  ·rw [hv] at h1; cases h1; exact ⟨X,hX,h2⟩
theorem mReadE_n (root:Nat→Y) (xs:List Y) (hx:Sh) (G:PM) (hs:SlR G 1 encY hx xs) (hK:RdNP G 1 0 (wa 64 kW)) (hm:xs.length≤30) (hv:readM root xs=none):Ct Tryz.prog 6 ([.agg (ba 32 root).toArray,hx.val xs.length]:List Value).toArray G [] (fun _ μ' u=>μ'=[]∧u=.tuple #[.agg (maniC Hd.zero State.zero hd0 0#64 0 0 false).toArray,.int .i64 190]) :=
 (mReadE_ok root xs hx G hs hK hm).mono fun G' μ' u hh=>by
  rcases hh with ⟨_,h2⟩ | ⟨w,X,hX,h1,h2⟩
  ·exact h2
  ·rw [hv] at h1; cases h1
theorem shownE_ok (G:PM) (hK:RdNP G 1 0 (wa 64 kW)):Ct Tryz.prog 5 ([]:List Value).toArray G [] (fun _ μ' u=>μ'=[]∧u=.bool true):=by
 refine Ct.of Tryz.func5 rfl Tryz.ntmps5 rfl fun w0 hs0=>?_
 refine .seq (rq1 rfl rfl (aS rfl rfl (.nil (.code (.seq (rq8 rfl rfl (bCe (ba 32 zF) rfl .no FxMzR.bp23_ .nil rfl (rfl) ?_)))))))
 refine kc rfl FxMzR.go6 (Evc rfl (Evc rfl Evn)) (mReadE_v zF [] ⟨none,0⟩ _ SlR.nul hK (by simp) readM_nil) ?_
 rintro _ G9 μ9 hG9 ⟨X9,hX9,hM9,rfl,rfl,hR9⟩
 have hK:=hK.mono hG9
 refine mV rfl rfl (ex rfl .no (.u rfl) rfl (ex rfl .no (.u rfl) rfl ?_))
 refine al rfl FxMzR.zr35 ?_; intro b1
 refine sw rfl (.u rfl) (.u rfl) rfl FxMzR.sz35 .here (by first|exact mani_len|rfl) (mani_one) ?_
 refine aS rfl rfl (.nil (.code (.seq (rq10 rfl rfl (bCe (ba 32 zF) rfl .no FxMzR.bp23_ .nil rfl (rfl) ?_)))))
 refine bCe ([V 1#8,V 0#8,uv .u64 0#64,uv .u64 0#64,uv .u64 0#64]) rfl .no FxMzR.bp28_0 (.cons (.u rfl) rfl .nil) rfl (rfl) ?_
 refine kc rfl Fx.go13 (Evc rfl Evn) (Ct.frzB (nLay_ok ⟨1#8,0#8,0#64,0#64,0#64⟩ _)) ?_
 rintro _ G15 μ15 hG15 ⟨h15,L15,eL15,rfl,rfl,hs15⟩
 have hK:=hK.mono hG15
 refine kc rfl FxMzR.go6 (Evc rfl (Evc rfl Evn)) (mReadE_n zF L15 h15 _ hs15 hK (by rw [eL15,head_len]; decide) (by rw [eL15]; exact readM_other (by decide))) ?_
 rintro _ G16 μ16 hG16 ⟨rfl,rfl⟩
 have hK:=hK.mono hG16
 refine mV rfl rfl (ex rfl .no (.u rfl) rfl (ex rfl .no (.u rfl) rfl ?_))
 refine al rfl FxMzR.zr35 ?_; intro b3
 refine sw rfl (.u rfl) (.u rfl) rfl FxMzR.sz35 .here (by first|exact mani_len|rfl) (mani_one) ?_
 refine aS rfl rfl (.nil (.code (.seq (rq10 rfl rfl (bCe (ba 32 zF) rfl .no FxMzR.bp23_ .nil rfl (rfl) ?_)))))
 refine bCe ([V 3#8,V 0#8,uv .u64 0#64,uv .u64 0#64,uv .u64 0#64]) rfl .no FxMzR.bp28_0 (.cons (.u rfl) rfl .nil) rfl (rfl) ?_
 refine kc rfl Fx.go13 (Evc rfl Evn) (Ct.frzB (nLay_ok ⟨3#8,0#8,0#64,0#64,0#64⟩ _)) ?_
 rintro _ G22 μ22 hG22 ⟨h22,L22,eL22,rfl,rfl,hs22⟩
 have hK:=hK.mono hG22
 refine kc rfl FxMzR.go6 (Evc rfl (Evc rfl Evn)) (mReadE_v zF L22 h22 _ hs22 hK (by rw [eL22,head_len]; decide) (by rw [eL22]; exact readM_head rfl rfl)) ?_
 rintro _ G23 μ23 hG23 ⟨X23,hX23,hM23,rfl,rfl,hR23⟩
 refine mV rfl rfl (ex rfl .no (.u rfl) rfl (ex rfl .no (.u rfl) rfl ?_))
 refine al rfl FxMzR.zr35 ?_; intro b5
 refine sw rfl (.u rfl) (.u rfl) rfl FxMzR.sz35 .here (by first|exact mani_len|rfl) (mani_one) ?_
 refine aS rfl rfl (.nil (.code (.seq (Wk.rg [0,1,2,3,4,5,6,7,8,9,10,11,12,13,14,15,16,17,18,19,20,21,22,23,24,25,26,27,28,29] rfl rfl (mV rfl rfl (cp rfl .no (.u rfl) (.u rfl) rfl (mV rfl rfl (fz rfl (.t rfl rfl) FxMzR.fo35_5 (.u rfl) (ld rfl (.t rfl rfl) Fx.ag4 (.s rfl) (fun hc=>Rd.own tk2 (by first|exact wap_f rfl|rfl)) ?_)))))))))
 refine pkA rfl .no (.u rfl) (.s rfl) (mV rfl rfl (fz rfl (.t rfl rfl) FxMzR.fo35_4 (.u rfl) (ld rfl (.t rfl rfl) Fx.ag3 (.s rfl) (fun hc=>Rd.own tk2 (by first|exact wap_f rfl|rfl)) ?_)))
 refine cp rfl (.t rfl rfl) (.s rfl) (.u rfl) rfl (pkA rfl .no (.u rfl) (.s rfl) (mV rfl rfl (mv rfl (.t rfl rfl) (.u rfl) (cp rfl (.t rfl rfl) (.s rfl) (.u rfl) rfl (pkA rfl .no (.u rfl) (.s rfl) (mV rfl rfl (mv rfl (.t rfl rfl) (.u rfl) (cp rfl (.t rfl rfl) (.s rfl) (.u rfl) rfl (pkA rfl .no (.u rfl) (.s rfl) (mV rfl rfl (fz rfl (.t rfl rfl) FxMzR.fo35_3 (.u rfl) (ld rfl (.t rfl rfl) Fx.ag3 (.s rfl) (fun hc=>Rd.own .here (by first|exact wap_f rfl|rfl)) ?_))))))))))))
 refine cp rfl (.t rfl rfl) (.s rfl) (.u rfl) rfl (pkA rfl .no (.u rfl) (.s rfl) (mV rfl rfl (fz rfl (.t rfl rfl) FxMzR.fo35_5 (.u rfl) (ld rfl (.t rfl rfl) Fx.ag4 (.s rfl) (fun hc=>Rd.own .here (by first|exact wap_f rfl|rfl)) ?_))))
 refine nt rfl (.t rfl rfl) (.s rfl) (pkA rfl .no (.u rfl) (.s rfl) (aS rfl rfl (.nil (.code (.ret (We.fin0 Tryz.results5 (.tmp rfl .nil) ?_))))))
 exact ⟨rfl,rfl⟩
end Go.Proofs.YtdeobooblmjlfaaGreatDoor
