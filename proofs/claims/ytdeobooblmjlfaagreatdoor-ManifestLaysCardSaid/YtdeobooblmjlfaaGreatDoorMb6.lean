/- Lemmas and contracts of functions, joined. -/
import Derived.Test.YtdeobooblmjlfaaGreatDoorMb5
set_option linter.unusedSimpArgs false
set_option linter.unusedVariables false
set_option linter.unusedSectionVars false
namespace Go.Proofs.YtdeobooblmjlfaaGreatDoor
open Go.Tan Go.RowKit
namespace Fx
theorem go48:goFn Tryz.prog 48=true:=by kernel_rfl
theorem bp33_1_2_3_4_5:bPl Tryz.prog 33 [1,2,3,4,5]=some ((State.zero.cells hd0),[(5,1),(6,1),(7,1),(8,1),(9,5)]):=by kernel_rfl
theorem go49:goFn Tryz.prog 49=true:=by kernel_rfl
theorem go50:goFn Tryz.prog 50=true:=by kernel_rfl
theorem go27:goFn Tryz.prog 27=true:=by kernel_rfl
theorem eqt31:eqT Tryz.prog 4 31 (gensKs)=true:=by kernel_rfl
end Fx
theorem without_ok (h:Sh) (l:List Meta) (g:Gone) (G:PM) (hs:SlR G 40 Meta.cells h l) (hl:l.length≤1000000):Ct Tryz.prog 49 ([h.val l.length,.int .u64 g.number]:List Value).toArray G [] (fun G' μ' u=>∃ (h':Sh) (L:List Meta) (ok:Bool),WithoutR g l L ok∧μ'=[]∧u=.tuple #[h'.val L.length,.bool ok]∧SlR G' 40 Meta.cells h' L):=by
 refine Ct.of Tryz.func49 rfl Tryz.ntmps49 rfl fun w0 hs0=>?_
 refine .seq (rq2 rfl rfl (aS rfl rfl (aS rfl rfl (.nil (.code (.seq (.seq (rq1 rfl rfl (aS rfl rfl (.nil (.code (.block ?_))))))))))))
 refine Wk.lop (α:=Nat) (fun k=>[(6,true,.int .i64 (k:Int))]) (fun _=>[])
  (fun k Gl=>(k≤l.length)∧(∀ j,j<k→isN g (l.getD j Meta.zero)=false)) (fun k=>l.length-k) 0 [(0,true,_),(1,true,_)] []
  (esC rfl (by first|rfl|exact evi (by omega)) (esD rfl (esD rfl eZ)))
  mN ?_ ?_
 ·refine ⟨?_,?_⟩
  ·(try dsimp only)<;>(first|omega|rfl|assumption|(simp; done))
  (try dsimp only)<;>(exact fun j hj=>by omega)
 intro k N0 Gl0 hN0 hGl0 hF0
 try dsimp only at hF0 hN0 ⊢
 obtain ⟨hk,hno⟩:=hF0
 have hs:=hs.mono hGl0
 refine .seq (.seq (rq4 rfl rfl (mV rfl rfl (mV rfl rfl (ln rfl .no Fx.sn29 (.u rfl) (cp rfl .no (.u rfl) (.u rfl) rfl (.nil (.code (.cond rfl (fun c1=>?_) (fun c1=>?_))))))))))
 ·have c1k:=c1
  try simp only [qcA,qcB] at c1
  refine .skip (.code (.seq (.block (.seq (rq7 rfl rfl (mV rfl rfl (mV rfl rfl (ih rfl .no Fx.se29 (.u rfl) (.u rfl) (fun _=>by omega) (fun _=>by omega) (fun _=>hs.nn (k:=k) (by first|omega|(simp only [Bool.and_eq_true,decide_eq_true_eq] at hc; omega)|(simp only [List.length_cons,List.length_nil]; omega))) ?_))))))))
  refine fa rfl .no Fx.fo98_3 (.u rfl) (ld rfl .no FxVerP.ag26 (.u rfl) (fun _=>(hs.gat k (by omega) (by omega) 3 _ rfl).rd) ?_)
  refine mV rfl rfl (cp rfl .no (.u rfl) (.u rfl) rfl (.nil (.code (.cond rfl (fun c2=>?_) (fun c2=>?_)))))
  ·have c2k:=c2
   try simp only [qcA,qcB] at c2
   refine .seq (rq6 rfl rfl ?_)
   refine b0 rfl rfl Fx.se29 ?_; intro v21
   refine mV rfl rfl (mV rfl rfl (kE (k) rfl .no Fx.se29 hs (.u rfl) (.u rfl) (fun _=>by omega) (fun _=>by omega) ?_))
   intro h24 L24 eL24 lL24 hs24
   have lL24:=lL24 rfl
   refine apL (xs:=([]:List Meta)) rfl Fx.se29 Fx.zw98 rfl (.u rfl) (.u rfl) .here hs24 (fun _ _=>Meta.len _) (metas_one _) (by (try simp only [qlA,List.length_take,List.length_drop]); omega) (by unfold maxLen; (try simp only [qlA,List.length_take,List.length_drop]); omega) ?_; intro v25 ov25
   refine aS rfl rfl (.nil (.code (.seq (rq7 rfl rfl (mV rfl rfl (mV rfl rfl (mV rfl rfl (arn (((k+1):Nat):Int) rfl .no (.u rfl) (.u rfl) rfl (fun _=>by omega) (fun _=>wrap_i64 (by omega) (by omega)) ?_))))))))
   refine kD ((k+1)) rfl .no Fx.se29 hs (.u rfl) (.u rfl) (fun _=>by omega) (fun _=>by omega) ?_
   intro h30 L30 eL30 lL30 hs30
   have lL30:=lL30 rfl
   refine apL (xs:=(([]:List Meta)++L24)) rfl Fx.se29 Fx.zw98 rfl (.u rfl) (.u rfl) .here hs30 (fun _ _=>Meta.len _) (metas_one _) (by (try simp only [qlA,List.length_take,List.length_drop]); omega) (by unfold maxLen; (try simp only [qlA,List.length_take,List.length_drop]); omega) ?_; intro v31 ov31
   refine aS rfl rfl (.nil (.code (.seq (rq3 rfl rfl (mV rfl rfl (aS rfl rfl (aS rfl rfl (.nil (.code (.ret ?_))))))))))
   refine we_fs .here (fun _ _=>rfl) (by intro b hb; cases hb) ?_; intro GfR hR hleR evR hsR; subst evR
   refine We.fin0 Tryz.results49 (.tmp rfl (.tmp rfl .nil)) ?_
   obtain hh:=idx_hit (p:=isN g) (l:=l) (by omega) hno c2k
   exact ⟨_,_,true,.inr ⟨rfl,k,(Value.int.inj hh).2.symm,by omega,by rw [eL24,eL30]; rfl⟩,rfl,rfl,hsR⟩
  have c2k:=c2
  try simp only [qcA,qcB] at c2
  refine .skip (.blk (.code (rq3 rfl rfl (mV rfl rfl (arn (((k+1):Nat):Int) rfl .no (.u rfl) (.u rfl) rfl (fun _=>by omega) (fun _=>wrap_i64 (by omega) (by omega)) ?_)))))
  refine aS rfl rfl (.nil (We.lpo (k+1) ?_ ?_ ?_ ?_ ?_))
  ·exact (esC rfl (by first|rfl|exact evi (by omega)) (esD rfl (esD rfl eZ)))
  ·exact mN
  ·first|omega|(dsimp only; omega)
  ·exact hGl0
  refine ⟨?_,?_⟩
  ·(try dsimp only)<;>(first|omega|rfl|assumption|(simp; done))
  (try dsimp only)<;>(exact idx_step hno c2k)
 have c1k:=c1
 try simp only [qcA,qcB] at c1
 refine .exit (.xcode (.xlp (.xblk (.code (.seq (rq2 rfl rfl (aS rfl rfl (aS rfl rfl (.nil (.code (.ret (We.fin0 Tryz.results49 (.tmp rfl (.tmp rfl .nil)) ?_))))))))))))
 obtain hh:=idx_none (p:=isN g) (l:=l) (by omega) hno
 exact ⟨⟨none,0⟩,[],false,.inl ⟨rfl,rfl,by rw [← (Value.int.inj hh).2]; decide⟩,rfl,rfl,SlR.nul⟩
theorem placed_ok (level:Int) (h:Sh) (l:List Meta) (m:Meta) (G:PM) (hs:SlR G 40 Meta.cells h l) (hl:l.length≤1000000) (h0:0≤level):Ct Tryz.prog 50 ([.int .i64 level,h.val l.length,m.val]:List Value).toArray G [] (fun G' μ' u=>∃ (h':Sh) (L:List Meta),L=insS (lvLt level) l m∧μ'=[]∧u=h'.val L.length∧SlR G' 40 Meta.cells h' L):=by
 refine Ct.of Tryz.func50 rfl Tryz.ntmps50 rfl fun w0 hs0=>?_
 refine .seq (rq2 rfl rfl ?_)
 refine bx rfl (.u rfl) rfl ?_; intro b5
 refine aS rfl rfl (.nil (.code (.seq (rq1 rfl rfl (aS rfl rfl (.nil (.code (.seq (.block ?_)))))))))
 refine Wk.lop (α:=Nat) (fun k=>[(7,true,.int .i64 (k:Int))]) (fun _=>[])
  (fun k Gl=>(k≤l.length)∧(∀ j,j<k→lvLt level m (l.getD j Meta.zero)=false)) (fun k=>l.length-k) 0 [(0,true,_),(1,true,_),(5,true,_)] [_]
  (esC rfl (by first|rfl|exact evi (by omega)) (esD rfl (esD rfl (esD rfl eZ))))
  (mS .here rfl mN) ?_ ?_
 ·refine ⟨?_,?_⟩
  ·(try dsimp only)<;>(first|omega|rfl|assumption|(simp; done))
  (try dsimp only)<;>(exact fun j hj=>by omega)
 intro k N0 Gl0 hN0 hGl0 hF0
 try dsimp only at hF0 hN0 ⊢
 obtain ⟨hk,hno⟩:=hF0
 have hs:=hs.mono hGl0
 refine .seq (.seq (Wk.draw (mc:=⟨false,false⟩) [0,1,2,3,4,5,6,7,8,9,10,11,12,13,14,15,16,17,18,19,20,21,22,23,24,25,26,27,28,29,30,31] FxVeSa.mix (by kernel_rfl) ?_))
 refine mV rfl rfl (mV rfl rfl (ln rfl .no Fx.sn29 (.u rfl) (cp rfl .no (.u rfl) (.u rfl) rfl (mV rfl rfl (mv rfl (.t rfl rfl) (.u rfl) (cp rfl (.t rfl rfl) (.s rfl) (.u rfl) rfl (mv rfl (.t rfl rfl) (.s rfl) (mv rfl (.tc rfl rfl) (.u rfl) (mv rfl (.tc rfl rfl) (.u rfl) (ih rfl (.tc rfl rfl) Fx.se29 (.s rfl) (.s rfl) (fun hc=>by (try simp only [Bool.and_eq_true,decide_eq_true_eq] at hc); omega) (fun hc=>by (try simp only [Bool.and_eq_true,decide_eq_true_eq] at hc); omega) (fun hc=>hs.nn (k:=k) (by first|omega|(simp only [Bool.and_eq_true,decide_eq_true_eq] at hc; omega)|(simp only [List.length_cons,List.length_nil]; omega))) ?_))))))))))
 refine fa rfl (.tc rfl rfl) Fx.fo98_3 (.s rfl) (ld rfl (.tc rfl rfl) FxVerP.ag26 (.s rfl) (fun hc=>(hs.gat k (by (try simp only [Bool.and_eq_true,decide_eq_true_eq] at hc); omega) (by (try simp only [Bool.and_eq_true,decide_eq_true_eq] at hc); omega) 3 _ rfl).rd) ?_)
 refine fz rfl (.tc rfl rfl) Fx.fo98_3 (.u rfl) (ld rfl (.tc rfl rfl) FxVerP.ag26 (.s rfl) (fun hc=>Rd.own .here (by first|exact wap_f rfl|rfl)) ?_)
 refine cp rfl (.tc rfl rfl) (.s rfl) (.s rfl) rfl (pkA rfl (.t rfl rfl) (.s rfl) (.s rfl) (mv rfl (.t rfl rfl) (.s rfl) (mv rfl (.fc rfl rfl) (.u rfl) (cp rfl (.fc rfl rfl) (.s rfl) (.u rfl) rfl (mv rfl (.fc rfl rfl) (.s rfl) (mv rfl (.tc rfl rfl) (.u rfl) (mv rfl (.tc rfl rfl) (.u rfl) (ih rfl (.tc rfl rfl) Fx.se29 (.s rfl) (.s rfl) (fun hc=>by (try simp only [Bool.and_eq_true,decide_eq_true_eq] at hc); omega) (fun hc=>by (try simp only [Bool.and_eq_true,decide_eq_true_eq] at hc); omega) (fun hc=>hs.nn (k:=k) (by first|omega|(simp only [Bool.and_eq_true,decide_eq_true_eq] at hc; omega)|(simp only [List.length_cons,List.length_nil]; omega))) ?_))))))))
 refine fa rfl (.tc rfl rfl) Fx.fo98_6 (.s rfl) (ld rfl (.tc rfl rfl) Fx.ag9 (.s rfl) (fun hc=>(hs.gat k (by (try simp only [Bool.and_eq_true,decide_eq_true_eq] at hc); omega) (by (try simp only [Bool.and_eq_true,decide_eq_true_eq] at hc); omega) 6 _ rfl).rd) ?_)
 refine fz rfl (.tc rfl rfl) Fx.fo98_6 (.u rfl) (ld rfl (.tc rfl rfl) Fx.ag9 (.s rfl) (fun hc=>Rd.own .here (by first|exact wap_f rfl|rfl)) ?_)
 refine cs rfl (.tc rfl rfl) (.s rfl) (.s rfl) rfl (pkA rfl (.fc rfl rfl) (.s rfl) (.s rfl) (pkO rfl (.t rfl rfl) (.s rfl) (.s rfl) (pkA rfl .no (.u rfl) (.s rfl) (.nil (.code (.cond rfl (fun c1=>?_) (fun c1=>?_)))))))
 ·have c1k:=c1
  try simp only [qcA,qcC,qcB] at c1
  refine .skip (.code (.block (rq3 rfl rfl (mV rfl rfl (arn (((k+1):Nat):Int) rfl .no (.u rfl) (.u rfl) rfl (fun _=>by omega) (fun _=>wrap_i64 (by omega) (by omega)) ?_)))))
  refine aS rfl rfl (.nil (.blk (We.lpo (k+1) ?_ ?_ ?_ ?_ ?_)))
  ·exact (esC rfl (by first|rfl|exact evi (by omega)) (esD rfl (esD rfl (esD rfl eZ))))
  ·exact (mS .here rfl mN)
  ·first|omega|(dsimp only; omega)
  ·exact hGl0
  refine ⟨?_,?_⟩
  ·(try dsimp only)<;>(first|omega|rfl|assumption|(simp; done))
  (try dsimp only)<;>(exact fun j hj=>by (by_cases e:j=k; (subst e; have h9:=c1k; rw [placed_c h0] at h9; simpa using (Bool.and_eq_true_iff.1 h9).2); exact hno j (by omega)))
 have c1k:=c1
 try simp only [qcA,qcC,qcB] at c1
 refine .exit (.xcode (.xlp (.xblk (.code (.seq (rq6 rfl rfl ?_))))))
 refine b0 rfl rfl Fx.se29 ?_; intro v43
 refine mV rfl rfl (mV rfl rfl (kE (k) rfl .no Fx.se29 hs (.u rfl) (.u rfl) (fun _=>by omega) (fun _=>by omega) ?_))
 intro h46 L46 eL46 lL46 hs46
 have lL46:=lL46 rfl
 refine apL (xs:=([]:List Meta)) rfl Fx.se29 Fx.zw98 rfl (.u rfl) (.u rfl) .here hs46 (fun _ _=>Meta.len _) (metas_one _) (by (try simp only [qlA,List.length_take,List.length_drop]); omega) (by unfold maxLen; (try simp only [qlA,List.length_take,List.length_drop]); omega) ?_; intro v47 ov47
 refine aS rfl rfl (.nil (.code (.seq (rq5 rfl rfl (mV rfl rfl (lA rfl .no Fx.ag98 (.u rfl) (fun _=>RdN.own tk1) (fun _=>Meta.len _) ?_))))))
 refine Go.Tan.b1 rfl Fx.se29 Fx.zw98 (.u rfl) rfl rfl (by decide) ?_; intro b50
 refine apS (xs:=(([]:List Meta)++L46)) (m) rfl Fx.se29 Fx.zw98 rfl (.u rfl) (.u rfl) tk1 .here (Meta.len _) (Meta.one _) (by (try simp only [qlA,List.length_take,List.length_drop]); omega) (by unfold maxLen; (try simp only [qlA,List.length_take,List.length_drop]); omega) ?_; intro v51 ov51
 refine aS rfl rfl (.nil (.code (.seq (rq6 rfl rfl (mV rfl rfl (mV rfl rfl (mV rfl rfl (kD (k) rfl .no Fx.se29 hs (.u rfl) (.u rfl) (fun _=>by omega) (fun _=>by omega) ?_))))))))
 intro h55 L55 eL55 lL55 hs55
 have lL55:=lL55 rfl
 refine apL (xs:=((([]:List Meta)++L46)++[m])) rfl Fx.se29 Fx.zw98 rfl (.u rfl) (.u rfl) .here hs55 (fun _ _=>Meta.len _) (metas_one _) (by (try simp only [qlA,List.length_take,List.length_drop]); omega) (by unfold maxLen; (try simp only [qlA,List.length_take,List.length_drop]); omega) ?_; intro v56 ov56
 refine aS rfl rfl (.nil (.code (.seq (rq2 rfl rfl (mV rfl rfl (aS rfl rfl (.nil (.code (.ret ?_)))))))))
 refine we_fs .here (fun _ _=>rfl) (by intro b hb; cases hb) ?_; intro GfR hR hleR evR hsR; subst evR
 refine We.fin0 Tryz.results50 (.tmp rfl .nil) ?_
 have hat:=ins_at hk hno (by (by_cases e:k<l.length; (right; have h9:=c1k; rw [placed_c h0,decide_eq_true (show (k:Int)<l.length by omega)] at h9; simpa using h9); left; omega))
 exact ⟨_,_,by rw [hat,eL46,eL55]; simp,rfl,rfl,hsR⟩
set_option maxHeartbeats 4000000 in
theorem rapply_ok (s:State) (hd:Nat→Sh) (e:Edit) (ha he:Sh) (G:PM) (hs:StR G s hd) (hE:EdR G e ha he):Ct Tryz.prog 19 ([s.val hd,e.val ha he]:List Value).toArray G [] (fun G' μ' u=>∃ X hdX err,AppR s e X err∧μ'=[]∧u=.tuple #[State.val X hdX,.int .i64 err]∧StR G' X hdX):=by
 refine Ct.of Tryz.func19 rfl Tryz.ntmps19 rfl fun w0 hs0=>?_
 have hea:=hE.add; have hed:=hE.drop
 refine .seq (rq4 rfl rfl ?_)
 refine bx rfl (.u rfl) rfl ?_; intro b2
 refine bx rfl (.u rfl) rfl ?_; intro b3
 refine al rfl Fx.zq33 ?_; intro b4
 refine aS rfl rfl (.nil (.code (.seq (.seq (rq3 rfl rfl (lA rfl .no Fx.ag33 (.u rfl) (fun _=>RdN.own tk2) (fun _=>(by first|exact qE|exact qL|rfl)) ?_))))))
 refine kv rfl .no Fx.go48 (Evc rfl Evn) (fun _=>rRight_ok s hd _ hs) ?_
 refine nt rfl .no (.u rfl) (.nil (.code (.cond rfl (fun c1=>?_) (fun c1=>?_))))
 ·have c1k:=c1
  try simp only [qcA,qcC,qcB] at c1
  refine .seq (rq3 rfl rfl (bC rfl .no Fx.bp33_ .nil rfl ?_))
  refine sw rfl (.u rfl) (.u rfl) rfl Fx.sz33 .here (by first|exact qE|exact qL|rfl) (State.one') ?_
  refine aS rfl rfl (.nil (.code (.ret (We.fin0 Tryz.results19 (.cell rfl (fun w hw=>run_loadVarN Fx.ag33 (RdN.own .here) ((by first|exact qE|exact qL|rfl)) hw) (.tmp rfl .nil)) ?_))))
  exact ⟨State.zero,hd0,1,.inl ⟨by simpa using c1k,rfl,rfl⟩,rfl,rfl,st_zero⟩
 have c1k:=c1
 try simp only [qcA,qcC,qcB] at c1
 refine .skip (.code (.seq ?_))
 have hri:rightS s=true:=by simpa using c1k
 have hri':=rightP_of hri
 have hfw:=hri'.few
 refine Wk.rg [0,1,2,3,4,5,6,7,8,9,10,11,12,13,14,15,16,17,18,19,20,21,22,23,24,25,26,27,28,29,30,31,32,33,34,35,36,37,38] rfl rfl (fz rfl .no Fx.fo45_0 (.u rfl) (ld rfl .no FxVerP.ag26 (.u rfl) (fun _=>Rd.own tk1 (by first|exact wap_f rfl|rfl)) ?_))
 refine fz rfl .no Fx.fo33_1 (.u rfl) (ld rfl .no FxVerP.ag26 (.u rfl) (fun _=>Rd.own tk2 (by first|exact wap_f rfl|rfl)) ?_)
 refine cp rfl .no (.u rfl) (.u rfl) rfl (mV rfl rfl (fz rfl (.t rfl rfl) Fx.fo45_1 (.u rfl) (ld rfl (.t rfl rfl) FxVerP.ag26 (.s rfl) (fun hc=>Rd.own tk1 (by first|exact wap_f rfl|rfl)) ?_)))
 refine fz rfl (.t rfl rfl) Fx.fo33_2 (.u rfl) (ld rfl (.t rfl rfl) FxVerP.ag26 (.s rfl) (fun hc=>Rd.own tk2 (by first|exact wap_f rfl|rfl)) ?_)
 refine cp rfl (.t rfl rfl) (.s rfl) (.s rfl) rfl (pkA rfl .no (.u rfl) (.s rfl) (mV rfl rfl (fz rfl (.t rfl rfl) Fx.fo45_2 (.u rfl) (ld rfl (.t rfl rfl) FxVerP.ag26 (.s rfl) (fun hc=>Rd.own tk1 (by first|exact wap_f rfl|rfl)) ?_))))
 refine fz rfl (.t rfl rfl) Fx.fo33_3 (.u rfl) (ld rfl (.t rfl rfl) FxVerP.ag26 (.s rfl) (fun hc=>Rd.own tk2 (by first|exact wap_f rfl|rfl)) ?_)
 refine cp rfl (.t rfl rfl) (.s rfl) (.s rfl) rfl (pkA rfl .no (.u rfl) (.s rfl) (mV rfl rfl (fz rfl (.t rfl rfl) Fx.fo45_3 (.u rfl) (ld rfl (.t rfl rfl) FxVerP.ag26 (.s rfl) (fun hc=>Rd.own tk1 (by first|exact wap_f rfl|rfl)) ?_))))
 refine fz rfl (.t rfl rfl) Fx.fo33_4 (.u rfl) (ld rfl (.t rfl rfl) FxVerP.ag26 (.s rfl) (fun hc=>Rd.own tk2 (by first|exact wap_f rfl|rfl)) ?_)
 refine cp rfl (.t rfl rfl) (.s rfl) (.s rfl) rfl (pkA rfl .no (.u rfl) (.s rfl) (mV rfl rfl (fz rfl (.t rfl rfl) Fx.fo45_5 (.u rfl) (ld rfl (.t rfl rfl) Fx.ag29 (.s rfl) (fun hc=>Rd.own tk1 (by first|exact wap_f rfl|rfl)) ?_))))
 refine ln rfl (.t rfl rfl) Fx.sn29 (.s rfl) (cp rfl (.t rfl rfl) (.s rfl) (.u rfl) rfl (pkA rfl .no (.u rfl) (.s rfl) (mV rfl rfl (fz rfl (.t rfl rfl) Fx.fo45_6 (.u rfl) (ld rfl (.t rfl rfl) Fx.ag43 (.s rfl) (fun hc=>Rd.own tk1 (by first|exact wap_f rfl|rfl)) ?_)))))
 refine ln rfl (.t rfl rfl) Fx.sn43 (.s rfl) (cp rfl (.t rfl rfl) (.s rfl) (.u rfl) rfl (pkA rfl .no (.u rfl) (.s rfl) (aS rfl rfl (.nil (.code (.seq (Wk.rg [0,1,2,3,4,5,6,7,8,9,10,11,12] rfl rfl (fz rfl .no Fx.fo45_0 (.u rfl) (ld rfl .no FxVerP.ag26 (.u rfl) (fun _=>Rd.own tk1 (by first|exact wap_f rfl|rfl)) ?_)))))))))
 refine fz rfl .no Fx.fo45_1 (.u rfl) (ld rfl .no FxVerP.ag26 (.u rfl) (fun _=>Rd.own tk1 (by first|exact wap_f rfl|rfl)) ?_)
 refine fz rfl .no Fx.fo45_2 (.u rfl) (ld rfl .no FxVerP.ag26 (.u rfl) (fun _=>Rd.own tk1 (by first|exact wap_f rfl|rfl)) ?_)
 refine fz rfl .no Fx.fo45_3 (.u rfl) (ld rfl .no FxVerP.ag26 (.u rfl) (fun _=>Rd.own tk1 (by first|exact wap_f rfl|rfl)) ?_)
 refine fz rfl .no Fx.fo45_4 (.u rfl) (lA rfl .no Fx.ag31 (.u rfl) (fun _=>RdN.part (n:=5) (cs':=(List.range 5).map (fun i=>.int .u64 (e.gens i))) tk1 (rfl)) (fun _=>rfl) (bCe ((mkX e (fun _=>[])).cells (fun _=>⟨none,0⟩)) rfl .no Fx.bp33_1_2_3_4_5 (.cons (.u rfl) rfl (.cons (.u rfl) rfl (.cons (.u rfl) rfl (.cons (.u rfl) rfl (.cons (.u rfl) rfl .nil))))) rfl (rfl) ?_))
 refine al rfl Fx.zq33 ?_; intro b7
 refine sw rfl (.u rfl) (.u rfl) rfl Fx.sz33 .here (by first|exact qE|exact qL|rfl) (State.one') ?_
 refine .nil (.code (.seq (.seq (rq1 rfl rfl (aS rfl rfl (.nil (.code (.block ?_))))))))
 refine Wk.lop (α:=Nat×Shs×Lvs×Bool) (fun gh=>[(6,true,.bool gh.2.2.2),(8,true,.int .i64 (gh.1:Int))]) (fun gh=>[.blk b7 (cl ((mkX e gh.2.2.1).cells gh.2.1) 33)])
  (fun gh Gl=>(gh.1≤5)∧(gh.2.2.2=okU s e gh.1)∧(∀ i,i<gh.1→gh.2.2.1 i=s.lv i)∧(LvR Gl gh.2.1 gh.2.2.1 gh.1)) (fun gh=>5-gh.1) (0,fun _=>⟨none,0⟩,fun _=>[],okBase s e) [(2,true,_),(3,true,_),(4,true,_),(7,true,_)] [_,_,_]
  (esD rfl (esC rfl (by first|rfl|exact evi (by omega)) (esD rfl (esD rfl (esD rfl (esD rfl eZ))))))
  (mS .here rfl (mS .here rfl (mS .here rfl (mS .here rfl mN)))) ?_ ?_
 ·refine ⟨?_,?_,?_,?_⟩
  ·(try dsimp only)<;>(first|omega|rfl|assumption|(simp; done))
  ·(try dsimp only)<;>(rfl)
  ·(try dsimp only)<;>(exact fun i hi=>by omega)
  (try dsimp only)<;>(exact ⟨fun i hi=>by omega⟩)
 intro gh N0 Gl0 hN0 hGl0 hF0
 obtain ⟨k,sh,Lf,ok⟩:=gh; dsimp only at hF0 hN0 ⊢
 obtain ⟨hk,hok,hLf,hls⟩:=hF0
 have hs:=hs.mono hGl0
 have hea:=hea.mono hGl0
 have hed:=hed.mono hGl0
 refine .seq (.seq (rq2 rfl rfl (mV rfl rfl (cp rfl .no (.u rfl) (.u rfl) rfl (.nil (.code (.cond rfl (fun c2=>?_) (fun c2=>?_))))))))
 ·have c2k:=c2
  try simp only [qcA,qcC,qcB] at c2
  refine .skip (.code (.seq (.block (.seq (Wk.draw (mc:=⟨false,false⟩) [0,1,2,3,4,5,6,7,8,9,10,11,12] FxVeSa.mix (by kernel_rfl) ?_)))))
  refine mV rfl rfl (mV rfl rfl (mv rfl (.t rfl rfl) (.u rfl) (fz rfl (.t rfl rfl) Fx.fo45_4 (.u rfl) (iA rfl (.t rfl rfl) Fx.ar31 (.s rfl) (.s rfl) (fun hc=>by (try simp only [Bool.and_eq_true,decide_eq_true_eq] at hc); omega) (fun hc=>by (try simp only [Bool.and_eq_true,decide_eq_true_eq] at hc); omega) ?_))))
  refine ld rfl (.t rfl rfl) FxVerP.ag26 (.s rfl) (fun hc=>Rd.own tk2 (e.cell_gen ha he (k:=k) (by (try simp only [Bool.and_eq_true,decide_eq_true_eq] at hc); omega))) ?_
  refine mv rfl (.t rfl rfl) (.u rfl) (fz rfl (.t rfl rfl) Fx.fo33_5 (.u rfl) (iA rfl (.t rfl rfl) Fx.ar31 (.s rfl) (.s rfl) (fun hc=>by (try simp only [Bool.and_eq_true,decide_eq_true_eq] at hc); omega) (fun hc=>by (try simp only [Bool.and_eq_true,decide_eq_true_eq] at hc); omega) ?_))
  refine ld rfl (.t rfl rfl) FxVerP.ag26 (.s rfl) (fun hc=>Rd.own tk3 (s.cell_gen hd (k:=k) (by (try simp only [Bool.and_eq_true,decide_eq_true_eq] at hc); omega))) ?_
  refine cp rfl (.t rfl rfl) (.s rfl) (.s rfl) rfl (pkA rfl .no (.u rfl) (.s rfl) (aS rfl rfl (.nil (.code ?_))))
  have hlv:=hs.lv k (by omega)
  have hlk:=lv_tot s (i:=k) (by omega)
  refine rq10 rfl rfl (mV rfl rfl ?_)
  refine b0 rfl rfl Fx.se29 ?_; intro v85
  refine mV rfl rfl (fz rfl .no Fx.fo33_0 (.u rfl) (iA rfl .no Fx.ar30 (.u rfl) (.u rfl) (fun _=>by omega) (fun _=>by omega) ?_))
  refine ld rfl .no Fx.ag29 (.u rfl) (fun _=>Rd.own tk4 (s.cell_lv hd (k:=k) (by omega))) ?_
  refine apL (xs:=([]:List Meta)) rfl Fx.se29 Fx.zw98 rfl (.u rfl) (.u rfl) .here hlv (fun _ _=>Meta.len _) (metas_one _) (by (try simp only [qlA,List.length_take,List.length_drop]); omega) (by unfold maxLen; (try simp only [qlA,List.length_take,List.length_drop]); omega) ?_; intro v90 ov90
  refine fz rfl .no Fx.fo33_0 (.u rfl) (iA rfl .no Fx.ar30 (.u rfl) (.u rfl) (fun _=>by omega) (fun _=>by omega) ?_)
  refine s1v rfl (.u rfl) (.u rfl) .here Fx.sz29 tk1 (by show _<14; omega) (rfl) ?_
  refine .nil (.blk (.code ?_))
  refine wk_fs tk1 (fun _ _=>rfl) (by intro b hb; cases hb) ?_; intro GfR hR hleR evR hsR; subst evR
  have hs:=hs.mono hleR
  have hea:=hea.mono hleR
  have hed:=hed.mono hleR
  have hls:=hls.mono hleR
  refine rq3 rfl rfl (mV rfl rfl (arn (((k+1):Nat):Int) rfl .no (.u rfl) (.u rfl) rfl (fun _=>by omega) (fun _=>wrap_i64 (by omega) (by omega)) ?_))
  refine aS rfl rfl (.nil (We.lpo (k+1,updS sh k hR,updL Lf k ([]++s.lv k),ok&&decide (e.gens k≥s.gens k)) ?_ ?_ ?_ ?_ ?_))
  ·exact (esD rfl (esC rfl (by first|rfl|exact evi (by omega)) (esD rfl (esD rfl (esD rfl (esD rfl eZ))))))
  ·exact (mS .here (by dsimp only; rw [cells_set (k:=k) (by omega) (by omega)]) (mS .here rfl (mS .here rfl (mS .here rfl mN))))
  ·first|omega|(dsimp only; omega)
  ·exact (hGl0).trans hleR
  refine ⟨?_,?_,?_,?_⟩
  ·(try dsimp only)<;>(first|omega|rfl|assumption|(simp; done))
  ·(try dsimp only)<;>(rw [hok]; rfl)
  ·(try dsimp only)<;>(exact fun i hi=>by (by_cases e9:i=k; (subst e9; rw [updL_same]; simp); rw [updL_other e9]; exact hLf i (by omega)))
  (try dsimp only)<;>(exact hls.next hsR)
 have c2k:=c2
 try simp only [qcA,qcC,qcB] at c2
 refine .exit (.xcode (.xlp (.xblk (.code (.seq (.seq (rq1 rfl rfl (aS rfl rfl (.nil (.code (.block ?_)))))))))))
 obtain rfl:k=5:=by omega
 have hls:=hls.congr hLf
 rw [cells_congr hLf]
 refine Wk.lop (α:=Nat×Shs×Lvs×Bool) (fun gh=>[(6,true,.bool gh.2.2.2),(9,true,.int .i64 (gh.1:Int))]) (fun gh=>[.blk b7 (cl ((mkX e gh.2.2.1).cells gh.2.1) 33)])
  (fun gh Gl=>(gh.1≤e.drop.length)∧(RefT s e (foldO dropF (e.drop.take gh.1) s.lv) gh.2.2.1 gh.2.2.2)∧(∀ i,i<5→(gh.2.2.1 i).length≤1024)∧(∀ i,i<5→∀ m∈gh.2.2.1 i,m.wf)∧(LvR Gl gh.2.1 gh.2.2.1 5)) (fun gh=>e.drop.length-gh.1) (0,sh,s.lv,ok) [(3,true,_),(4,true,_),(7,true,_)] [_,_,_]
  (esD rfl (esC rfl (by first|rfl|exact evi (by omega)) (esD rfl (esD rfl (esD rfl eZ)))))
  (mS .here rfl (mS .here rfl (mS .here rfl (mS .here rfl mN)))) ?_ ?_
 ·refine ⟨?_,?_,?_,?_,?_⟩
  ·(try dsimp only)<;>(first|omega|rfl|assumption|(simp; done))
  ·(try dsimp only)<;>(exact RefT.start hok rfl)
  ·(try dsimp only)<;>(exact fun i hi=>by have:=lv_tot s hi; omega)
  ·(try dsimp only)<;>(exact hs.wf)
  (try dsimp only)<;>(exact hls)
 intro gh N1 Gl1 hN1 hGl1 hF1
 obtain ⟨j,sh,Lf,ok⟩:=gh; dsimp only at hF1 hN1 ⊢
 obtain ⟨hj,hT,hLl,hlw,hls⟩:=hF1
 have hea:=hea.mono hGl1
 have hed:=hed.mono hGl1
 refine .seq (.seq (rq8 rfl rfl (mV rfl rfl (fz rfl .no Fx.fo45_6 (.u rfl) (ld rfl .no Fx.ag43 (.u rfl) (fun _=>Rd.own tk2 (by first|exact wap_f rfl|rfl)) ?_)))))
 refine ln rfl .no Fx.sn43 (.u rfl) (cp rfl .no (.u rfl) (.u rfl) rfl (mV rfl rfl (mv rfl (.t rfl rfl) (.u rfl) (pkA rfl .no (.u rfl) (.s rfl) (.nil (.code (.cond rfl (fun c3=>?_) (fun c3=>?_))))))))
 ·have c3k:=c3
  try simp only [qcA,qcC,qcB] at c3
  refine .skip (.code (.seq (.block (.seq (rq7 rfl rfl ?_)))))
  obtain ⟨g,eg⟩:=getx (k:=j) (xs:=e.drop) (by omega)
  have hwg:=(hE.wf.drop g (List.mem_of_getElem? eg)).level
  have hok1:=c3.2
  have hlb:=RefT.bd (hok1▸hT)
  refine fz rfl .no Fx.fo45_6 (.u rfl) (ld rfl .no Fx.ag43 (.u rfl) (fun _=>Rd.own tk2 (by first|exact wap_f rfl|rfl)) ?_)
  refine mV rfl rfl (ih rfl .no Fx.se43 (.u rfl) (.u rfl) (fun _=>by omega) (fun _=>by omega) (fun _=>hed.nn (k:=j) (by first|omega|(simp only [Bool.and_eq_true,decide_eq_true_eq] at hc; omega)|(simp only [List.length_cons,List.length_nil]; omega))) ?_)
  refine lA rfl .no Fx.ag104 (.u rfl) (fun _=>(hed.at (by omega) eg).rd) (fun _=>rfl) ?_
  refine al rfl Fx.zr104 ?_; intro b10
  refine sw rfl (.u rfl) (.u rfl) rfl Fx.sz104 .here rfl (gones1) ?_
  refine .nil (.code (.seq (rq4 rfl rfl (fz rfl .no Fx.fo104_0 (.u rfl) (ld rfl .no FxVerP.ag5 (.u rfl) (fun _=>Rd.own .here (by first|exact wap_f rfl|rfl)) ?_)))))
  refine cp rfl .no (.u rfl) (.u rfl) rfl (aS rfl rfl (.nil (.code (.seq (rq1 rfl rfl (mV rfl rfl (.nil (.code (.cond rfl (fun c4=>?_) (fun c4=>?_))))))))))
  ·have c4k:=c4
   try simp only [qcA,qcC,qcB] at c4
   refine .seq (Wk.draw (mc:=⟨false,false⟩) [0,1,2,3,4,5,6,7,8,9,10,11,12] FxVeSa.mix (by kernel_rfl) ?_)
   refine fz rfl .no Fx.fo104_0 (.u rfl) (ld rfl .no FxVerP.ag5 (.u rfl) (fun _=>Rd.own .here (by first|exact wap_f rfl|rfl)) ?_)
   refine fz rfl .no Fx.fo33_0 (.u rfl) (iA rfl .no Fx.ar30 (.u rfl) (.u rfl) (fun _=>by omega) (fun _=>by omega) ?_)
   refine ld (v:=(sh g.level.toNat).val (Lf g.level.toNat).length) rfl .no Fx.ag29 (.u rfl) (fun _=>Rd.own tk1 (State.cell_lv (mkX e Lf) sh (k:=g.level.toNat) (by omega))) ?_
   refine fz rfl .no Fx.fo104_1 (.u rfl) (ld rfl .no FxVerP.ag26 (.u rfl) (fun _=>Rd.own .here (by first|exact wap_f rfl|rfl)) ?_)
   refine kc rfl Fx.go49 (Evc rfl (Evc rfl Evn)) (without_ok (sh g.level.toNat) (Lf g.level.toNat) g _ (hls.lv _ (by omega)) (by have:=hLl _ (show g.level.toNat<5 by omega); omega)) ?_
   rintro _ G120 μ120 hG120 ⟨h120,L120,ok120,hW,rfl,rfl,hs120⟩
   have hea:=hea.mono hG120
   have hls:=hls.mono hG120
   refine mV rfl rfl (ex rfl .no (.u rfl) rfl (ex rfl .no (.u rfl) rfl (aS rfl rfl (aS rfl rfl (.nil (.code (.seq (rq6 rfl rfl (fz rfl .no Fx.fo104_0 (.u rfl) (ld rfl .no FxVerP.ag5 (.u rfl) (fun _=>Rd.own .here (by first|exact wap_f rfl|rfl)) ?_))))))))))
   refine mV rfl rfl (fz rfl .no Fx.fo33_0 (.u rfl) (iA rfl .no Fx.ar30 (.u rfl) (.u rfl) (fun _=>by omega) (fun _=>by omega) ?_))
   refine s1 rfl (.u rfl) (.u rfl) rfl Fx.sz29 tk1 (by show _<14; omega) (rfl) ?_
   refine .nil (.code (rq2 rfl rfl (mV rfl rfl (aS rfl rfl (.nil (.blk (.code (rq3 rfl rfl (mV rfl rfl (arn (((j+1):Nat):Int) rfl .no (.u rfl) (.u rfl) rfl (fun _=>by omega) (fun _=>wrap_i64 (by omega) (by omega)) ?_))))))))))
   refine aS rfl rfl (.nil (We.lpo (j+1,updS sh g.level.toNat h120,updL Lf g.level.toNat L120,ok120) ?_ ?_ ?_ ?_ ?_))
   ·exact (esD rfl (esC rfl (by first|rfl|exact evi (by omega)) (esD rfl (esD rfl (esD rfl eZ)))))
   ·exact (mS .here (by dsimp only; rw [cells_set (k:=g.level.toNat) (by omega) (by omega)]) (mS tk1 rfl (mS tk1 rfl (mS tk1 rfl mN))))
   ·first|omega|(dsimp only; omega)
   ·exact (hGl1).trans hG120
   refine ⟨?_,?_,?_,?_,?_⟩
   ·(try dsimp only)<;>(first|omega|rfl|assumption|(simp; done))
   ·(try dsimp only)<;>(exact RefT.drop (hok1▸hT) eg (by omega) hW)
   ·(try dsimp only)<;>(exact upd_len hLl hW.len)
   ·(try dsimp only)<;>(exact upd_wf hlw hW)
   (try dsimp only)<;>(exact hls.upd hs120)
  have c4k:=c4
  try simp only [qcA,qcC,qcB] at c4
  refine .skip (.blk (.code (rq3 rfl rfl (mV rfl rfl (arn (((j+1):Nat):Int) rfl .no (.u rfl) (.u rfl) rfl (fun _=>by omega) (fun _=>wrap_i64 (by omega) (by omega)) ?_)))))
  refine aS rfl rfl (.nil (We.lpo (j+1,sh,Lf,false) ?_ ?_ ?_ ?_ ?_))
  ·exact (esC rfl (congrArg Value.bool (by assumption)) (esC rfl (by first|rfl|exact evi (by omega)) (esD rfl (esD rfl (esD rfl eZ)))))
  ·exact (mS tk1 rfl (mS tk1 rfl (mS tk1 rfl (mS tk1 rfl mN))))
  ·first|omega|(dsimp only; omega)
  ·exact hGl1
  refine ⟨?_,?_,?_,?_,?_⟩
  ·(try dsimp only)<;>(first|omega|rfl|assumption|(simp; done))
  ·(try dsimp only)<;>(exact RefT.dropX (hok1▸hT) eg (by omega))
  ·(try dsimp only)<;>(exact hLl)
  ·(try dsimp only)<;>(exact hlw)
  (try dsimp only)<;>(exact hls)
 have c3k:=c3
 try simp only [qcA,qcC,qcB] at c3
 refine .exit (.xcode (.xlp (.xblk (.code (.seq (.seq (rq1 rfl rfl (aS rfl rfl (.nil (.code (.block ?_)))))))))))
 have hT2:RefA s e 0 Lf ok:=by
  cases ok with
  | true =>
   obtain rfl:j=e.drop.length:=by (have:=c3k; simp at this; omega)
   rw [List.take_length] at hT; exact RefA.start hT
  | false=>exact ⟨.inr ⟨rfl,by rcases hT with ⟨h,_⟩ | ⟨_,h⟩; cases h; exact h⟩⟩
 refine Wk.lop (α:=Nat×Shs×Lvs×Bool) (fun gh=>[(6,true,.bool gh.2.2.2),(13,true,.int .i64 (gh.1:Int))]) (fun gh=>[.blk b7 (cl ((mkX e gh.2.2.1).cells gh.2.1) 33)])
  (fun gh Gl=>(gh.1≤e.add.length)∧(RefA s e gh.1 gh.2.2.1 gh.2.2.2)∧(∀ i,i<5→(gh.2.2.1 i).length≤1024+gh.1)∧(∀ i,i<5→∀ m∈gh.2.2.1 i,m.wf)∧(LvR Gl gh.2.1 gh.2.2.1 5)) (fun gh=>e.add.length-gh.1) (0,sh,Lf,ok) [(3,true,_),(4,true,_),(7,true,_)] [_,_,_]
  (esD rfl (esC rfl (by first|rfl|exact evi (by omega)) (esD rfl (esD rfl (esD rfl eZ)))))
  (mS .here rfl (mS .here rfl (mS .here rfl (mS .here rfl mN)))) ?_ ?_
 ·refine ⟨?_,?_,?_,?_,?_⟩
  ·(try dsimp only)<;>(first|omega|rfl|assumption|(simp; done))
  ·(try dsimp only)<;>(exact hT2)
  ·(try dsimp only)<;>(exact hLl)
  ·(try dsimp only)<;>(exact hlw)
  (try dsimp only)<;>(exact hls)
 intro gh N2 Gl2 hN2 hGl2 hF2
 obtain ⟨j,sh,Lf,ok⟩:=gh; dsimp only at hF2 hN2 ⊢
 obtain ⟨hj,hA,hLl,hlw,hls⟩:=hF2
 have hea:=hea.mono hGl2
 refine .seq (.seq (rq8 rfl rfl (mV rfl rfl (fz rfl .no Fx.fo45_5 (.u rfl) (ld rfl .no Fx.ag29 (.u rfl) (fun _=>Rd.own tk2 (by first|exact wap_f rfl|rfl)) ?_)))))
 refine ln rfl .no Fx.sn29 (.u rfl) (cp rfl .no (.u rfl) (.u rfl) rfl (mV rfl rfl (mv rfl (.t rfl rfl) (.u rfl) (pkA rfl .no (.u rfl) (.s rfl) (.nil (.code (.cond rfl (fun c5=>?_) (fun c5=>?_))))))))
 ·have c5k:=c5
  try simp only [qcA,qcC,qcB] at c5
  refine .skip (.code (.seq (.block (.seq (rq7 rfl rfl ?_)))))
  obtain ⟨m,em⟩:=getx (k:=j) (xs:=e.add) (by omega)
  have hwm:=(hE.wf.add m (List.mem_of_getElem? em)).level
  have hok1:=c5.2
  have hlb:=RefA.bd (hok1▸hA)
  refine fz rfl .no Fx.fo45_5 (.u rfl) (ld rfl .no Fx.ag29 (.u rfl) (fun _=>Rd.own tk2 (by first|exact wap_f rfl|rfl)) ?_)
  refine mV rfl rfl (ih rfl .no Fx.se29 (.u rfl) (.u rfl) (fun _=>by omega) (fun _=>by omega) (fun _=>hea.nn (k:=j) (by first|omega|(simp only [Bool.and_eq_true,decide_eq_true_eq] at hc; omega)|(simp only [List.length_cons,List.length_nil]; omega))) ?_)
  refine lA rfl .no Fx.ag98 (.u rfl) (fun _=>(hea.at (by omega) em).rd) (fun _=>Meta.len _) ?_
  refine al rfl Fx.zq98 ?_; intro b14
  refine sw rfl (.u rfl) (.u rfl) rfl Fx.sz98 .here rfl (Meta.one _) ?_
  refine .nil (.code (.seq (rq4 rfl rfl (fz rfl .no Fx.fo98_0 (.u rfl) (ld rfl .no FxVerP.ag5 (.u rfl) (fun _=>Rd.own .here (by first|exact wap_f rfl|rfl)) ?_)))))
  refine cp rfl .no (.u rfl) (.u rfl) rfl (aS rfl rfl (.nil (.code (.seq (rq1 rfl rfl (mV rfl rfl (.nil (.code (.cond rfl (fun c6=>?_) (fun c6=>?_))))))))))
  ·have c6k:=c6
   try simp only [qcA,qcC,qcB] at c6
   refine Wk.draw (mc:=⟨false,false⟩) [0,1,2,3,4,5,6,7,8,9,10,12,11,13,14] FxVeSa.mix (by kernel_rfl) ?_
   refine fz rfl .no Fx.fo98_0 (.u rfl) (ld rfl .no FxVerP.ag5 (.u rfl) (fun _=>Rd.own .here (by first|exact wap_f rfl|rfl)) ?_)
   refine fz rfl .no Fx.fo98_0 (.u rfl) (ld rfl .no FxVerP.ag5 (.u rfl) (fun _=>Rd.own .here (by first|exact wap_f rfl|rfl)) ?_)
   refine cw rfl .no FxVerQ.cv5_3 (.u rfl) (fun _=>wrap_i64 (by omega) (by omega)) ?_
   refine fz rfl .no Fx.fo98_0 (.u rfl) (ld rfl .no FxVerP.ag5 (.u rfl) (fun _=>Rd.own .here (by first|exact wap_f rfl|rfl)) ?_)
   refine fz rfl .no Fx.fo33_0 (.u rfl) (iA rfl .no Fx.ar30 (.u rfl) (.u rfl) (fun _=>by omega) (fun _=>by omega) ?_)
   refine ld (v:=(sh m.level.toNat).val (Lf m.level.toNat).length) rfl .no Fx.ag29 (.u rfl) (fun _=>Rd.own tk1 (State.cell_lv (mkX e Lf) sh (k:=m.level.toNat) (by omega))) ?_
   refine lA rfl .no Fx.ag98 (.u rfl) (fun _=>RdN.own .here) (fun _=>Meta.len _) ?_
   refine fz rfl .no Fx.fo33_0 (.u rfl) (kc rfl Fx.go50 (Evc rfl (Evc rfl (Evc rfl Evn))) (placed_ok m.level (sh m.level.toNat) (Lf m.level.toNat) m _ (hls.lv _ (by omega)) (by have:=hLl _ (show m.level.toNat<5 by omega); omega) (by omega)) ?_)
   rintro _ G159 μ159 hG159 ⟨h159,L159,eL159,rfl,rfl,hs159⟩
   have hls:=hls.mono hG159
   refine iA rfl .no Fx.ar30 (.u rfl) (.u rfl) (fun _=>by omega) (fun _=>by omega) ?_
   refine s1 rfl (.u rfl) (.u rfl) rfl Fx.sz29 tk1 (by show _<14; omega) (rfl) ?_
   refine .nil (.blk (.code (rq3 rfl rfl (mV rfl rfl (arn (((j+1):Nat):Int) rfl .no (.u rfl) (.u rfl) rfl (fun _=>by omega) (fun _=>wrap_i64 (by omega) (by omega)) ?_)))))
   refine aS rfl rfl (.nil (We.lpo (j+1,updS sh m.level.toNat h159,updL Lf m.level.toNat L159,true) ?_ ?_ ?_ ?_ ?_))
   ·exact (esC rfl (congrArg Value.bool (by assumption)) (esC rfl (by first|rfl|exact evi (by omega)) (esD rfl (esD rfl (esD rfl eZ)))))
   ·exact (mS .here (by dsimp only; rw [cells_set (k:=m.level.toNat) (by omega) (by omega)]) (mS tk1 rfl (mS tk1 rfl (mS tk1 rfl mN))))
   ·first|omega|(dsimp only; omega)
   ·exact (hGl2).trans hG159
   refine ⟨?_,?_,?_,?_,?_⟩
   ·(try dsimp only)<;>(first|omega|rfl|assumption|(simp; done))
   ·(try dsimp only)<;>(rw [eL159]; exact RefA.add (hok1▸hA) em (by omega))
   ·(try dsimp only)<;>(rw [eL159]; exact upd_ins hLl)
   ·(try dsimp only)<;>(rw [eL159]; exact ins_wf hlw (hE.wf.add m (List.mem_of_getElem? em)))
   (try dsimp only)<;>(exact hls.upd hs159)
  have c6k:=c6
  try simp only [qcA,qcC,qcB] at c6
  refine .skip (.blk (.code (rq3 rfl rfl (mV rfl rfl (arn (((j+1):Nat):Int) rfl .no (.u rfl) (.u rfl) rfl (fun _=>by omega) (fun _=>wrap_i64 (by omega) (by omega)) ?_)))))
  refine aS rfl rfl (.nil (We.lpo (j+1,sh,Lf,false) ?_ ?_ ?_ ?_ ?_))
  ·exact (esC rfl (congrArg Value.bool (by assumption)) (esC rfl (by first|rfl|exact evi (by omega)) (esD rfl (esD rfl (esD rfl eZ)))))
  ·exact (mS tk1 rfl (mS tk1 rfl (mS tk1 rfl (mS tk1 rfl mN))))
  ·first|omega|(dsimp only; omega)
  ·exact hGl2
  refine ⟨?_,?_,?_,?_,?_⟩
  ·(try dsimp only)<;>(first|omega|rfl|assumption|(simp; done))
  ·(try dsimp only)<;>(exact RefA.addX (hok1▸hA) em (by omega))
  ·(try dsimp only)<;>(exact fun i hi=>by have:=hLl i hi; omega)
  ·(try dsimp only)<;>(exact hlw)
  (try dsimp only)<;>(exact hls)
 have c5k:=c5
 try simp only [qcA,qcC,qcB] at c5
 refine .exit (.xcode (.xlp (.xblk (.code (.seq (.seq ?_))))))
 have hXR:ok=true→StR Gl2 (mkX e Lf) sh:=fun h9=>stR_of hls (fun i hi=>by have h1:=hLl i hi; have h2:=RefA.bd (h9▸hA); omega) hlw
 have hje:ok=true→e.add.length≤j:=fun h9=>by (have:=c5k; rw [h9] at this; simp at this; omega)
 have hml:∀ m∈e.add,0≤m.level:=fun m hm=>(hE.wf.add m hm).level.1
 refine rq7 rfl rfl (mV rfl rfl (nt rfl .no (.u rfl) (mV rfl rfl (lA rfl (.f rfl rfl) Fx.ag33 (.u rfl) (fun _=>RdN.own .here) (fun _=>(by first|exact qE|exact qL|rfl)) ?_))))
 refine kv rfl (.f rfl rfl) Fx.go48 (Eva.cons (.s rfl) Evn) (fun hc=>rRight_ok (mkX e Lf) sh _ (hXR (by simpa using hc))) ?_
 refine nt rfl (.f rfl rfl) (.s rfl) (pkO rfl .no (.u rfl) (.s rfl) (.nil (.code (.cond rfl (fun c7=>?_) (fun c7=>?_)))))
 ·have c7k:=c7
  try simp only [qcA,qcC,qcB] at c7
  refine .seq (rq3 rfl rfl (bC rfl .no Fx.bp33_ .nil rfl ?_))
  refine sw rfl (.u rfl) (.u rfl) rfl Fx.sz33 tk1 (by first|exact qE|exact qL|rfl) (State.one') ?_
  refine aS rfl rfl (.nil (.code (.ret (We.fin0 Tryz.results19 (.cell rfl (fun w hw=>run_loadVarN Fx.ag33 (RdN.own .here) ((by first|exact qE|exact qL|rfl)) hw) (.tmp rfl .nil)) ?_))))
  exact ⟨State.zero,hd0,180,.inr (.inl ⟨hri,ref_no hri' hA hml hje c7k,rfl,rfl⟩),rfl,rfl,st_zero⟩
 have c7k:=c7
 try simp only [qcA,qcC,qcB] at c7
 refine .skip (.code (.seq (rq3 rfl rfl (lA rfl .no Fx.ag33 (.u rfl) (fun _=>RdN.own .here) (fun _=>(by first|exact qE|exact qL|rfl)) ?_))))
 refine sw rfl (.u rfl) (.u rfl) rfl Fx.sz33 tk1 (by first|exact qE|exact qL|rfl) (State.one') ?_
 refine aS rfl rfl (.nil (.code (.ret (We.fin0 Tryz.results19 (.cell rfl (fun w hw=>run_loadVarN Fx.ag33 (RdN.own .here) ((by first|exact qE|exact qL|rfl)) hw) (.tmp rfl .nil)) ?_))))
 exact ⟨mkX e Lf,sh,0,.inr (.inr ⟨hri,rfl,ref_yes hri' hA hml hje c7k⟩),rfl,rfl,hXR (by have:=c7k; simp at this; exact this.1)⟩
theorem sameS_ok (a b:State) (ha hb:Nat→Sh) (G:PM) (hA:StR G a ha) (hB:StR G b hb) (ga:∀ i,i<5→u64 (a.gens i)) (gb:∀ i,i<5→u64 (b.gens i)) (hl:∀ i,i<5→(a.lv i).length≤100000000000):Ct Tryz.prog 12 ([a.val ha,b.val hb]:List Value).toArray G [] (fun _ μ' u=>μ'=[]∧u=.bool (sameS a b)):=by
 refine Ct.of Tryz.func12 rfl Tryz.ntmps12 rfl fun w0 hs0=>?_
 refine .seq (rq3 rfl rfl ?_)
 refine bx rfl (.u rfl) rfl ?_; intro b2
 refine bx rfl (.u rfl) rfl ?_; intro b3
 refine aS rfl rfl (.nil (.code (.seq (.seq (rq1 rfl rfl (aS rfl rfl (.nil (.code (.block ?_)))))))))
 refine Wk.lop (α:=Nat) (fun k=>[(5,true,.int .i64 (k:Int))]) (fun _=>[])
  (fun k Gl=>(k≤5)∧(∀ i,i<k→sameM (a.lv i) (b.lv i)=true)) (fun k=>5-k) 0 [(2,true,_),(3,true,_)] [_,_]
  (esC rfl (by first|rfl|exact evi (by omega)) (esD rfl (esD rfl eZ)))
  (mS .here rfl (mS .here rfl mN)) ?_ ?_
 ·refine ⟨?_,?_⟩
  ·(try dsimp only)<;>(first|omega|rfl|assumption|(simp; done))
  (try dsimp only)<;>(exact fun i hi=>by omega)
 intro k N0 Gl0 hN0 hGl0 hF0
 try dsimp only at hF0 hN0 ⊢
 obtain ⟨hk,hq⟩:=hF0
 have hA:=hA.mono hGl0
 have hB:=hB.mono hGl0
 refine .seq (.seq (rq2 rfl rfl (mV rfl rfl (cp rfl .no (.u rfl) (.u rfl) rfl (.nil (.code (.cond rfl (fun c1=>?_) (fun c1=>?_))))))))
 ·have c1k:=c1
  try simp only [qcA,qcB] at c1
  refine .skip (.code (.seq (.block (.seq (Wk.draw (mc:=⟨false,false⟩) [0,1,2,3,4,5,6,7,8,9] FxVeSa.mix (by kernel_rfl) ?_)))))
  refine mV rfl rfl (fz rfl .no Fx.fo33_0 (.u rfl) (iA rfl .no Fx.ar30 (.u rfl) (.u rfl) (fun _=>by omega) (fun _=>by omega) ?_))
  refine ld rfl .no Fx.ag29 (.u rfl) (fun _=>Rd.own tk1 (a.cell_lv ha (k:=k) (by omega))) ?_
  refine mV rfl rfl (fz rfl .no Fx.fo33_0 (.u rfl) (iA rfl .no Fx.ar30 (.u rfl) (.u rfl) (fun _=>by omega) (fun _=>by omega) ?_))
  refine ld rfl .no Fx.ag29 (.u rfl) (fun _=>Rd.own .here (b.cell_lv hb (k:=k) (by omega))) ?_
  refine kv rfl .no Fx.go27 (Evc rfl (Evc rfl Evn)) (fun _=>sameMetas_ok (ha k) (hb k) _ _ _ (hA.lv k (by omega)) (hB.lv k (by omega)) (hA.wf k (by omega)) (hB.wf k (by omega)) (hl k (by omega))) ?_
  refine nt rfl .no (.u rfl) (.nil (.code (.cond rfl (fun c2=>?_) (fun c2=>?_))))
  ·have c2k:=c2
   try simp only [qcA,qcB] at c2
   refine .seq (rq1 rfl rfl (aS rfl rfl (.nil (.code (.ret (We.fin0 Tryz.results12 (.tmp rfl .nil) ?_))))))
   exact ⟨rfl,congrArg Value.bool (sameS_no (i:=k) (by omega) (by simpa using c2k)).symm⟩
  have c2k:=c2
  try simp only [qcA,qcB] at c2
  refine .skip (.blk (.code (rq3 rfl rfl (mV rfl rfl (arn (((k+1):Nat):Int) rfl .no (.u rfl) (.u rfl) rfl (fun _=>by omega) (fun _=>wrap_i64 (by omega) (by omega)) ?_)))))
  refine aS rfl rfl (.nil (We.lpo (k+1) ?_ ?_ ?_ ?_ ?_))
  ·exact (esC rfl (by first|rfl|exact evi (by omega)) (esD rfl (esD rfl eZ)))
  ·exact (mS .here rfl (mS .here rfl mN))
  ·first|omega|(dsimp only; omega)
  ·exact hGl0
  refine ⟨?_,?_⟩
  ·(try dsimp only)<;>(first|omega|rfl|assumption|(simp; done))
  (try dsimp only)<;>(exact fun i hi=>by (by_cases e9:i=k; (subst e9; simpa using c2k); exact hq i (by omega)))
 have c1k:=c1
 try simp only [qcA,qcB] at c1
 refine .exit (.xcode (.xlp (.xblk (.code (.seq (Wk.rg [0,1,2,3,4,5,6,7,8,9,10,11,12,13,14,15,16,17,18,19,20,21,22,23,24,25,26] rfl rfl (fz rfl .no Fx.fo33_1 (.u rfl) (ld rfl .no FxVerP.ag26 (.u rfl) (fun _=>Rd.own tk1 (by first|exact wap_f rfl|rfl)) ?_))))))))
 refine fz rfl .no Fx.fo33_1 (.u rfl) (ld rfl .no FxVerP.ag26 (.u rfl) (fun _=>Rd.own .here (by first|exact wap_f rfl|rfl)) ?_)
 refine cp rfl .no (.u rfl) (.u rfl) rfl (mV rfl rfl (fz rfl (.t rfl rfl) Fx.fo33_2 (.u rfl) (ld rfl (.t rfl rfl) FxVerP.ag26 (.s rfl) (fun hc=>Rd.own tk1 (by first|exact wap_f rfl|rfl)) ?_)))
 refine fz rfl (.t rfl rfl) Fx.fo33_2 (.u rfl) (ld rfl (.t rfl rfl) FxVerP.ag26 (.s rfl) (fun hc=>Rd.own .here (by first|exact wap_f rfl|rfl)) ?_)
 refine cp rfl (.t rfl rfl) (.s rfl) (.s rfl) rfl (pkA rfl .no (.u rfl) (.s rfl) (mV rfl rfl (fz rfl (.t rfl rfl) Fx.fo33_3 (.u rfl) (ld rfl (.t rfl rfl) FxVerP.ag26 (.s rfl) (fun hc=>Rd.own tk1 (by first|exact wap_f rfl|rfl)) ?_))))
 refine fz rfl (.t rfl rfl) Fx.fo33_3 (.u rfl) (ld rfl (.t rfl rfl) FxVerP.ag26 (.s rfl) (fun hc=>Rd.own .here (by first|exact wap_f rfl|rfl)) ?_)
 refine cp rfl (.t rfl rfl) (.s rfl) (.s rfl) rfl (pkA rfl .no (.u rfl) (.s rfl) (mV rfl rfl (fz rfl (.t rfl rfl) Fx.fo33_5 (.u rfl) (lA rfl (.t rfl rfl) Fx.ag31 (.s rfl) (fun _=>RdN.part (n:=5) (cs':=(List.range 5).map fun i=>Value.int .u64 (a.gens i)) tk1 (rfl)) (fun _=>rfl) (fz rfl (.t rfl rfl) Fx.fo33_5 (.u rfl) (lA rfl (.t rfl rfl) Fx.ag31 (.s rfl) (fun _=>RdN.part (n:=5) (cs':=(List.range 5).map fun i=>Value.int .u64 (b.gens i)) .here (rfl)) (fun _=>rfl) (eqC (eqGenS a b) rfl (.t rfl rfl) Fx.eqt31 (.s rfl) (.s rfl) (fun hc=>gensS_conf ga) (fun hc=>gensS_conf gb) (fun hc=>eqGenS_iff) ?_)))))))
 refine pkA rfl .no (.u rfl) (.s rfl) (aS rfl rfl (.nil (.code (.ret (We.fin0 Tryz.results12 (.tmp rfl .nil) ?_)))))
 exact ⟨rfl,congrArg Value.bool (sameS_yes (fun i hi=>hq i (by omega))).symm⟩
namespace Fx
theorem go52:goFn Tryz.prog 52=true:=by kernel_rfl
theorem go19:goFn Tryz.prog 19=true:=by kernel_rfl
theorem go20:goFn Tryz.prog 20=true:=by kernel_rfl
theorem go26:goFn Tryz.prog 26=true:=by kernel_rfl
end Fx
theorem rwLay_row (root:Nat→Y) (h:Hd) (n:BitVec 64) (p:List Y) (v:Value) (G:PM) (hR:RdNP G 0 0 (wa 64 kW)):Ct Tryz.prog 26 ([.agg (ba 32 root).toArray,.agg ([V h.kind,V h.level,uv .u64 h.gen,uv .u64 h.epoch,uv .u64 h.num]:List Value).toArray,uv .u64 n,v]:List Value).toArray G [rB v 5 p] (fun _ μ' u=>∃ ν,μ'=rB v 5 p :: ν∧∃ v' L e,(L,e)=layP root h n p∧ν=[rB v' 5 L]∧u=.tuple #[v',.int .i64 e]) :=
 Ct.lendB (fun hp G2 hle hv hs=>by subst hv; exact rwLay_ok root h n p hp G2 hs (hR.mono hle))
theorem r19Rec_ok (mark:BitVec 64) (s:State) (hd:Nat→Sh) (e:Edit) (ha he:Sh) (G:PM) (hs:StR G s hd) (hn:StN s) (hl:StL s) (hE:EdR G e ha he) (hla:e.add.length≤1000000) (hld:e.drop.length≤1000000) (hlm:(e.add.flatMap encM).length≤900000000000) (hR:RdNP G 0 0 (wa 64 kW)):Ct Tryz.prog 20 ([uv .u64 mark,s.val hd,e.val ha he]:List Value).toArray G [] (PR 5 (fun L=>L=recP mark s e)):=by
 refine Ct.of Tryz.func20 rfl Tryz.ntmps20 rfl fun w0 hs0=>?_
 have hen:=encE_len hE.wf hla hld
 refine .seq (rq3 rfl rfl ?_)
 refine bx rfl (.u rfl) rfl ?_; intro b4
 refine bx rfl (.u rfl) rfl ?_; intro b5
 refine aS rfl rfl (.nil (.code (.seq (rq3 rfl rfl (mV rfl rfl (kc rfl Fx.go51 (Evc rfl (Evc rfl Evn)) (Ct.rowc (fFix_ok mark 8 _ (by decide))) ?_))))))
 rintro v10 G10 μ10 hG10 ⟨L10,ov10,eL10,rfl⟩
 have hs:=hs.mono hG10
 have hE:=hE.mono hG10
 have hR:=hR.mono hG10
 refine aS rfl rfl (.nil (.code (.seq (rq4 rfl rfl (lA rfl .no Fx.ag33 (.u rfl) (fun _=>RdN.own tk2) (fun _=>(by first|exact qE|exact qL|rfl)) ?_)))))
 refine kv rfl .no Fx.go52 (Evc rfl Evn) (fun _=>r19Root_ok s hd _ hs hn hl hR) ?_
 refine al rfl Fx.zq23 ?_; intro b8
 refine sw rfl (.u rfl) (.u rfl) rfl Fx.sz23 .here rfl (ba_one _ _) ?_
 refine .nil (.code (.seq (rq4 rfl rfl (mV rfl rfl (sa0 rfl .no Fx.ar23 (.u rfl) ?_)))))
 have lL10:L10.length=8:=by rw [eL10,fix_len]
 refine apY rfl Fx.se24 Fx.zv5 (.u rfl) (.u rfl) tk1 (Sc.arr .here) (by (try simp only [qlA,yl_len]); omega) ?_
 intro v15 L15 ov15 eL15
 have lL15:L15.length=L10.length+32:=by rw [eL15,List.length_append]; first|rfl | simp [yl_len]
 refine aS rfl rfl (.nil (.code (.seq (rq5 rfl rfl (mV rfl rfl (lA rfl .no Fx.ag45 (.u rfl) (fun _=>RdN.part (n:=11) (cs':=e.cells ha he) tk2 (rfl)) (fun _=>(by first|exact qE|exact qL|rfl)) ?_))))))
 refine kc rfl Fx.go53 (Evc rfl Evn) (Ct.frzB (rEncode_ok e ha he _ hE hla hld (by omega))) ?_
 rintro _ G18 μ18 hG18 ⟨h18,L18,eL18,rfl,rfl,hs18⟩
 have lL18:L18.length=(encE e).length:=by rw [eL18]
 refine apY rfl Fx.se24 Fx.zv5 (.u rfl) (.u rfl) .here hs18.sc (by (try simp only [qlA,yl_len]); omega) ?_
 intro v19 L19 ov19 eL19
 have lL19:L19.length=L15.length+L18.length:=by rw [eL19,List.length_append]
 refine aS rfl rfl (.nil (.code (.seq (rq2 rfl rfl (mV rfl rfl (aS rfl rfl (.nil (.code (.ret (We.fin Tryz.results20 (.tmp rfl .nil) (mS .here rfl mN) ?_))))))))))
 exact ⟨_,by rw [eL19,eL15,eL10,eL18]; rfl,rfl⟩
set_option maxHeartbeats 2000000 in
theorem r19Lay_ok (root:Nat→Y) (h:Hd) (n mark:BitVec 64) (s:State) (hd:Nat→Sh) (e:Edit) (ha he:Sh) (G:PM) (hs:StR G s hd) (hE:EdR G e ha he) (hR:RdNP G 0 0 (wa 64 kW)):Ct Tryz.prog 11 ([.agg (ba 32 root).toArray,.agg ([V h.kind,V h.level,uv .u64 h.gen,uv .u64 h.epoch,uv .u64 h.num]:List Value).toArray,uv .u64 n,uv .u64 mark,s.val hd,e.val ha he]:List Value).toArray G [] (fun G' μ' u=>∃ v L X hdX r,LayR root h n mark s e L X r∧μ'=[rB v 5 L]∧u=.tuple #[v,State.val X hdX,.int .i64 r]∧StR G' X hdX):=by
 refine Ct.of Tryz.func11 rfl Tryz.ntmps11 rfl fun w0 hs0=>?_
 refine .seq (rq7 rfl rfl ?_)
 refine bx rfl (.u rfl) rfl ?_; intro b6
 refine bx rfl (.u rfl) rfl ?_; intro b7
 refine bx rfl (.u rfl) rfl ?_; intro b10
 refine bx rfl (.u rfl) rfl ?_; intro b11
 refine aS rfl rfl ?_
 refine al rfl Fx.zq33 ?_; intro b13
 refine aS rfl rfl (.nil (.code (.seq ?_)))
 refine wk_fz tk4 (by intro b hb; cases hb) ?_; intro Gfb6 hleb6 hbb6
 have hs:=hs.mono hleb6
 have hE:=hE.mono hleb6
 have hR:=hR.mono hleb6
 refine wk_fz tk3 (by intro b hb; cases hb) ?_; intro Gfb7 hleb7 hbb7
 have hs:=hs.mono hleb7
 have hE:=hE.mono hleb7
 have hR:=hR.mono hleb7
 have hbb6:=hbb6.mono hleb7
 refine wk_fz tk1 (by intro b hb; cases hb) ?_; intro Gfb11 hleb11 hbb11
 have hs:=hs.mono hleb11
 have hE:=hE.mono hleb11
 have hR:=hR.mono hleb11
 have hbb6:=hbb6.mono hleb11
 have hbb7:=hbb7.mono hleb11
 refine rq9 rfl rfl (lA rfl .no Fx.ag33 (.u rfl) (fun _=>RdN.own tk1) (fun _=>(by first|exact qE|exact qL|rfl)) ?_)
 refine lA rfl .no Fx.ag45 (.u rfl) (fun _=>(hbb11.rdn (m:=11) (cs':=e.cells ha he) (rfl)).rd) (fun _=>(by first|exact qE|exact qL|rfl)) ?_
 refine kc rfl Fx.go19 (Evc rfl (Evc rfl Evn)) (rapply_ok s hd e ha he _ hs hE) ?_
 rintro _ G21 μ21 hG21 ⟨X21,hX21,er21,hA21,rfl,rfl,hR21⟩
 have hE:=hE.mono hG21
 have hR:=hR.mono hG21
 have hbb6:=hbb6.mono hG21
 have hbb7:=hbb7.mono hG21
 have hbb11:=hbb11.mono hG21
 refine mV rfl rfl (ex rfl .no (.u rfl) rfl (ex rfl .no (.u rfl) rfl ?_))
 refine al rfl Fx.zq33 ?_; intro b15
 refine sw rfl (.u rfl) (.u rfl) rfl Fx.sz33 .here (by first|exact qE|exact qL|rfl) (State.one') ?_
 refine aS rfl rfl (.nil (.code (.seq (.seq (rq2 rfl rfl (mV rfl rfl (cp rfl .no (.u rfl) (.u rfl) rfl (.nil (.code (.cond rfl (fun c1=>?_) (fun c1=>?_)))))))))))
 ·have c1k:=c1
  try simp only [qcA,qcC,qcB] at c1
  refine .seq (rq5 rfl rfl (bC rfl .no Fx.bp33_ .nil rfl ?_))
  refine mV rfl rfl (aS rfl rfl (sw rfl (.u rfl) (.u rfl) rfl Fx.sz33 tk1 (by first|exact qE|exact qL|rfl) (State.one') ?_))
  refine aS rfl rfl (.nil (.code (.ret (we_nilB 5 ?_))))
  refine We.fin Tryz.results11 (.tmp rfl (.cell rfl (fun w hw=>run_loadVarN Fx.ag33 (RdN.own tk1) ((by first|exact qE|exact qL|rfl)) hw) (.tmp rfl .nil))) (mS .here rfl mN) ?_
  exact ⟨_,[],State.zero,hd0,er21,⟨X21,er21,hA21,.inl ⟨c1,rfl,rfl,rfl⟩⟩,rfl,rfl,st_zero⟩
 have c1k:=c1
 try simp only [qcA,qcC,qcB] at c1
 refine .skip (.code (.seq ?_))
 refine wk_fz .here (by intro b hb; cases hb) ?_; intro Gfb15 hleb15 hbb15
 have hE:=hE.mono hleb15
 have hR:=hR.mono hleb15
 have hbb6:=hbb6.mono hleb15
 have hbb7:=hbb7.mono hleb15
 have hbb11:=hbb11.mono hleb15
 have hR21:=hR21.mono hleb15
 have hfe:=AppR.few (s:=s) (e:=e) (X:=X21) (by rw [show er21=0 by omega] at hA21; exact hA21) hE.wf
 have hen:=encE_len hE.wf hfe.1 hfe.2.1
 refine Wk.mixp ⟨true,false⟩ Fx.mix (by kernel_rfl) ?_
 refine Wp.one 2 (by kernel_rfl) ?_
 refine mV rfl rfl (.nil (Wp.one 3 (by kernel_rfl) ?_))
 refine mV rfl rfl (.nil (Wp.one 4 (by kernel_rfl) ?_))
 refine lA rfl .no Fx.ag33 (.u rfl) (fun _=>(hbb15.rdn (m:=14) (cs':=X21.cells hX21) (rfl)).rd) (fun _=>(by first|exact qE|exact qL|rfl)) ?_
 refine .nil (Wp.one 5 (by kernel_rfl) ?_)
 refine lA rfl .no Fx.ag45 (.u rfl) (fun _=>(hbb11.rdn (m:=11) (cs':=e.cells ha he) (rfl)).rd) (fun _=>(by first|exact qE|exact qL|rfl)) ?_
 refine .nil (Wp.pr 0 (by kernel_rfl) ?_)
 refine lA rfl .no Fx.ag23 (.u rfl) (fun _=>(hbb6.rdn (m:=32) (cs':=_) (by first|exact ba_all|exact app_l|exact app_r)).rd) (fun _=>(ba_len _ _)) ?_
 refine .nil ⟨⟨rfl,rfl⟩,?_⟩
 refine Wp.pr 1 (by kernel_rfl) ?_
 refine lA rfl .no Fx.ag28 (.u rfl) (fun _=>(hbb7.rdn (m:=5) (cs':=[V h.kind,V h.level,uv .u64 h.gen,uv .u64 h.epoch,uv .u64 h.num]) (rfl)).rd) (fun _=>rfl) ?_
 refine .nil ⟨⟨rfl,rfl⟩,?_⟩
 refine Wp.b1 6 (by kernel_rfl) ?_
 refine kc rfl Fx.go20 (Evc rfl (Evc rfl (Evc rfl Evn))) (Ct.rowc (r19Rec_ok mark X21 hX21 e ha he _ hR21 (hA21.stN hE.wf) hA21.stL hE hfe.1 hfe.2.1 hfe.2.2 hR)) ?_
 rintro v35 G35 μ35 hG35 ⟨L35,ov35,eL35,rfl⟩
 have hR:=hR.mono hG35
 have hR21:=hR21.mono hG35
 have hbb15:=hbb15.mono hG35
 refine .nil (Wp.b1 7 (by kernel_rfl) ?_)
 refine ka rfl (.inl rfl) Fx.go26 (Evc rfl (Evc rfl (Evc rfl (Evc rfl Evn)))) (mtk1 .here) (rwLay_row root h n L35 _ _ hR) ?_
 rintro _ G36 μ36 hG36 ⟨_,rfl,v36,L36,e36,hL36,rfl,rfl⟩
 have hR21:=hR21.mono hG36
 have hbb15:=hbb15.mono hG36
 refine .nil (Wp.one 8 (by kernel_rfl) ?_)
 refine mV rfl rfl (.nil (Wp.one 9 (by kernel_rfl) ?_))
 refine ex rfl .no (.u rfl) rfl (.nil (Wp.one 10 (by kernel_rfl) ?_))
 refine ex rfl .no (.u rfl) rfl (.nil (Wp.one 11 (by kernel_rfl) ?_))
 refine aS rfl rfl (.nil (Wp.one 12 (by kernel_rfl) ?_))
 refine aS rfl rfl (.nil (Wp.last (by kernel_rfl) ?_))
 refine .code (.seq (.seq (rq2 rfl rfl (mV rfl rfl (cp rfl .no (.u rfl) (.u rfl) rfl (.nil (.code (.cond rfl (fun c2=>?_) (fun c2=>?_)))))))))
 ·have c2k:=c2
  try simp only [qcA,qcC,qcB] at c2
  refine .seq (rq5 rfl rfl (bC rfl .no Fx.bp33_ .nil rfl ?_))
  refine mV rfl rfl (aS rfl rfl (sw rfl (.u rfl) (.u rfl) rfl Fx.sz33 tk2 (by first|exact qE|exact qL|rfl) (State.one') ?_))
  refine aS rfl rfl (.nil (.code (.ret (we_nilB 5 ?_))))
  refine We.fin Tryz.results11 (.tmp rfl (.cell rfl (fun w hw=>run_loadVarN Fx.ag33 (RdN.own tk1) ((by first|exact qE|exact qL|rfl)) hw) (.tmp rfl .nil))) (mS .here rfl mN) ?_
  rw [eL35] at hL36
  exact ⟨_,[],State.zero,hd0,e36,⟨X21,er21,hA21,.inr ⟨by omega,L36,e36,hL36,.inl ⟨c2,rfl,rfl,rfl⟩⟩⟩,rfl,rfl,st_zero⟩
 have c2k:=c2
 try simp only [qcA,qcC,qcB] at c2
 refine .skip (.code (.seq (Wk.draw (mc:=⟨false,false⟩) [0,1,2,3,4] Fx.mix (by kernel_rfl) ?_)))
 refine mV rfl rfl (lA rfl .no Fx.ag33 (.u rfl) (fun _=>(hbb15.rdn (m:=14) (cs':=X21.cells hX21) (rfl)).rd) (fun _=>(by first|exact qE|exact qL|rfl)) ?_)
 refine aS rfl rfl (sw rfl (.u rfl) (.u rfl) rfl Fx.sz33 tk2 (by first|exact qE|exact qL|rfl) (State.one') ?_)
 refine aS rfl rfl (.nil (.code (.ret (We.fin Tryz.results11 (.tmp rfl (.cell rfl (fun w hw=>run_loadVarN Fx.ag33 (RdN.own .here) ((by first|exact qE|exact qL|rfl)) hw) (.tmp rfl .nil))) (mS tk2 rfl mN) ?_))))
 rw [eL35] at hL36
 exact ⟨v36,L36,X21,hX21,0,⟨X21,er21,hA21,.inr ⟨by omega,L36,e36,hL36,.inr ⟨by omega,rfl,rfl,rfl⟩⟩⟩,rfl,rfl,hR21⟩
end Go.Proofs.YtdeobooblmjlfaaGreatDoor
namespace Go.Tan
open Go.RowKit
theorem four (P Q R:Prop):P∨(¬P∧Q)∨(¬P∧¬Q∧R)∨(¬P∧¬Q∧¬R):=by by_cases h:P<;>by_cases k:Q<;>by_cases l:R<;>simp [h,k,l]
theorem LayR.fin {root:Nat→Y} {h:Hd} {n mark:BitVec 64} {s:State} {e:Edit} {L:List Y} {X:State} {r:Int} (h:LayR root h n mark s e L X r) (hw:e.wf):(∀ i,i<5→u64 (X.gens i))∧∀ i,i<5→(X.lv i).length≤100000000000:=by
 obtain ⟨X0,r0,ha,⟨_,_,rfl,_⟩ | ⟨_,L1,r1,_,⟨_,_,rfl,_⟩ | ⟨_,_,rfl,_⟩⟩⟩:=h
 ·exact ⟨StW.zero,fun _ _=>Nat.zero_le _⟩
 ·exact ⟨StW.zero,fun _ _=>Nat.zero_le _⟩
 ·exact ⟨ha.gens hw,fun i hi=>by have:=ha.len hi; omega⟩
end Go.Tan
namespace Go.Proofs.YtdeobooblmjlfaaGreatDoor
open Go.Tan Go.RowKit
namespace Fx
theorem go5:goFn Tryz.prog 5=true:=by kernel_rfl
theorem fo47_1:fOff Tryz.prog 47 1=some 1:=by kernel_rfl
theorem go9:goFn Tryz.prog 9=true:=by kernel_rfl
theorem fo42_0:fOff Tryz.prog 42 0=some 0:=by kernel_rfl
theorem fo42_1:fOff Tryz.prog 42 1=some 32:=by kernel_rfl
theorem fo47_0:fOff Tryz.prog 47 0=some 0:=by kernel_rfl
theorem go10:goFn Tryz.prog 10=true:=by kernel_rfl
theorem go11:goFn Tryz.prog 11=true:=by kernel_rfl
theorem go12:goFn Tryz.prog 12=true:=by kernel_rfl
end Fx
set_option maxHeartbeats 2000000 in
theorem ManifestLays_ok (root:Nat→Y) (h:Hd) (s:State) (hd:Nat→Sh) (a:MAct) (G:PM) (hs:StR G s hd) (hE:EdR G a.e a.ha a.he) (hK:RdNP G 1 0 (wa 64 kW)) (hR:RdNP G 0 0 (wa 64 kW)):Ct Tryz.prog 4 ([.agg (ba 32 root++[V h.kind,V h.level,uv .u64 h.gen,uv .u64 h.epoch,uv .u64 h.num]).toArray,s.val hd,.agg a.cells.toArray]:List Value).toArray G [] (fun _ μ' u=>μ'=[]∧u=.bool true):=by
 refine Ct.of Tryz.func4 rfl Tryz.ntmps4 rfl fun w0 hs0=>?_
 refine .seq (rq4 rfl rfl ?_)
 refine bx rfl (.u rfl) rfl ?_; intro b3
 refine bx rfl (.u rfl) rfl ?_; intro b4
 refine bx rfl (.u rfl) rfl ?_; intro b5
 refine aS rfl rfl (.nil (.code (.seq (rq2 rfl rfl (kv rfl .no Fx.go5 Evn (fun _=>shownE_ok _ hK) ?_)))))
 refine aS rfl rfl (.nil (.code (.seq (.seq (rq5 rfl rfl (lA rfl .no Fx.ag33 (.u rfl) (fun _=>RdN.own tk1) (fun _=>(by first|exact qE|exact qL|rfl)) ?_))))))
 refine fz rfl .no Fx.fo47_1 (.u rfl) (lA rfl .no Fx.ag45 (.u rfl) (fun _=>RdN.part (n:=11) (cs':=a.e.cells a.ha a.he) .here (rfl)) (fun _=>(by first|exact qE|exact qL|rfl)) ?_)
 refine kv rfl .no Fx.go9 (Evc rfl (Evc rfl Evn)) (fun _=>light19_ok s hd a.e a.ha a.he _) ?_
 refine nt rfl .no (.u rfl) (.nil (.code (.cond rfl (fun c1=>?_) (fun c1=>?_))))
 ·have c1k:=c1
  try simp only [qcA,qcC,qcB] at c1
  refine .seq (rq2 rfl rfl (mV rfl rfl (aS rfl rfl (.nil (.code (.ret (We.fin0 Tryz.results4 (.tmp rfl .nil) ?_)))))))
  exact ⟨rfl,rfl⟩
 have c1k:=c1
 try simp only [qcA,qcC,qcB] at c1
 refine .skip (.code (.seq (Wk.rg [0,1,2,3,4,5,6,7,8,9,10,11,12,13,14,15,16,17,18,19,20] rfl rfl (fz rfl .no Fx.fo42_0 (.u rfl) (lA rfl .no Fx.ag23 (.u rfl) (fun _=>RdN.part (n:=32) (cs':=ba 32 root) tk2 (app_l)) (fun _=>(ba_len _ _)) ?_)))))
 refine fz rfl .no Fx.fo42_1 (.u rfl) (lA rfl .no Fx.ag28 (.u rfl) (fun _=>RdN.part (n:=5) (cs':=[V h.kind,V h.level,uv .u64 h.gen,uv .u64 h.epoch,uv .u64 h.num]) tk2 (of_r rfl)) (fun _=>rfl) ?_)
 refine fz rfl .no Fx.fo47_0 (.u rfl) (ld rfl .no Fx.ag26 (.u rfl) (fun _=>Rd.own .here rfl) ?_)
 refine mw (k:=.u64) (b:=5#64) rfl .no (.u rfl) (.u rfl) (fun _=>(by decide:(5#64:BitVec 64)≠0#64)) ?_
 refine fz rfl .no Fx.fo47_0 (.u rfl) (ld rfl .no Fx.ag26 (.u rfl) (fun _=>Rd.own .here rfl) ?_)
 refine lA rfl .no Fx.ag33 (.u rfl) (fun _=>RdN.own tk1) (fun _=>(by first|exact qE|exact qL|rfl)) ?_
 refine fz rfl .no Fx.fo47_1 (.u rfl) (lA rfl .no Fx.ag45 (.u rfl) (fun _=>RdN.part (n:=11) (cs':=a.e.cells a.ha a.he) .here (rfl)) (fun _=>(by first|exact qE|exact qL|rfl)) ?_)
 refine kc rfl Fx.go10 (Evc rfl (Evc rfl (Evc rfl (Evc rfl (Evc rfl (Evc rfl Evn)))))) (mLay_ok root h _ a.mark s hd a.e a.ha a.he _ hs hE hK) ?_
 rintro _ G34 μ34 hG34 ⟨v34,L34,X34,hX34,r34,hL34,rfl,rfl,hRr34⟩
 have hs:=hs.mono hG34
 have hE:=hE.mono hG34
 have hR:=hR.mono hG34
 refine mV rfl rfl (ex rfl .no (.u rfl) rfl (ex rfl .no (.u rfl) rfl (ex rfl .no (.u rfl) rfl ?_)))
 refine al rfl Fx.zq33 ?_; intro b9
 refine aS rfl rfl (sw rfl (.u rfl) (.u rfl) rfl Fx.sz33 .here (by first|exact State.len|exact MAct.len _|rfl) (State.one') ?_)
 refine aS rfl rfl (.nil (.code (.seq (Wk.rg [0,1,2,3,4,5,6,7,8,9,10,11,12,13,14,15,16,17,18,19,20] rfl rfl (fz rfl .no Fx.fo42_0 (.u rfl) (lA rfl .no Fx.ag23 (.u rfl) (fun _=>RdN.part (n:=32) (cs':=ba 32 root) tk4 (app_l)) (fun _=>(ba_len _ _)) ?_))))))
 refine fz rfl .no Fx.fo42_1 (.u rfl) (lA rfl .no Fx.ag28 (.u rfl) (fun _=>RdN.part (n:=5) (cs':=[V h.kind,V h.level,uv .u64 h.gen,uv .u64 h.epoch,uv .u64 h.num]) tk4 (of_r rfl)) (fun _=>rfl) ?_)
 refine fz rfl .no Fx.fo47_0 (.u rfl) (ld rfl .no Fx.ag26 (.u rfl) (fun _=>Rd.own tk2 rfl) ?_)
 refine mw (k:=.u64) (b:=5#64) rfl .no (.u rfl) (.u rfl) (fun _=>(by decide:(5#64:BitVec 64)≠0#64)) ?_
 refine fz rfl .no Fx.fo47_0 (.u rfl) (ld rfl .no Fx.ag26 (.u rfl) (fun _=>Rd.own tk2 rfl) ?_)
 refine lA rfl .no Fx.ag33 (.u rfl) (fun _=>RdN.own tk3) (fun _=>(by first|exact qE|exact qL|rfl)) ?_
 refine fz rfl .no Fx.fo47_1 (.u rfl) (lA rfl .no Fx.ag45 (.u rfl) (fun _=>RdN.part (n:=11) (cs':=a.e.cells a.ha a.he) tk2 (rfl)) (fun _=>(by first|exact qE|exact qL|rfl)) ?_)
 refine kc rfl Fx.go11 (Evc rfl (Evc rfl (Evc rfl (Evc rfl (Evc rfl (Evc rfl Evn)))))) (r19Lay_ok root h _ a.mark s hd a.e a.ha a.he _ hs hE hR) ?_
 rintro _ G51 μ51 hG51 ⟨v51,L51,X51,hX51,r51,hL51,rfl,rfl,hRr51⟩
 have hE:=hE.mono hG51
 have hRr34:=hRr34.mono hG51
 refine mV rfl rfl (ex rfl .no (.u rfl) rfl (ex rfl .no (.u rfl) rfl (ex rfl .no (.u rfl) rfl ?_)))
 refine al rfl Fx.zq33 ?_; intro b12
 refine aS rfl rfl (sw rfl (.u rfl) (.u rfl) rfl Fx.sz33 .here (by first|exact State.len|exact MAct.len _|rfl) (State.one') ?_)
 refine aS rfl rfl (.nil ?_)
 have hq34:=hL34.fin hE.wf
 have hq51:=hL51.fin hE.wf
 obtain ⟨rfl,hXX,rfl⟩:=hL34.det hL51
 refine .code (.seq ?_)
 refine wk_fb tk3 (by first|(intro b hb; cases hb; done) | simp [keys,Res.keys]) ?_; intro GfR34 hR34 hleR34 evR34 hsR34; subst evR34
 have hRr34:=hRr34.mono hleR34
 have hRr51:=hRr51.mono hleR34
 refine wk_fb tk1 (by first|(intro b hb; cases hb; done) | simp [keys,Res.keys]) ?_; intro GfR51 hR51 hleR51 evR51 hsR51; subst evR51
 have hRr34:=hRr34.mono hleR51
 have hRr51:=hRr51.mono hleR51
 have hsR34:=hsR34.mono hleR51
 refine Wk.rg [0,1,2,3,4,5,6,7,8,9,10,11,12,13,14,15,16,17,18] rfl rfl (mV rfl rfl (mV rfl rfl (mv rfl (.t rfl rfl) (.u rfl) (sB rfl (.t rfl rfl) Fx.bs24_9 (.u rfl) (fun _=>hsR34.sc) ?_))))
 refine mv rfl (.t rfl rfl) (.u rfl) (sB rfl (.t rfl rfl) Fx.bs24_9 (.u rfl) (fun _=>hsR51.sc) ?_)
 refine cb rfl (.t rfl rfl) (.u rfl) (.u rfl) ?_
 refine wo_b true (by simp) ?_
 refine pkA rfl .no (.u rfl) (.u rfl) (mV rfl rfl (lA rfl (.t rfl rfl) Fx.ag33 (.u rfl) (fun _=>RdN.own tk1) (fun _=>(by first|exact qE|exact qL|rfl)) ?_))
 refine lA rfl (.t rfl rfl) Fx.ag33 (.u rfl) (fun _=>RdN.own .here) (fun _=>(by first|exact qE|exact qL|rfl)) ?_
 refine kv rfl (.t rfl rfl) Fx.go12 (Evc rfl (Evc rfl Evn)) (fun _=>sameS_ok X34 X51 hX34 hX51 _ hRr34 hRr51 hq34.1 hq51.1 hq34.2) ?_
 refine wo_b true (sameS_of hXX) ?_
 refine pkA rfl .no (.u rfl) (.u rfl) (mV rfl rfl (mv rfl (.t rfl rfl) (.u rfl) (mv rfl (.t rfl rfl) (.u rfl) (cp rfl (.t rfl rfl) (.u rfl) (.u rfl) rfl (wo_b true (beq_self_eq_true _) ?_)))))
 refine pkA rfl .no (.u rfl) (.u rfl) (aS rfl rfl (.nil (.code (.ret (We.fin0 Tryz.results4 (.tmp rfl .nil) ?_)))))
 exact ⟨rfl,rfl⟩
end Go.Proofs.YtdeobooblmjlfaaGreatDoor
