/- Lemmas and contracts of functions, joined. -/
import Derived.Test.YtdeobooblmjlfaaGreatDoorMb1
import Derived.ProofKit
import Derived.Lib.LaidTab
set_option linter.unusedSimpArgs false
set_option linter.unusedVariables false
set_option linter.unusedSectionVars false
namespace Go.Tan
open Go.RowKit
theorem one_app {xs ys:List Value} (h1:∀ u∈xs,u.oneCell'=true) (h2:∀ u∈ys,u.oneCell'=true):∀ u∈xs++ys,u.oneCell'=true:=by
 intro u hu; rcases List.mem_append.1 hu with h | h
 ·exact h1 u h
 ·exact h2 u h
theorem wap_at1 {n:Nat} {y:Nat→W} {r:List Value} {j:Int} {o:Nat} (a:Nat) (hj:o+j.toNat*1=a) (h:a<n):(wa n y++r)[o+j.toNat*1]? = some (U (y a)):=by
 rw [hj,List.getElem?_append_left (by rw [wa_len]; exact h)]; exact wa_at h
theorem wap_set1 {n:Nat} {y:Nat→W} {r:List Value} {j:Int} {z:W} {o:Nat} (a:Nat) (hj:o+j.toNat*1=a) (h:a<n):(wa n y++r).set (o+j.toNat*1) (U z)=wa n (upd y a z)++r:=by
 rw [hj,List.set_append_left _ _ (by rw [wa_len]; exact h)]; rw [wa_set]
theorem wap_f {n o:Nat} {y:Nat→W} {r:List Value} {v:Option Value} (h:r[o-n]? = v) (hn:n≤o:=by decide):(wa n y++r)[o]? = v:=by
 rw [List.getElem?_append_right (by rw [wa_len]; exact hn),wa_len]; exact h
theorem wap_s {n o:Nat} {y:Nat→W} {r r':List Value} {v:Value} (h:r.set (o-n) v=r') (hn:n≤o:=by decide):(wa n y++r).set o v=wa n y++r':=by
 rw [List.set_append_right _ _ (by rw [wa_len]; exact hn),wa_len,h]
theorem map_at1 {xs:List Y} {j:Int} {o:Nat} (a:Nat) (hj:o+j.toNat*1=a) (h:a<xs.length):(xs.map V)[o+j.toNat*1]? = some (V (xs.getD a 0)):=by
 rw [hj]; simp [h]
theorem wa_congr {n:Nat} {f f':Nat→W} (h:∀ i,i<n→f i=f' i):wa n f=wa n f':=by
 unfold wa
 refine List.map_congr_left fun i hi=>?_
 rw [h i (List.mem_range.1 hi)]
def rotr (x:W) (k:Nat):W:=x <<< (32-k) ||| x >>> k
theorem rotI_neg {x:W} {k:Nat} (h:k∈[2,6,7,11,13,17,18,19,22,25]):rotI x (-(k:Int))=rotr x k:=by
 simp only [List.mem_cons,List.not_mem_nil,or_false] at h
 rcases h with rfl|rfl|rfl|rfl|rfl|rfl|rfl|rfl|rfl|rfl<;>rfl
def kL:List W:=[0x428a2f98,0x71374491,0xb5c0fbcf,0xe9b5dba5,0x3956c25b,0x59f111f1,0x923f82a4,0xab1c5ed5,0xd807aa98,0x12835b01,0x243185be,0x550c7dc3,0x72be5d74,0x80deb1fe,0x9bdc06a7,0xc19bf174,0xe49b69c1,0xefbe4786,0x0fc19dc6,0x240ca1cc,0x2de92c6f,0x4a7484aa,0x5cb0a9dc,0x76f988da,0x983e5152,0xa831c66d,0xb00327c8,0xbf597fc7,0xc6e00bf3,0xd5a79147,0x06ca6351,0x14292967,0x27b70a85,0x2e1b2138,0x4d2c6dfc,0x53380d13,0x650a7354,0x766a0abb,0x81c2c92e,0x92722c85,0xa2bfe8a1,0xa81a664b,0xc24b8b70,0xc76c51a3,0xd192e819,0xd6990624,0xf40e3585,0x106aa070,0x19a4c116,0x1e376c08,0x2748774c,0x34b0bcb5,0x391c0cb3,0x4ed8aa4a,0x5b9cca4f,0x682e6ff3,0x748f82ee,0x78a5636f,0x84c87814,0x8cc70208,0x90befffa,0xa4506ceb,0xbef9a3f7,0xc67178f2]
def kW:Nat→W:=fun i=>kL.getD i 0
def ivL:List W:=[1779033703,3144134277,1013904242,2773480762,1359893119,2600822924,528734635,1541459225]
def ivW:Nat→W:=fun i=>ivL.getD i 0
def beW (b:Nat→Y) (i:Nat):W:=(b i).setWidth 32 <<< 24 ||| (b (i+1)).setWidth 32 <<< 16 ||| (b (i+2)).setWidth 32 <<< 8 ||| (b (i+3)).setWidth 32
def shB (f:Nat→Y) (i:Nat):Nat→W
 | 0=>0#32
 | c+1=>shB f i c <<< 8 ||| (f (4*i+c)).setWidth 32
theorem shB_four (f:Nat→Y) (i:Nat):shB f i 4=beW f (4*i):=by
 simp only [shB,beW,BitVec.shiftLeft_or_distrib,←BitVec.shiftLeft_add,Nat.add_zero]
 simp [BitVec.shiftLeft_or_distrib,←BitVec.shiftLeft_add,BitVec.or_assoc]
def s0W (x:W):W:=rotr x 7 ^^^ rotr x 18 ^^^ x >>> 3
def s1W (x:W):W:=rotr x 17 ^^^ rotr x 19 ^^^ x >>> 10
def w16 (b:Nat→Y):Nat→Nat→W
 | 0=>fun _=>0#32
 | k+1=>upd (w16 b k) k (beW b (4*k))
def sched (b:Nat→Y):Nat→Nat→W
 | 0=>w16 b 16
 | k+1=>upd (sched b k) (16+k) (sched b k k+sched b k (9+k)+s0W (sched b k (1+k))+s1W (sched b k (14+k)))
def chW (e f g:W):W:=g ^^^ (e &&& (f ^^^ g))
def majW (a b c:W):W:=a &&& b ||| c &&& (a ||| b)
theorem ch_eq (e f g:W):(e &&& f) ^^^ (~~~e &&& g)=chW e f g:=by
 unfold chW
 apply BitVec.eq_of_getLsbD_eq
 intro i hi
 simp only [BitVec.getLsbD_xor,BitVec.getLsbD_and,BitVec.getLsbD_not,hi,decide_true,Bool.true_and]
 cases e.getLsbD i<;>cases f.getLsbD i<;>cases g.getLsbD i<;>rfl
theorem maj_eq (a b c:W):(a &&& b) ^^^ (a &&& c) ^^^ (b &&& c)=majW a b c:=by
 unfold majW
 apply BitVec.eq_of_getLsbD_eq
 intro i hi
 simp only [BitVec.getLsbD_xor,BitVec.getLsbD_and,BitVec.getLsbD_or]
 cases a.getLsbD i<;>cases b.getLsbD i<;>cases c.getLsbD i<;>rfl
def tW (x:Nat→W) (k w:W):W:=x 7+(rotr (x 4) 6 ^^^ rotr (x 4) 11 ^^^ rotr (x 4) 25)+chW (x 4) (x 5) (x 6)+k+w
def uW (x:Nat→W):W:=(rotr (x 0) 2 ^^^ rotr (x 0) 13 ^^^ rotr (x 0) 22)+majW (x 0) (x 1) (x 2)
def rndW (x:Nat→W) (k w:W):Nat→W:=fun i=>match i with
 | 0=>tW x k w+uW x | 1=>x 0 | 2=>x 1 | 3=>x 2 | 4=>x 3+tW x k w | 5=>x 4 | 6=>x 5 | _=>x 6
def rnds (w s:Nat→W):Nat→Nat→W
 | 0=>s
 | k+1=>rndW (rnds w s k) (kW k) (w k)
def shaC (s:Nat→W) (b:Nat→Y):Nat→W:=fun i=>s i+rnds (sched b 48) s 64 i
def blkF (xs:List Y) (k:Nat):Nat→Y:=fun i=>xs.getD (64*k+i) 0
def shaW (xs:List Y):Nat→Nat→W
 | 0=>ivW
 | k+1=>shaC (shaW xs k) (blkF xs k)
theorem w16_congr {b b':Nat→Y} (h:∀ i,i<64→b i=b' i):∀ k,k≤16→w16 b k=w16 b' k
 | 0,_=>rfl
 | k+1,hk=>by
  rw [w16,w16,w16_congr h k (by omega)]
  unfold beW
  rw [h _ (by omega),h _ (by omega),h _ (by omega),h _ (by omega)]
theorem sched_congr {b b':Nat→Y} (h:∀ i,i<64→b i=b' i):∀ k,sched b k=sched b' k
 | 0=>w16_congr h 16 (by omega)
 | k+1=>by rw [sched,sched,sched_congr h k]
theorem shaC_congr {s:Nat→W} {b b':Nat→Y} (h:∀ i,i<64→b i=b' i):shaC s b=shaC s b':=by
 unfold shaC; rw [sched_congr h]
theorem shaW_congr {xs ys:List Y} {k:Nat} (h:∀ i,i<64*k→xs.getD i 0=ys.getD i 0):shaW xs k=shaW ys k:=by
 induction k with
 | zero=>rfl
 | succ k ih =>
  rw [shaW,shaW,ih (fun i hi=>h i (by omega))]
  exact shaC_congr fun i hi=>h _ (by omega)
theorem shaW_app {xs ys:List Y} {k:Nat} (h:64*k≤xs.length):shaW (xs++ys) k=shaW xs k :=
 shaW_congr fun i hi=>by simp [List.getD_eq_getElem?_getD,List.getElem?_append_left (show i<xs.length by omega)]
def zeros (n:Nat):Nat:=(119-n%64)%64
def len64 (n:Nat):BitVec 64:=BitVec.ofInt 64 (n:Int)*8#64
def lenF (n:Nat) (j:Nat):Y:=(len64 n >>> (56-8*j)).setWidth 8
def lenB (n j:Nat):List Y:=(List.range j).map (lenF n)
def tailL (n:Nat):List Y:=128#8 :: List.replicate (zeros n) 0#8++lenB n 8
def padL (xs:List Y):List Y:=xs++tailL xs.length
theorem lenB_len (n j:Nat):(lenB n j).length=j:=by simp [lenB]
theorem lenB_snoc (n j:Nat):lenB n (j+1)=lenB n j++[lenF n j]:=by simp [lenB,List.range_succ]
theorem tail_len (n:Nat):(tailL n).length=zeros n+9:=by simp [tailL,lenB_len]
theorem pad_len (xs:List Y):(padL xs).length%64=0:=by
 have:zeros xs.length=(119-xs.length%64)%64:=rfl
 simp only [padL,List.length_append,tail_len]; omega
def shaD (xs:List Y):Nat→Y:=fun i=>((shaW (padL xs) ((padL xs).length / 64) (i / 4)) >>> (24-8*(i%4))).setWidth 8
def shaL (xs:List Y):List Y:=yl 32 (shaD xs)
def stC (xs:List Y) (vp:Value):List Value:=wa 8 (shaW xs (xs.length / 64))++[vp,.int .i64 (xs.length:Int)]
def restL (xs:List Y):List Y:=xs.drop (64*(xs.length / 64))
theorem rest_len (xs:List Y):(restL xs).length=xs.length%64:=by simp [restL]; omega
theorem w16_ge (b:Nat→Y):∀ (k j:Nat),k≤j→w16 b k j=0#32
 | 0,_,_=>rfl
 | k+1,j,h=>by rw [w16,upd,if_neg (by omega)]; exact w16_ge b k j (by omega)
theorem upd_w16 (b:Nat→Y) {k j:Nat} (h:k≤j):upd (w16 b k) j 0#32=w16 b k:=by
 have:=upd_self (w16 b k) j
 rwa [w16_ge b k j h] at this
theorem getD_part {xs:List Y} {lo m c:Nat} (h:c<m):((xs.drop lo).take m).getD c 0=xs.getD (lo+c) 0:=by
 simp [List.getD_eq_getElem?_getD,List.getElem?_take,h,List.getElem?_drop]
theorem upd_if {s x:Nat→W} {k:Nat}:upd (fun i=>if i<k then s i+x i else s i) k ((if k<k then s k+x k else s k)+x k)=fun i=>if i<k+1 then s i+x i else s i:=by
 funext i
 unfold upd
 by_cases h:i=k
 ·subst h; simp
 ·rw [if_neg h]
  by_cases h2:i<k
  ·simp [h2,show i<k+1 by omega]
  ·simp [h2,show ¬ i<k+1 by omega]
end Go.Tan
namespace Go.Proofs.YtdeobooblmjlfaaGreatDoor
open Go.Tan Go.RowKit
namespace Fx
theorem zq202:zrL Tryz.prog 202=some (wa 64 (fun _=>0#32)):=by kernel_rfl
theorem ar202:arE Tryz.prog 202=some (64,130,1):=by kernel_rfl
theorem go150:goFn Tryz.prog 150=true:=by kernel_rfl
theorem fo181_0:fOff Tryz.prog 181 0=some 0:=by kernel_rfl
theorem ar179:arE Tryz.prog 179=some (8,130,1):=by kernel_rfl
theorem bp179_0_1_2_3_4_5_6_7:bPl Tryz.prog 179 [0,1,2,3,4,5,6,7]=some ([.int .u32 0,.int .u32 0,.int .u32 0,.int .u32 0,.int .u32 0,.int .u32 0,.int .u32 0,.int .u32 0],[(0,1),(1,1),(2,1),(3,1),(4,1),(5,1),(6,1),(7,1)]):=by kernel_rfl
end Fx
theorem right_ok (x:W) (k:Nat) (G:PM) (hk:k∈[2,6,7,11,13,17,18,19,22,25]):Ct Tryz.prog 150 ([U x,.int .i64 (k:Int)]:List Value).toArray G [] (fun _ μ' u=>μ'=[]∧u=U (rotr x k)):=by
 refine Ct.of Tryz.func150 rfl Tryz.ntmps150 rfl fun w0 hs0=>?_
 have hk2:k≤31:=by simp only [List.mem_cons,List.not_mem_nil,or_false] at hk; omega
 refine .seq (rq1 rfl rfl (aS rfl rfl (.nil (.code (.seq (rq5 rfl rfl (mV rfl rfl (mV rfl rfl (ng rfl .no (.u rfl) (fun _=>wrap_i64 (by omega) (by omega)) ?_)))))))))
 refine kv rfl .no Fx.go109 (Evc rfl (Evc rfl Evn)) (fun _=>rot_ok _ _ _) ?_
 refine aS rfl rfl (.nil (.code (.ret (We.fin0 Tryz.results150 (.tmp rfl .nil) ?_))))
 exact ⟨rfl,by rw [← rotI_neg hk]; rfl⟩
set_option maxHeartbeats 1000000 in
theorem block_ok (s:Nat→W) (xs:List Y) (h:Sh) (vp nn:Value) (bs:Nat) (G:PM) (hs:SlR G 1 encY h xs) (hK:RdNP G 1 0 (wa 64 kW)) (hl:64≤xs.length):Ct Tryz.prog 140 ([.pointer (some ⟨bs,0,none⟩),h.val xs.length]:List Value).toArray G [.blk bs (cl (wa 8 s++[vp,nn]) 181)] (fun _ μ' u=>μ'=[.blk bs (cl (wa 8 (shaC s (fun i=>xs.getD i 0))++[vp,nn]) 181)]∧u=.tuple #[]):=by
 refine Ct.of Tryz.func140 rfl Tryz.ntmps140 rfl fun w0 hs0=>?_
 refine .seq (rq1 rfl rfl ?_)
 refine al rfl Fx.zq202 ?_; intro b4
 refine .nil (.code (.seq (.seq (rq1 rfl rfl (mV rfl rfl (.nil (.code (.block ?_))))))))
 refine Wk.lop (α:=Nat×(Nat→W)) (fun gh=>[(24,true,.int .i64 (gh.1:Int))]) (fun gh=>[.blk b4 (cl (wa 64 gh.2) 202)])
  (fun gh Gl=>(gh.1≤16)∧(gh.2=w16 (fun i=>xs.getD i 0) gh.1)) (fun gh=>16-gh.1) (0,fun _=>0#32) [(0,true,_),(1,true,_),(4,true,_)] [_]
  (esC rfl (by first|rfl|exact evi (by omega)) (esD rfl (esD rfl (esD rfl eZ))))
  (mS .here rfl (mS .here rfl mN)) ?_ ?_
 ·refine ⟨?_,?_⟩
  ·(try dsimp only)<;>(first|omega|rfl|assumption|(simp; done))
  (try dsimp only)<;>(first|omega|rfl|assumption|(simp; done))
 intro gh N0 Gl0 hN0 hGl0 hF0
 obtain ⟨k,y⟩:=gh; dsimp only at hF0 hN0 ⊢
 obtain ⟨hk,ey⟩:=hF0
 have hs:=hs.mono hGl0
 have hK:=hK.mono hGl0
 refine .seq (rq1 rfl rfl (cp rfl .no (.u rfl) (.u rfl) rfl (.nil (.code (.seq (.cond rfl (fun c1=>?_) (fun c1=>?_)))))))
 ·have c1k:=c1
  try simp only [qcA,qcB] at c1
  refine .skip (.code (.seq (.block (.seq (rq2 rfl rfl (mV rfl rfl (aS rfl rfl (.nil (.code (.seq (rq9 rfl rfl (mV rfl rfl (mV rfl rfl (arn (((4*k):Nat):Int) rfl .no (.u rfl) (.u rfl) rfl (fun _=>by omega) (fun _=>wrap_i64 (by omega) (by omega)) ?_))))))))))))))
  refine mV rfl rfl (arn (((4*k):Nat):Int) rfl .no (.u rfl) (.u rfl) rfl (fun _=>by omega) (fun _=>wrap_i64 (by omega) (by omega)) ?_)
  refine arn ((((4*k)+4):Nat):Int) rfl .no (.u rfl) (.u rfl) rfl (fun _=>by omega) (fun _=>wrap_i64 (by omega) (by omega)) ?_
  refine kS ((4*k)) (((4*k)+4)) rfl .no Fx.se24 hs (.u rfl) (.u rfl) (.u rfl) (fun _=>by omega) (fun _=>by omega) (fun _=>by omega) (fun _=>by omega) ?_
  intro h33 L33 eL33 lL33 hs33
  have lL33:=lL33 rfl
  refine ln rfl .no Fx.sn24 (.u rfl) (mV rfl rfl (.nil (.code (.block ?_))))
  refine Wk.lop (α:=Nat×(Nat→W)) (fun gh=>[(35,true,.int .i64 (gh.1:Int))]) (fun gh=>[.blk b4 (cl (wa 64 gh.2) 202)])
   (fun gh Gl=>(gh.1≤4)∧(gh.2=upd y k (shB (fun i=>xs.getD i 0) k gh.1))) (fun gh=>4-gh.1) (0,y) [(0,true,_),(1,true,_),(4,true,_),(5,true,_),(24,true,_),(33,true,_),(34,true,_)] [_]
   (esC rfl (by first|rfl|exact evi (by omega)) (esD rfl (esD rfl (esD rfl (esD rfl (esD rfl (esD rfl (esD rfl eZ))))))))
   (mS .here rfl (mS .here rfl mN)) ?_ ?_
  ·refine ⟨?_,?_⟩
   ·(try dsimp only)<;>(first|omega|rfl|assumption|(simp; done))
   (try dsimp only)<;>(rw [ey]; exact (upd_w16 _ (Nat.le_refl k)).symm)
  intro gh N1 Gl1 hN1 hGl1 hF1
  obtain ⟨c,y2⟩:=gh; dsimp only at hF1 hN1 ⊢
  obtain ⟨hc,ey2⟩:=hF1
  have hK:=hK.mono hGl1
  have hs33:=hs33.mono hGl1
  refine .seq (rq1 rfl rfl (cp rfl .no (.u rfl) (.u rfl) rfl (.nil (.code (.seq (.cond rfl (fun c2=>?_) (fun c2=>?_)))))))
  ·have c2k:=c2
   try simp only [qcA,qcB] at c2
   refine .skip (.code (.seq (.block (.seq (rq3 rfl rfl (ih rfl .no Fx.se24 (.u rfl) (.u rfl) (fun _=>by omega) (fun _=>by omega) (fun _=>hs33.nn (k:=c) (by omega)) ?_))))))
   refine ld rfl .no Fx.ag5 (.u rfl) (fun _=>(hs33.yat (c) (by omega) (by omega)).rd) ?_
   refine aS rfl rfl (.nil (.code (rq10 rfl rfl (mV rfl rfl (mV rfl rfl (iA rfl .no Fx.ar202 (.u rfl) (.u rfl) (fun _=>by omega) (fun _=>by omega) ?_))))))
   refine ld rfl .no Fx.ag130 (.u rfl) (fun _=>Rd.own .here (by first|exact wa_at1 (k) (by omega) (by omega)|exact ba_at1 (k) (by omega) (by omega)|exact wap_at1 (k) (by omega) (by omega)|rfl)) ?_
   refine lw (k:=.u32) rfl .no rfl (.u rfl) (.u rfl) (fun _=>by decide) ?_
   refine mV rfl rfl (cu (k:=.u8) rfl .no rfl Fx.cv5_130 (.u rfl) ?_)
   refine bw (k:=.u32) rfl .no rfl (.u rfl) (.u rfl) rfl (iA rfl .no Fx.ar202 (.u rfl) (.u rfl) (fun _=>by omega) (fun _=>by omega) ?_)
   refine s1 rfl (.u rfl) (.u rfl) rfl Fx.sz130 .here (by first|decide|(simp only [wa_len,ba_len,qlA]; omega)) (by first|exact wa_set1 (k) (by omega)|exact ba_set1 (k) (by omega)|exact wap_set1 (k) (by omega) (by omega)|rfl) ?_
   refine .nil (.blk (.code (rq2 rfl rfl (arn (((c+1):Nat):Int) rfl .no (.u rfl) (.u rfl) rfl (fun _=>by omega) (fun _=>wrap_i64 (by omega) (by omega)) ?_))))
   refine mV rfl rfl (.nil (We.lpo (c+1,upd y2 k (y2 k <<< Int.toNat 8 ||| BitVec.setWidth 32 (L33.getD c 0))) ?_ ?_ ?_ ?_ ?_))
   ·exact (esC rfl (by first|rfl|exact evi (by omega)) (esD rfl (esD rfl (esD rfl (esD rfl (esD rfl (esD rfl (esD rfl eZ))))))))
   ·exact (mS .here rfl (mS .here rfl mN))
   ·first|omega|(dsimp only; omega)
   ·exact hGl1
   refine ⟨?_,?_⟩
   ·(try dsimp only)<;>(first|omega|rfl|assumption|(simp; done))
   (try dsimp only)<;>(rw [ey2,upd_at,upd_upd,shB,eL33,getD_part (by omega)]; rfl)
  have c2k:=c2
  try simp only [qcA,qcB] at c2
  refine .exit (.xcode (.xlp (.xblk (.blk (.code (rq2 rfl rfl (arn (((k+1):Nat):Int) rfl .no (.u rfl) (.u rfl) rfl (fun _=>by omega) (fun _=>wrap_i64 (by omega) (by omega)) ?_)))))))
  refine mV rfl rfl (.nil (We.lpo (k+1,y2) ?_ ?_ ?_ ?_ ?_))
  ·exact (esC rfl (by first|rfl|exact evi (by omega)) (esD rfl (esD rfl (esD rfl eZ))))
  ·exact (mS .here rfl (mS .here rfl mN))
  ·first|omega|(dsimp only; omega)
  ·exact (hGl0).trans hGl1
  refine ⟨?_,?_⟩
  ·(try dsimp only)<;>(first|omega|rfl|assumption|(simp; done))
  (try dsimp only)<;>(obtain rfl:c=4:=(by omega); rw [ey2,ey,shB_four]; rfl)
 have c1k:=c1
 try simp only [qcA,qcB] at c1
 refine .exit (.xcode (.xlp (.xblk (.code (.seq (.seq ?_))))))
 obtain rfl:k=16:=by omega
 refine rq1 rfl rfl (aS rfl rfl (.nil (.code (.block ?_))))
 refine Wk.lop (α:=Nat×(Nat→W)) (fun gh=>[(8,true,.int .i64 ((16+gh.1:Nat):Int))]) (fun gh=>[.blk b4 (cl (wa 64 gh.2) 202)])
  (fun gh Gl=>(gh.1≤48)∧(gh.2=sched (fun i=>xs.getD i 0) gh.1)) (fun gh=>48-gh.1) (0,_) [(0,true,_),(4,true,_)] [_]
  (esC rfl (by first|rfl|exact evi (by omega)) (esD rfl (esD rfl eZ)))
  (mS .here rfl (mS .here rfl mN)) ?_ ?_
 ·refine ⟨?_,?_⟩
  ·(try dsimp only)<;>(first|omega|rfl|assumption|(simp; done))
  (try dsimp only)<;>(first|omega|rfl|assumption|(simp; done))
 intro gh N2 Gl2 hN2 hGl2 hF2
 obtain ⟨k1,y⟩:=gh; dsimp only at hF2 hN2 ⊢
 obtain ⟨hk1,ey⟩:=hF2
 have hK:=hK.mono hGl2
 refine .seq (.seq (rq2 rfl rfl (mV rfl rfl (cp rfl .no (.u rfl) (.u rfl) rfl (.nil (.code (.cond rfl (fun c3=>?_) (fun c3=>?_))))))))
 ·have c3k:=c3
  try simp only [qcA,qcB] at c3
  refine .skip (.code (.seq (.block (.seq (Wk.draw (mc:=⟨false,false⟩) [0,1,2,3,4,5,6,7,8,9] Fx.mix (by kernel_rfl) ?_)))))
  refine mV rfl rfl (arn (((1+k1):Nat):Int) rfl .no (.u rfl) (.u rfl) rfl (fun _=>by omega) (fun _=>wrap_i64 (by omega) (by omega)) ?_)
  refine iA rfl .no Fx.ar202 (.u rfl) (.u rfl) (fun _=>by omega) (fun _=>by omega) ?_
  refine ld rfl .no Fx.ag130 (.u rfl) (fun _=>Rd.own .here (by first|exact wa_at1 ((1+k1)) (by omega) (by omega)|exact ba_at1 ((1+k1)) (by omega) (by omega)|exact wap_at1 ((1+k1)) (by omega) (by omega)|rfl)) ?_
  refine mV rfl rfl (arn (((14+k1):Nat):Int) rfl .no (.u rfl) (.u rfl) rfl (fun _=>by omega) (fun _=>wrap_i64 (by omega) (by omega)) ?_)
  refine iA rfl .no Fx.ar202 (.u rfl) (.u rfl) (fun _=>by omega) (fun _=>by omega) ?_
  refine ld rfl .no Fx.ag130 (.u rfl) (fun _=>Rd.own .here (by first|exact wa_at1 ((14+k1)) (by omega) (by omega)|exact ba_at1 ((14+k1)) (by omega) (by omega)|exact wap_at1 ((14+k1)) (by omega) (by omega)|rfl)) ?_
  refine aS rfl rfl (aS rfl rfl (.nil (.code (Wk.draw (mc:=⟨false,false⟩) [0,1,2,3,4,5,6,7,8,9,10,12,15,16,19,21,24,25,11,13,14,17,18,20,22,23,26,27,28,29] Fx.mix (by kernel_rfl) ?_))))
  refine mV rfl rfl (mV rfl rfl (arn ((k1:Nat):Int) rfl .no (.u rfl) (.u rfl) rfl (fun _=>by omega) (fun _=>wrap_i64 (by omega) (by omega)) ?_))
  refine iA rfl .no Fx.ar202 (.u rfl) (.u rfl) (fun _=>by omega) (fun _=>by omega) ?_
  refine ld rfl .no Fx.ag130 (.u rfl) (fun _=>Rd.own .here (by first|exact wa_at1 (k1) (by omega) (by omega)|exact ba_at1 (k1) (by omega) (by omega)|exact wap_at1 (k1) (by omega) (by omega)|rfl)) ?_
  refine mV rfl rfl (arn (((9+k1):Nat):Int) rfl .no (.u rfl) (.u rfl) rfl (fun _=>by omega) (fun _=>wrap_i64 (by omega) (by omega)) ?_)
  refine iA rfl .no Fx.ar202 (.u rfl) (.u rfl) (fun _=>by omega) (fun _=>by omega) ?_
  refine ld rfl .no Fx.ag130 (.u rfl) (fun _=>Rd.own .here (by first|exact wa_at1 ((9+k1)) (by omega) (by omega)|exact ba_at1 ((9+k1)) (by omega) (by omega)|exact wap_at1 ((9+k1)) (by omega) (by omega)|rfl)) ?_
  refine bw (k:=.u32) rfl .no rfl (.u rfl) (.u rfl) rfl (mV rfl rfl (mV rfl rfl (mV rfl rfl (rw' (k:=.u32) rfl .no (.u rfl) (.u rfl) (fun _=>by decide) ?_))))
  refine mV rfl rfl (mV rfl rfl (mV rfl rfl (rw' (k:=.u32) rfl .no (.u rfl) (.u rfl) (fun _=>by decide) ?_)))
  refine kv rfl .no Fx.go150 (Evc rfl (Evc rfl Evn)) (fun _=>right_ok _ 7 _ (by decide)) ?_
  refine kv rfl .no Fx.go150 (Evc rfl (Evc rfl Evn)) (fun _=>right_ok _ 18 _ (by decide)) ?_
  refine bw (k:=.u32) rfl .no rfl (.u rfl) (.u rfl) rfl (bw (k:=.u32) rfl .no rfl (.u rfl) (.u rfl) rfl (bw (k:=.u32) rfl .no rfl (.u rfl) (.u rfl) rfl (kv rfl .no Fx.go150 (Evc rfl (Evc rfl Evn)) (fun _=>right_ok _ 17 _ (by decide)) ?_)))
  refine kv rfl .no Fx.go150 (Evc rfl (Evc rfl Evn)) (fun _=>right_ok _ 19 _ (by decide)) ?_
  refine bw (k:=.u32) rfl .no rfl (.u rfl) (.u rfl) rfl (bw (k:=.u32) rfl .no rfl (.u rfl) (.u rfl) rfl (bw (k:=.u32) rfl .no rfl (.u rfl) (.u rfl) rfl (iA rfl .no Fx.ar202 (.u rfl) (.u rfl) (fun _=>by omega) (fun _=>by omega) ?_)))
  refine s1 rfl (.u rfl) (.u rfl) rfl Fx.sz130 .here (by first|decide|(simp only [wa_len,ba_len,qlA]; omega)) (by first|exact wa_set1 (((16+k1:Nat))) (by omega)|exact ba_set1 (((16+k1:Nat))) (by omega)|exact wap_set1 (((16+k1:Nat))) (by omega) (by omega)|rfl) ?_
  refine .nil (.blk (.code (rq3 rfl rfl (mV rfl rfl (arn (((((16+k1:Nat))+1):Nat):Int) rfl .no (.u rfl) (.u rfl) rfl (fun _=>by omega) (fun _=>wrap_i64 (by omega) (by omega)) ?_)))))
  refine aS rfl rfl (.nil (We.lpo (k1+1,_) (esC rfl (by first|rfl|exact evi (by omega)) (esD rfl (esD rfl eZ))) (mS .here rfl (mS .here rfl mN)) ?_ ?_ ?_))
  ·first|omega|(dsimp only; omega)
  ·exact hGl2
  refine ⟨?_,?_⟩
  ·(try dsimp only)<;>(first|omega|rfl|assumption|(simp; done))
  (try dsimp only)<;>(rw [ey]; rfl)
 have c3k:=c3
 try simp only [qcA,qcB] at c3
 refine .exit (.xcode (.xlp (.xblk (.code (.seq ?_)))))
 obtain rfl:k1=48:=by omega
 refine Wk.draw (mc:=⟨false,false⟩) [0,1,2,3,4,5,6,7,8,9,10,11,12,13,14,15,16,17,18,19,20,21,22,23,24,25,26,27,28,29,30,31,32,33,34,35,36,37,38,39,40,41,42,43,44,45,46,47] Fx.mix (by kernel_rfl) ?_
 refine mV rfl rfl (nc rfl .no (.u rfl) (fz rfl .no Fx.fo181_0 (.u rfl) (iA rfl .no Fx.ar179 (.u rfl) (.u rfl) (fun _=>by decide) (fun _=>by decide) ?_)))
 refine ld rfl .no Fx.ag130 (.u rfl) (fun _=>Rd.own tk1 (by first|exact wa_at1 (0) (by omega) (by omega)|exact ba_at1 (0) (by omega) (by omega)|exact wap_at1 (0) (by omega) (by omega)|rfl)) ?_
 refine mV rfl rfl (nc rfl .no (.u rfl) (fz rfl .no Fx.fo181_0 (.u rfl) (iA rfl .no Fx.ar179 (.u rfl) (.u rfl) (fun _=>by decide) (fun _=>by decide) ?_)))
 refine ld rfl .no Fx.ag130 (.u rfl) (fun _=>Rd.own tk1 (by first|exact wa_at1 (1) (by omega) (by omega)|exact ba_at1 (1) (by omega) (by omega)|exact wap_at1 (1) (by omega) (by omega)|rfl)) ?_
 refine mV rfl rfl (nc rfl .no (.u rfl) (fz rfl .no Fx.fo181_0 (.u rfl) (iA rfl .no Fx.ar179 (.u rfl) (.u rfl) (fun _=>by decide) (fun _=>by decide) ?_)))
 refine ld rfl .no Fx.ag130 (.u rfl) (fun _=>Rd.own tk1 (by first|exact wa_at1 (2) (by omega) (by omega)|exact ba_at1 (2) (by omega) (by omega)|exact wap_at1 (2) (by omega) (by omega)|rfl)) ?_
 refine mV rfl rfl (nc rfl .no (.u rfl) (fz rfl .no Fx.fo181_0 (.u rfl) (iA rfl .no Fx.ar179 (.u rfl) (.u rfl) (fun _=>by decide) (fun _=>by decide) ?_)))
 refine ld rfl .no Fx.ag130 (.u rfl) (fun _=>Rd.own tk1 (by first|exact wa_at1 (3) (by omega) (by omega)|exact ba_at1 (3) (by omega) (by omega)|exact wap_at1 (3) (by omega) (by omega)|rfl)) ?_
 refine mV rfl rfl (nc rfl .no (.u rfl) (fz rfl .no Fx.fo181_0 (.u rfl) (iA rfl .no Fx.ar179 (.u rfl) (.u rfl) (fun _=>by decide) (fun _=>by decide) ?_)))
 refine ld rfl .no Fx.ag130 (.u rfl) (fun _=>Rd.own tk1 (by first|exact wa_at1 (4) (by omega) (by omega)|exact ba_at1 (4) (by omega) (by omega)|exact wap_at1 (4) (by omega) (by omega)|rfl)) ?_
 refine mV rfl rfl (nc rfl .no (.u rfl) (fz rfl .no Fx.fo181_0 (.u rfl) (iA rfl .no Fx.ar179 (.u rfl) (.u rfl) (fun _=>by decide) (fun _=>by decide) ?_)))
 refine ld rfl .no Fx.ag130 (.u rfl) (fun _=>Rd.own tk1 (by first|exact wa_at1 (5) (by omega) (by omega)|exact ba_at1 (5) (by omega) (by omega)|exact wap_at1 (5) (by omega) (by omega)|rfl)) ?_
 refine mV rfl rfl (nc rfl .no (.u rfl) (fz rfl .no Fx.fo181_0 (.u rfl) (iA rfl .no Fx.ar179 (.u rfl) (.u rfl) (fun _=>by decide) (fun _=>by decide) ?_)))
 refine ld rfl .no Fx.ag130 (.u rfl) (fun _=>Rd.own tk1 (by first|exact wa_at1 (6) (by omega) (by omega)|exact ba_at1 (6) (by omega) (by omega)|exact wap_at1 (6) (by omega) (by omega)|rfl)) ?_
 refine mV rfl rfl (nc rfl .no (.u rfl) (fz rfl .no Fx.fo181_0 (.u rfl) (iA rfl .no Fx.ar179 (.u rfl) (.u rfl) (fun _=>by decide) (fun _=>by decide) ?_)))
 refine ld rfl .no Fx.ag130 (.u rfl) (fun _=>Rd.own tk1 (by first|exact wa_at1 (7) (by omega) (by omega)|exact ba_at1 (7) (by omega) (by omega)|exact wap_at1 (7) (by omega) (by omega)|rfl)) ?_
 refine aS rfl rfl (aS rfl rfl (aS rfl rfl (aS rfl rfl (aS rfl rfl (aS rfl rfl (aS rfl rfl (aS rfl rfl (.nil (.code (.seq (.seq (rq1 rfl rfl (mV rfl rfl (.nil (.code (.block ?_))))))))))))))))
 refine Wk.lop (α:=Nat×(Nat→W)) (fun gh=>[(11,true,U (gh.2 0)),(12,true,U (gh.2 1)),(13,true,U (gh.2 2)),(14,true,U (gh.2 3)),(15,true,U (gh.2 4)),(16,true,U (gh.2 5)),(17,true,U (gh.2 6)),(18,true,U (gh.2 7)),(131,true,.int .i64 (gh.1:Int))]) (fun _=>[])
  (fun gh Gl=>(gh.1≤64)∧(gh.2=rnds y s gh.1)) (fun gh=>64-gh.1) (0,s) [(0,true,_),(4,true,_)] [_,_]
  (esD rfl (esD rfl (esD rfl (esD rfl (esD rfl (esD rfl (esD rfl (esD rfl (esC rfl (by first|rfl|exact evi (by omega)) (esD rfl (esD rfl eZ)))))))))))
  (mS .here rfl (mS .here rfl mN)) ?_ ?_
 ·refine ⟨?_,?_⟩
  ·(try dsimp only)<;>(first|omega|rfl|assumption|(simp; done))
  (try dsimp only)<;>(first|omega|rfl|assumption|(simp; done))
 intro gh N3 Gl3 hN3 hGl3 hF3
 obtain ⟨k2,x⟩:=gh; dsimp only at hF3 hN3 ⊢
 obtain ⟨hk2,ex⟩:=hF3
 have hK:=hK.mono hGl3
 refine .seq (rq1 rfl rfl (cp rfl .no (.u rfl) (.u rfl) rfl (.nil (.code (.seq (.cond rfl (fun c4=>?_) (fun c4=>?_)))))))
 ·have c4k:=c4
  try simp only [qcA,qcB] at c4
  refine .skip (.code (.seq (.block (.seq (rq2 rfl rfl (mV rfl rfl (aS rfl rfl (.nil (.code (.seq (Wk.draw (mc:=⟨false,false⟩) [0,1,3,6,10,11,12,13,14,15,16,18,19,20,22,23,24,2,4,5,7,8,9,17,21,25,26] Fx.mix (by kernel_rfl) ?_)))))))))))
  refine mV rfl rfl (mV rfl rfl (mV rfl rfl (mV rfl rfl (mV rfl rfl (mV rfl rfl (mV rfl rfl (mV rfl rfl (bw (k:=.u32) rfl .no rfl (.u rfl) (.u rfl) rfl (bw (k:=.u32) rfl .no rfl (.u rfl) (.u rfl) rfl (bw (k:=.u32) rfl .no rfl (.u rfl) (.u rfl) rfl (mV rfl rfl (iA rfl .no Fx.ar202 (.u rfl) (.u rfl) (fun _=>by omega) (fun _=>by omega) ?_))))))))))))
  refine ld rfl .no Fx.ag130 (.u rfl) (fun _=>(hK.wat (k2) (by omega) (by omega)).rd) ?_
  refine mV rfl rfl (iA rfl .no Fx.ar202 (.u rfl) (.u rfl) (fun _=>by omega) (fun _=>by omega) ?_)
  refine ld rfl .no Fx.ag130 (.u rfl) (fun _=>Rd.own .here (by first|exact wa_at1 (k2) (by omega) (by omega)|exact ba_at1 (k2) (by omega) (by omega)|exact wap_at1 (k2) (by omega) (by omega)|rfl)) ?_
  refine kv rfl .no Fx.go150 (Evc rfl (Evc rfl Evn)) (fun _=>right_ok _ 6 _ (by decide)) ?_
  refine kv rfl .no Fx.go150 (Evc rfl (Evc rfl Evn)) (fun _=>right_ok _ 11 _ (by decide)) ?_
  refine bw (k:=.u32) rfl .no rfl (.u rfl) (.u rfl) rfl (kv rfl .no Fx.go150 (Evc rfl (Evc rfl Evn)) (fun _=>right_ok _ 25 _ (by decide)) ?_)
  refine bw (k:=.u32) rfl .no rfl (.u rfl) (.u rfl) rfl (bw (k:=.u32) rfl .no rfl (.u rfl) (.u rfl) rfl (bw (k:=.u32) rfl .no rfl (.u rfl) (.u rfl) rfl (bw (k:=.u32) rfl .no rfl (.u rfl) (.u rfl) rfl (bw (k:=.u32) rfl .no rfl (.u rfl) (.u rfl) rfl (aS rfl rfl (.nil (.code (.seq (Wk.rg [0,1,2,3,4,5,6,7,8,9,10,11,12,13,14,15,16,17,18] rfl rfl (mV rfl rfl (kv rfl .no Fx.go150 (Evc rfl (Evc rfl Evn)) (fun _=>right_ok _ 2 _ (by decide)) ?_)))))))))))
  refine mV rfl rfl (kv rfl .no Fx.go150 (Evc rfl (Evc rfl Evn)) (fun _=>right_ok _ 13 _ (by decide)) ?_)
  refine bw (k:=.u32) rfl .no rfl (.u rfl) (.u rfl) rfl (mV rfl rfl (kv rfl .no Fx.go150 (Evc rfl (Evc rfl Evn)) (fun _=>right_ok _ 22 _ (by decide)) ?_))
  refine bw (k:=.u32) rfl .no rfl (.u rfl) (.u rfl) rfl (mV rfl rfl (mV rfl rfl (bw (k:=.u32) rfl .no rfl (.u rfl) (.u rfl) rfl (mV rfl rfl (mV rfl rfl (mV rfl rfl (bw (k:=.u32) rfl .no rfl (.u rfl) (.u rfl) rfl (bw (k:=.u32) rfl .no rfl (.u rfl) (.u rfl) rfl (bw (k:=.u32) rfl .no rfl (.u rfl) (.u rfl) rfl (bw (k:=.u32) rfl .no rfl (.u rfl) (.u rfl) rfl (aS rfl rfl (.nil (.code (Wk.rg [0,1,2,3,4,5,6,7,8,9,10,11,12,13,14,15,16,17,18,19] rfl rfl (mV rfl rfl (mV rfl rfl (bw (k:=.u32) rfl .no rfl (.u rfl) (.u rfl) rfl (mV rfl rfl (mV rfl rfl (mV rfl rfl (mV rfl rfl (mV rfl rfl (bw (k:=.u32) rfl .no rfl (.u rfl) (.u rfl) rfl (mV rfl rfl (mV rfl rfl (mV rfl rfl (aS rfl rfl (aS rfl rfl (aS rfl rfl (aS rfl rfl (aS rfl rfl (aS rfl rfl (aS rfl rfl (aS rfl rfl (.nil (.blk (.code (rq2 rfl rfl (arn (((k2+1):Nat):Int) rfl .no (.u rfl) (.u rfl) rfl (fun _=>by omega) (fun _=>wrap_i64 (by omega) (by omega)) ?_)))))))))))))))))))))))))))))))))))))))
  refine mV rfl rfl (.nil (We.lpo (k2+1,rndW x (kW k2) (y k2)) ?_ ?_ ?_ ?_ ?_))
  ·exact (esD rfl (esD rfl (esD rfl (esD rfl (esD rfl (esD rfl (esD rfl (esD rfl (esC rfl (by first|rfl|exact evi (by omega)) (esD rfl (esD rfl eZ)))))))))))
  ·exact (mS .here rfl (mS .here rfl mN))
  ·first|omega|(dsimp only; omega)
  ·exact hGl3
  refine ⟨?_,?_⟩
  ·(try dsimp only)<;>(first|omega|rfl|assumption|(simp; done))
  (try dsimp only)<;>(rw [ex]; rfl)
 have c4k:=c4
 try simp only [qcA,qcB] at c4
 refine .exit (.xcode (.xlp (.xblk (.code (.seq ?_)))))
 obtain rfl:k2=64:=by omega
 refine rq10 rfl rfl (mV rfl rfl (mV rfl rfl (mV rfl rfl (mV rfl rfl (mV rfl rfl (mV rfl rfl (mV rfl rfl (mV rfl rfl (bCe (wa 8 x) rfl .no Fx.bp179_0_1_2_3_4_5_6_7 (.cons (.u rfl) rfl (.cons (.u rfl) rfl (.cons (.u rfl) rfl (.cons (.u rfl) rfl (.cons (.u rfl) rfl (.cons (.u rfl) rfl (.cons (.u rfl) rfl (.cons (.u rfl) rfl .nil)))))))) rfl (by simp [bFold,put,wa,List.range_succ]) ?_)))))))))
 refine mV rfl rfl (.nil (.code (.block ?_)))
 refine Wk.lop (α:=Nat×(Nat→W)) (fun gh=>[(200,true,.int .i64 (gh.1:Int))]) (fun gh=>[.blk bs (cl (wa 8 gh.2++[vp,nn]) 181)])
  (fun gh Gl=>(gh.1≤8)∧(gh.2=fun i=>if i<gh.1 then s i+x i else s i)) (fun gh=>8-gh.1) (0,s) [(0,true,_),(199,true,_)] [_]
  (esC rfl (by first|rfl|exact evi (by omega)) (esD rfl (esD rfl eZ)))
  (mS tk1 rfl (mS .here rfl mN)) ?_ ?_
 ·refine ⟨?_,?_⟩
  ·(try dsimp only)<;>(first|omega|rfl|assumption|(simp; done))
  (try dsimp only)<;>(funext i; simp)
 intro gh N4 Gl4 hN4 hGl4 hF4
 obtain ⟨k3,z⟩:=gh; dsimp only at hF4 hN4 ⊢
 obtain ⟨hk3,ez⟩:=hF4
 refine .seq (rq1 rfl rfl (cp rfl .no (.u rfl) (.u rfl) rfl (.nil (.code (.seq (.cond rfl (fun c5=>?_) (fun c5=>?_)))))))
 ·have c5k:=c5
  try simp only [qcA,qcB] at c5
  refine .skip (.code (.seq (.block (.seq (rq4 rfl rfl (mV rfl rfl (ix rfl .no Fx.ar179 Fx.ag130 (.u rfl) (.u rfl) (fun _=>by omega) (fun _=>by omega) (fun _=>wa_at (n:=8) (y:=x) (j:=k3) (by omega)) ?_)))))))
  refine aS rfl rfl (aS rfl rfl (.nil (.code (Wk.draw (mc:=⟨false,false⟩) [0,1,2,3,4,5,6,7,8,9,10,11] Fx.mix (by kernel_rfl) ?_))))
  refine mV rfl rfl (mV rfl rfl (nc rfl .no (.u rfl) (fz rfl .no Fx.fo181_0 (.u rfl) (iA rfl .no Fx.ar179 (.u rfl) (.u rfl) (fun _=>by omega) (fun _=>by omega) ?_))))
  refine ld rfl .no Fx.ag130 (.u rfl) (fun _=>Rd.own .here (by first|exact wa_at1 (k3) (by omega) (by omega)|exact ba_at1 (k3) (by omega) (by omega)|exact wap_at1 (k3) (by omega) (by omega)|rfl)) ?_
  refine mV rfl rfl (bw (k:=.u32) rfl .no rfl (.u rfl) (.u rfl) rfl (nc rfl .no (.u rfl) (fz rfl .no Fx.fo181_0 (.u rfl) (iA rfl .no Fx.ar179 (.u rfl) (.u rfl) (fun _=>by omega) (fun _=>by omega) ?_))))
  refine s1 rfl (.u rfl) (.u rfl) rfl Fx.sz130 .here (by first|decide|(simp only [wa_len,ba_len,qlA]; omega)) (by first|exact wa_set1 (k3) (by omega)|exact ba_set1 (k3) (by omega)|exact wap_set1 (k3) (by omega) (by omega)|rfl) ?_
  refine .nil (.blk (.code (rq2 rfl rfl (arn (((k3+1):Nat):Int) rfl .no (.u rfl) (.u rfl) rfl (fun _=>by omega) (fun _=>wrap_i64 (by omega) (by omega)) ?_))))
  refine mV rfl rfl (.nil (We.lpo (k3+1,_) (esC rfl (by first|rfl|exact evi (by omega)) (esD rfl (esD rfl eZ))) (mS .here rfl (mS .here rfl mN)) ?_ ?_ ?_))
  ·first|omega|(dsimp only; omega)
  ·exact hGl4
  refine ⟨?_,?_⟩
  ·(try dsimp only)<;>(first|omega|rfl|assumption|(simp; done))
  (try dsimp only)<;>(rw [ez]; exact upd_if)
 have c5k:=c5
 try simp only [qcA,qcB] at c5
 refine .exit (.xcode (.xlp (.xblk (.nil (We.fin Tryz.results140 .nil (mS .here rfl mN) ?_)))))
 obtain rfl:k3=8:=by omega
 refine ⟨?_,rfl⟩
 rw [ez,ex,ey,wa_congr (f:=fun i=>if i<8 then s i+rnds (sched (fun i=>xs.getD i 0) 48) s 64 i else s i) (f':=shaC s (fun i=>xs.getD i 0)) (fun i hi=>by rw [if_pos hi]; rfl)]
namespace Fx
theorem fo181_2:fOff Tryz.prog 181 2=some 9:=by kernel_rfl
theorem ag3:aggN Tryz.prog 3=some none:=by kernel_rfl
theorem sz3:szT Tryz.prog 3=some 1:=by kernel_rfl
theorem fo181_1:fOff Tryz.prog 181 1=some 8:=by kernel_rfl
theorem ag24:aggN Tryz.prog 24=some none:=by kernel_rfl
theorem sz24:szT Tryz.prog 24=some 1:=by kernel_rfl
theorem go140:goFn Tryz.prog 140=true:=by kernel_rfl
end Fx
theorem block_row (s:Nat→W) (xs:List Y) (v vp nn:Value) (bs:Nat) (G:PM) (hK:RdNP G 1 0 (wa 64 kW)) (hl:64≤xs.length):Ct Tryz.prog 140 ([.pointer (some ⟨bs,0,none⟩),v]:List Value).toArray G [rB v 5 xs,.blk bs (cl (wa 8 s++[vp,nn]) 181)] (fun _ μ' u=>∃ ν,μ'=rB v 5 xs :: ν∧ν=[.blk bs (cl (wa 8 (shaC s (fun i=>xs.getD i 0))++[vp,nn]) 181)]∧u=.tuple #[]) :=
 Ct.lendB (fun h G2 hle hv hs=>by subst hv; exact block_ok s xs h vp nn bs G2 hs (hK.mono hle) hl)
theorem st_s8 {y:Nat→W} {a b v:Value}:(wa 8 y++[a,b]).set 8 v=wa 8 y++[v,b]:=wap_s rfl
theorem st_s9 {y:Nat→W} {a b v:Value}:(wa 8 y++[a,b]).set 9 v=wa 8 y++[a,v]:=wap_s rfl
theorem st_eq {zs:List Y} {j m b T:Nat} {vp:Value} (hj:zs.length / 64=j) (hm:m=zs.length):Res.blk b (cl (wa 8 (shaW zs j)++[vp,.int .i64 (m:Int)]) T)=.blk b (cl (stC zs vp) T):=by
 subst hj; subst hm; rfl
theorem put_step {zs L:List Y} {j b T:Nat} {vq nn:Value} (eL:L=zs.drop (64*j)) (h:64≤L.length):Res.blk b (cl (wa 8 (shaC (shaW zs j) (fun i=>L.getD i 0))++[vq,nn]) T)=.blk b (cl (wa 8 (shaW zs (j+1))++[vq,nn]) T):=by
 rw [shaW,shaC_congr (b':=blkF zs j)]
 intro i hi
 rw [eL,blkF]; simp [List.getD_eq_getElem?_getD,List.getElem?_drop]
theorem put_first {xs ys L:List Y} {b T k:Nat} {vq nn:Value} (eL:L=restL xs++ys.take k) (hk:k=min (64-(restL xs).length) ys.length) (h:64≤L.length):Res.blk b (cl (wa 8 (shaC (shaW xs (xs.length / 64)) (fun i=>L.getD i 0))++[vq,nn]) T)=.blk b (cl (wa 8 (shaW (xs++ys) (xs.length / 64+1))++[vq,nn]) T):=by
 have hr:=rest_len xs
 rw [eL,List.length_append,List.length_take] at h
 rw [shaW,shaW_app (by omega),shaC_congr (b':=blkF (xs++ys) (xs.length / 64))]
 intro i hi
 rw [eL,blkF]
 simp only [List.getD_eq_getElem?_getD,List.getElem?_append,List.getElem?_take,hr]
 by_cases h1:i<xs.length%64
 ·simp [h1,restL,show 64*(xs.length / 64)+i<xs.length by omega]
 ·rw [if_neg h1,if_pos (by omega),if_neg (by omega)]
  congr 2; omega
theorem put_rest {xs ys L:List Y} (eL:L=restL xs++ys.take (min (64-(restL xs).length) ys.length)) (h:L.length<64):L=restL (xs++ys)∧(xs++ys).length / 64=xs.length / 64∧shaW (xs++ys) (xs.length / 64)=shaW xs (xs.length / 64):=by
 have hr:=rest_len xs
 rw [eL,List.length_append,List.length_take] at h
 have e:(xs++ys).length / 64=xs.length / 64:=by rw [List.length_append]; omega
 refine ⟨?_,e,shaW_app (by omega)⟩
 have h5:min (64-(restL xs).length) ys.length=ys.length:=by omega
 rw [eL,h5,List.take_length,restL,restL,e,List.drop_append_of_le_length (by omega)]
theorem put_drop {xs ys:List Y} (h:64≤(restL xs).length+ys.length):ys.drop (min (64-(restL xs).length) ys.length)=(xs++ys).drop (64*(xs.length / 64+1)):=by
 have hr:=rest_len xs
 rw [List.drop_append,List.drop_of_length_le (show xs.length≤64*(xs.length / 64+1) by omega),List.nil_append]
 congr 1; omega
theorem put_drop0 {xs ys:List Y} (h:(restL xs).length=0):ys=(xs++ys).drop (64*(xs.length / 64)):=by
 have hr:=rest_len xs
 rw [show 64*(xs.length / 64)=xs.length by omega,List.drop_left]
theorem put_zero {xs ys:List Y} {b T:Nat} {vq nn:Value} (h:(restL xs).length=0):Res.blk b (cl (wa 8 (shaW xs (xs.length / 64))++[vq,nn]) T)=.blk b (cl (wa 8 (shaW (xs++ys) (xs.length / 64))++[vq,nn]) T):=by
 rw [shaW_app (by omega)]
theorem put_ok (xs ys:List Y) (h:Sh) (vp:Value) (bs:Nat) (G:PM) (hs:SlR G 1 encY h ys) (hK:RdNP G 1 0 (wa 64 kW)) (hl:xs.length+ys.length≤4611686018427387904):Ct Tryz.prog 128 ([.pointer (some ⟨bs,0,none⟩),h.val ys.length]:List Value).toArray G [.blk bs (cl (stC xs vp) 181),rB vp 5 (restL xs)] (fun _ μ' u=>∃ vp',μ'=[.blk bs (cl (stC (xs++ys) vp') 181),rB vp' 5 (restL (xs++ys))]∧u=.tuple #[]):=by
 refine Ct.of Tryz.func128 rfl Tryz.ntmps128 rfl fun w0 hs0=>?_
 have hr:=rest_len xs
 refine .seq (rq10 rfl rfl (mV rfl rfl (nc rfl .no (.u rfl) (fz rfl .no Fx.fo181_2 (.u rfl) (ld rfl .no Fx.ag3 (.u rfl) (fun _=>Rd.own .here (by first|exact wap_f rfl|rfl)) ?_)))))
 refine mV rfl rfl (ln rfl .no Fx.sn24 (.u rfl) (arn (((xs.length+ys.length):Nat):Int) rfl .no (.u rfl) (.u rfl) rfl (fun _=>by omega) (fun _=>wrap_i64 (by omega) (by omega)) ?_))
 refine nc rfl .no (.u rfl) (fz rfl .no Fx.fo181_2 (.u rfl) (s1 rfl (.u rfl) (.u rfl) rfl Fx.sz3 .here (by first|decide|(simp only [stC,wa_len,ba_len,qlA]; omega)) (by first|exact st_s8|exact st_s9) ?_))
 refine .nil (.code (.seq (.seq (rq6 rfl rfl (mV rfl rfl (nc rfl .no (.u rfl) (fz rfl .no Fx.fo181_1 (.u rfl) (ld rfl .no Fx.ag24 (.u rfl) (fun _=>Rd.own .here (by first|exact wap_f rfl|rfl)) ?_))))))))
 refine lr rfl .no Fx.sn24 (.u rfl) tk1 ?_
 refine cp rfl .no (.u rfl) (.u rfl) rfl (.nil (.code (.cond rfl (fun c1=>?_) (fun c1=>?_))))
 ·have c1k:=c1
  try simp only [qcA,qcB] at c1
  refine .seq (rq10 rfl rfl (mV rfl rfl (nc rfl .no (.u rfl) (fz rfl .no Fx.fo181_1 (.u rfl) (ld rfl .no Fx.ag24 (.u rfl) (fun _=>Rd.own .here (by first|exact wap_f rfl|rfl)) ?_)))))
  refine lr rfl .no Fx.sn24 (.u rfl) tk1 ?_
  refine arn (((64-(restL xs).length):Nat):Int) rfl .no (.u rfl) (.u rfl) rfl (fun _=>by omega) (fun _=>wrap_i64 (by omega) (by omega)) ?_
  refine mV rfl rfl (ln rfl .no Fx.sn24 (.u rfl) (mIn ((64-(restL xs).length)) (ys.length) rfl .no (.u rfl) (.u rfl) (fun _=>by omega) (fun _=>by omega) ?_))
  refine aS rfl rfl (.nil (.code (.seq (Wk.draw (mc:=⟨false,false⟩) [0,1,2,3,4,5,6,7,8,9,10,11] Fx.mix (by kernel_rfl) ?_))))
  refine mV rfl rfl (mV rfl rfl (nc rfl .no (.u rfl) (fz rfl .no Fx.fo181_1 (.u rfl) (ld rfl .no Fx.ag24 (.u rfl) (fun _=>Rd.own .here (by first|exact wap_f rfl|rfl)) ?_))))
  refine mV rfl rfl (mV rfl rfl (kE ((min (64-(restL xs).length) ys.length)) rfl .no Fx.se24 hs (.u rfl) (.u rfl) (fun _=>by omega) (fun _=>by omega) ?_))
  intro h36 L36 eL36 lL36 hs36
  have lL36:=lL36 rfl
  refine apY rfl Fx.se24 Fx.zv5 (.u rfl) (.u rfl) tk1 hs36.sc (by (try simp only [qlA,yl_len]); omega) ?_
  intro v37 L37 ov37 eL37
  have lL37:L37.length=(restL xs).length+L36.length:=by rw [eL37,List.length_append]
  refine nc rfl .no (.u rfl) (fz rfl .no Fx.fo181_1 (.u rfl) (s1v rfl (.u rfl) (.u rfl) .here Fx.sz24 tk1 (by first|decide|(simp only [stC,wa_len,ba_len,qlA]; omega)) (by first|exact st_s8|exact st_s9) ?_))
  refine .nil (.code (.seq (rq4 rfl rfl (mV rfl rfl (mV rfl rfl (kD ((min (64-(restL xs).length) ys.length)) rfl .no Fx.se24 hs (.u rfl) (.u rfl) (fun _=>by omega) (fun _=>by omega) ?_))))))
  intro h42 L42 eL42 lL42 hs42
  have lL42:=lL42 rfl
  refine aS rfl rfl (.nil (.code (.seq (.seq (rq6 rfl rfl (mV rfl rfl (nc rfl .no (.u rfl) (fz rfl .no Fx.fo181_1 (.u rfl) (ld rfl .no Fx.ag24 (.u rfl) (fun _=>Rd.own .here (by first|exact wap_f rfl|rfl)) ?_)))))))))
  refine lr rfl .no Fx.sn24 (.u rfl) tk1 ?_
  refine cp rfl .no (.u rfl) (.u rfl) rfl (.nil (.code (.cond rfl (fun c2=>?_) (fun c2=>?_))))
  ·have c2k:=c2
   try simp only [qcA,qcB] at c2
   refine .ret (We.fin Tryz.results128 .nil (mS .here rfl (mS .here rfl mN)) ?_)
   obtain ⟨e1,e2,e3⟩:=put_rest (eL37.trans (by rw [eL36])) (by omega)
   exact ⟨v37,by rw [← e1,←e3,st_eq e2 (by simp)],rfl⟩
  have c2k:=c2
  try simp only [qcA,qcB] at c2
  refine .skip (.code (.seq (rq6 rfl rfl (mV rfl rfl (mV rfl rfl (nc rfl .no (.u rfl) (fz rfl .no Fx.fo181_1 (.u rfl) (ld rfl .no Fx.ag24 (.u rfl) (fun _=>Rd.own .here (by first|exact wap_f rfl|rfl)) ?_))))))))
  refine ka rfl (.inr rfl) Fx.go140 (Evc rfl (Evc rfl Evn)) (mtk2 tk1 .here) (block_row _ L37 _ _ _ _ _ hK (by omega)) ?_
  rintro _ G54 μ54 hG54 ⟨_,rfl,rfl,rfl⟩
  have hs:=hs.mono hG54
  have hK:=hK.mono hG54
  have hs42:=hs42.mono hG54
  refine .nil (.code (rq4 rfl rfl (mV rfl rfl (nc rfl .no (.u rfl) (fz rfl .no Fx.fo181_1 (.u rfl) (s1 rfl (.u rfl) (.u rfl) rfl Fx.sz24 tk1 (by first|decide|(simp only [stC,wa_len,ba_len,qlA]; omega)) (by first|exact st_s8|exact st_s9) ?_))))))
  refine .nil (we_nilB 5 ?_)
  refine .code (.seq (.block ?_))
  refine Wk.lop (α:=Nat×Sh×List Y×Value) (fun gh=>[(1,true,gh.2.1.val gh.2.2.1.length)]) (fun gh=>[.blk bs (cl (wa 8 (shaW (xs++ys) gh.1)++[gh.2.2.2,.int .i64 ((xs.length+ys.length:Nat):Int)]) 181)])
   (fun gh Gl=>(64*gh.1≤xs.length+ys.length)∧(gh.2.2.1=(xs++ys).drop (64*gh.1))∧(SlR Gl 1 encY gh.2.1 gh.2.2.1)) (fun gh=>gh.2.2.1.length) (xs.length / 64+1,_,_,_) [(0,true,_)] [_]
   (esD rfl (esD rfl eZ))
   (mS tk1 (put_first (eL37.trans (by rw [eL36])) rfl (by omega)) (mS .here rfl mN)) ?_ ?_
  ·refine ⟨?_,?_,?_⟩
   ·(try dsimp only)<;>(omega)
   ·(try dsimp only)<;>(rw [eL42]; exact put_drop (by omega))
   (try dsimp only)<;>(exact hs42)
  intro gh N0 Gl0 hN0 hGl0 hF0
  obtain ⟨j,h',L,vq⟩:=gh; dsimp only at hF0 hN0 ⊢
  obtain ⟨hj,eL,hL⟩:=hF0
  have hs:=hs.mono hGl0
  have hK:=hK.mono hGl0
  have lL:L.length=xs.length+ys.length-64*j:=by rw [eL]; simp
  refine .seq (.seq (rq3 rfl rfl (mV rfl rfl (ln rfl .no Fx.sn24 (.u rfl) (cp rfl .no (.u rfl) (.u rfl) rfl (.nil (.code (.cond rfl (fun c3=>?_) (fun c3=>?_)))))))))
  ·have c3k:=c3
   try simp only [qcA,qcB] at c3
   refine .skip (.code (.seq (.block (rq3 rfl rfl (mV rfl rfl (mV rfl rfl (ka rfl (.inr rfl) Fx.go140 (Evc rfl (Evc rfl Evn)) (mtk1 .here) (block_ok _ L h' _ _ _ _ hL hK (by omega)) ?_)))))))
   rintro _ G65 μ65 hG65 ⟨rfl,rfl⟩
   have hs:=hs.mono hG65
   have hK:=hK.mono hG65
   have hL:=hL.mono hG65
   refine .nil (.blk (.code (rq3 rfl rfl (mV rfl rfl (kD (64) rfl .no Fx.se24 hL (.u rfl) (.u rfl) (fun _=>by omega) (fun _=>by omega) ?_)))))
   intro h62 L62 eL62 lL62 hs62
   have lL62:=lL62 rfl
   refine aS rfl rfl (.nil (We.lpo (j+1,h62,L62,vq) ?_ ?_ ?_ ?_ ?_))
   ·exact (esD rfl (esD rfl eZ))
   ·exact (mS .here (put_step eL (by omega)) (mS .here rfl mN))
   ·first|omega|(dsimp only; omega)
   ·exact (hGl0).trans hG65
   refine ⟨?_,?_,?_⟩
   ·(try dsimp only)<;>(omega)
   ·(try dsimp only)<;>(rw [eL62,eL,List.drop_drop]; congr 1)
   (try dsimp only)<;>(exact hs62)
  have c3k:=c3
  try simp only [qcA,qcB] at c3
  refine .exit (.xcode (.xlp (.xblk (.code (rq7 rfl rfl (mV rfl rfl ?_))))))
  refine b0B rfl Fx.se24 ?_; intro b67
  refine mV rfl rfl (apY0 rfl Fx.se24 Fx.zv5 (.u rfl) (.u rfl) .here hL.sc (by (try simp only [qlA,yl_len]); omega) ?_)
  intro v69 L69 _ ov69 eL69
  have lL69:L69.length=L.length:=by rw [eL69]
  refine nc rfl .no (.u rfl) (fz rfl .no Fx.fo181_1 (.u rfl) (s1v rfl (.u rfl) (.u rfl) .here Fx.sz24 tk1 (by first|decide|(simp only [stC,wa_len,ba_len,qlA]; omega)) (by first|exact st_s8|exact st_s9) ?_))
  refine .nil (.nil (We.fin Tryz.results128 .nil (mS .here rfl (mS .here rfl mN)) ?_))
  have ej:(xs++ys).length / 64=j:=by rw [List.length_append]; omega
  exact ⟨v69,by rw [st_eq ej (by simp),eL69,eL,restL,ej],rfl⟩
 have c1k:=c1
 try simp only [qcA,qcB] at c1
 refine .skip (.code (.seq (.block ?_)))
 refine Wk.lop (α:=Nat×Sh×List Y×Value) (fun gh=>[(1,true,gh.2.1.val gh.2.2.1.length)]) (fun gh=>[.blk bs (cl (wa 8 (shaW (xs++ys) gh.1)++[gh.2.2.2,.int .i64 ((xs.length+ys.length:Nat):Int)]) 181)])
  (fun gh Gl=>(64*gh.1≤xs.length+ys.length)∧(gh.2.2.1=(xs++ys).drop (64*gh.1))∧(SlR Gl 1 encY gh.2.1 gh.2.2.1)) (fun gh=>gh.2.2.1.length) (xs.length / 64,_,_,_) [(0,true,_)] [_]
  (esD rfl (esD rfl eZ))
  (mS .here (put_zero (by omega)) (mS .here rfl mN)) ?_ ?_
 ·refine ⟨?_,?_,?_⟩
  ·(try dsimp only)<;>(omega)
  ·(try dsimp only)<;>(exact put_drop0 (by omega))
  (try dsimp only)<;>(exact hs)
 intro gh N1 Gl1 hN1 hGl1 hF1
 obtain ⟨j,h',L,vq⟩:=gh; dsimp only at hF1 hN1 ⊢
 obtain ⟨hj,eL,hL⟩:=hF1
 have hK:=hK.mono hGl1
 have lL:L.length=xs.length+ys.length-64*j:=by rw [eL]; simp
 refine .seq (.seq (rq3 rfl rfl (mV rfl rfl (ln rfl .no Fx.sn24 (.u rfl) (cp rfl .no (.u rfl) (.u rfl) rfl (.nil (.code (.cond rfl (fun c4=>?_) (fun c4=>?_)))))))))
 ·have c4k:=c4
  try simp only [qcA,qcB] at c4
  refine .skip (.code (.seq (.block (rq3 rfl rfl (mV rfl rfl (mV rfl rfl (ka rfl (.inr rfl) Fx.go140 (Evc rfl (Evc rfl Evn)) (mtk1 .here) (block_ok _ L h' _ _ _ _ hL hK (by omega)) ?_)))))))
  rintro _ G65 μ65 hG65 ⟨rfl,rfl⟩
  have hL:=hL.mono hG65
  refine .nil (.blk (.code (rq3 rfl rfl (mV rfl rfl (kD (64) rfl .no Fx.se24 hL (.u rfl) (.u rfl) (fun _=>by omega) (fun _=>by omega) ?_)))))
  intro h62 L62 eL62 lL62 hs62
  have lL62:=lL62 rfl
  refine aS rfl rfl (.nil (We.lpo (j+1,h62,L62,vq) ?_ ?_ ?_ ?_ ?_))
  ·exact (esD rfl (esD rfl eZ))
  ·exact (mS .here (put_step eL (by omega)) (mS .here rfl mN))
  ·first|omega|(dsimp only; omega)
  ·exact (hGl1).trans hG65
  refine ⟨?_,?_,?_⟩
  ·(try dsimp only)<;>(omega)
  ·(try dsimp only)<;>(rw [eL62,eL,List.drop_drop]; congr 1)
  (try dsimp only)<;>(exact hs62)
 have c4k:=c4
 try simp only [qcA,qcB] at c4
 refine .exit (.xcode (.xlp (.xblk (.code (rq7 rfl rfl (mV rfl rfl ?_))))))
 refine b0B rfl Fx.se24 ?_; intro b67
 refine mV rfl rfl (apY0 rfl Fx.se24 Fx.zv5 (.u rfl) (.u rfl) .here hL.sc (by (try simp only [qlA,yl_len]); omega) ?_)
 intro v69 L69 _ ov69 eL69
 have lL69:L69.length=L.length:=by rw [eL69]
 refine nc rfl .no (.u rfl) (fz rfl .no Fx.fo181_1 (.u rfl) (s1v rfl (.u rfl) (.u rfl) .here Fx.sz24 tk1 (by first|decide|(simp only [stC,wa_len,ba_len,qlA]; omega)) (by first|exact st_s8|exact st_s9) ?_))
 refine .nil (.nil (We.fin Tryz.results128 .nil (mS .here rfl (mS .here rfl mN)) ?_))
 have ej:(xs++ys).length / 64=j:=by rw [List.length_append]; omega
 exact ⟨v69,by rw [st_eq ej (by simp),eL69,eL,restL,ej],rfl⟩
namespace Fx
theorem zr181:zrL Tryz.prog 181=some ([.int .u32 0,.int .u32 0,.int .u32 0,.int .u32 0,.int .u32 0,.int .u32 0,.int .u32 0,.int .u32 0,.slice none 0 0,.int .i64 0]):=by kernel_rfl
theorem bp181_0:bPl Tryz.prog 181 [0]=some ([.int .u32 0,.int .u32 0,.int .u32 0,.int .u32 0,.int .u32 0,.int .u32 0,.int .u32 0,.int .u32 0,.slice none 0 0,.int .i64 0],[(0,8)]):=by kernel_rfl
theorem sz181:szT Tryz.prog 181=some 10:=by kernel_rfl
theorem ag181:aggN Tryz.prog 181=some (some 10):=by kernel_rfl
theorem go127:goFn Tryz.prog 127=true:=by kernel_rfl
theorem pt193:ptT Tryz.prog 193=true:=by kernel_rfl
theorem go128:goFn Tryz.prog 128=true:=by kernel_rfl
theorem zq23:zrL Tryz.prog 23=some (ba 32 (fun _=>0#8)):=by kernel_rfl
theorem ag179:aggN Tryz.prog 179=some (some 8):=by kernel_rfl
theorem bp181_0_1_2:bPl Tryz.prog 181 [0,1,2]=some ([.int .u32 0,.int .u32 0,.int .u32 0,.int .u32 0,.int .u32 0,.int .u32 0,.int .u32 0,.int .u32 0,.slice none 0 0,.int .i64 0],[(0,8),(8,1),(9,1)]):=by kernel_rfl
theorem cv3_26:cvK Tryz.prog 3 26=some .u64:=by kernel_rfl
theorem cv26_5:cvK Tryz.prog 26 5=some .u8:=by kernel_rfl
theorem ar23:arE Tryz.prog 23=some (32,5,1):=by kernel_rfl
theorem ag23:aggN Tryz.prog 23=some (some 32):=by kernel_rfl
theorem sz23:szT Tryz.prog 23=some 32:=by kernel_rfl
end Fx
theorem begin_ok (G:PM):Ct Tryz.prog 127 ([]:List Value).toArray G [] (fun _ μ' u=>μ'=[]∧u=.agg (stC [] (.slice none 0 0)).toArray):=by
 refine Ct.of Tryz.func127 rfl Tryz.ntmps127 rfl fun w0 hs0=>?_
 refine .seq (rq1 rfl rfl ?_)
 refine al rfl Fx.zr181 ?_; intro b0
 refine .nil (.code (.seq (rq3 rfl rfl (bCe (wa 8 ivW) rfl .no Fx.bp179_0_1_2_3_4_5_6_7 (.cons (.u rfl) rfl (.cons (.u rfl) rfl (.cons (.u rfl) rfl (.cons (.u rfl) rfl (.cons (.u rfl) rfl (.cons (.u rfl) rfl (.cons (.u rfl) rfl (.cons (.u rfl) rfl .nil)))))))) rfl (by rfl) ?_))))
 refine bCe (stC [] (.slice none 0 0)) rfl .no Fx.bp181_0 (.cons (.u rfl) rfl .nil) rfl (by rfl) ?_
 refine sw rfl (.u rfl) (.u rfl) rfl Fx.sz181 .here (by rfl) (one_app (wa_one _ _) (one2 rfl rfl)) ?_
 refine .nil (.code (.ret (We.fin0 Tryz.results127 (.cell rfl (fun w hw=>run_loadVarN Fx.ag181 (RdN.own .here) ((by rfl)) hw) .nil) ?_)))
 exact ⟨rfl,rfl⟩
theorem New_ok (G:PM):Ct Tryz.prog 144 ([]:List Value).toArray G [] (fun _ μ' u=>∃ b,μ'=[.blk b (cl (stC [] (.slice none 0 0)) 181),rB (.slice none 0 0) 5 (restL [])]∧u=.pointer (some ⟨b,0,none⟩)):=by
 refine Ct.of Tryz.func144 rfl Tryz.ntmps144 rfl fun w0 hs0=>?_
 refine .seq (rq1 rfl rfl (aS rfl rfl (.nil (.code (.seq (rq3 rfl rfl (kv rfl .no Fx.go127 Evn (fun _=>begin_ok _) ?_)))))))
 refine al rfl Fx.zr181 ?_; intro b1
 refine sw rfl (.u rfl) (.u rfl) rfl Fx.sz181 .here (by rfl) (one_app (wa_one _ _) (one2 rfl rfl)) ?_
 refine .nil (.code (.seq (rq1 rfl rfl (aS rfl rfl (.nil (we_nilB 5 ?_))))))
 refine .code (.ret (We.fin Tryz.results144 (.tmp rfl .nil) (mS tk1 rfl (mS .here rfl mN)) ?_))
 exact ⟨_,rfl,rfl⟩
theorem Write_ok (xs ys:List Y) (h:Sh) (vp:Value) (bs:Nat) (G:PM) (hs:SlR G 1 encY h ys) (hK:RdNP G 1 0 (wa 64 kW)) (hl:xs.length+ys.length≤4611686018427387904):Ct Tryz.prog 145 ([.pointer (some ⟨bs,0,none⟩),h.val ys.length]:List Value).toArray G [.blk bs (cl (stC xs vp) 181),rB vp 5 (restL xs)] (fun _ μ' u=>∃ vp',μ'=[.blk bs (cl (stC (xs++ys) vp') 181),rB vp' 5 (restL (xs++ys))]∧u=.tuple #[]):=by
 refine Ct.of Tryz.func145 rfl Tryz.ntmps145 rfl fun w0 hs0=>?_
 refine .seq (rq2 rfl rfl (mV rfl rfl (pn rfl .no Fx.pt193 (.u rfl) (.u rfl) ?_)))
 refine .nil (.code (Wk.condT rfl rfl ?_))
 refine rq3 rfl rfl (mV rfl rfl (mV rfl rfl (ka rfl (.inr rfl) Fx.go128 (Evc rfl (Evc rfl Evn)) (mtk2 .here .here) (put_ok _ _ _ _ _ _ hs hK hl) ?_)))
 rintro _ G8 μ8 hG8 ⟨vq,rfl,rfl⟩
 refine .nil (.nil (We.fin Tryz.results145 .nil (mS .here rfl (mS .here rfl mN)) ?_))
 exact ⟨vq,rfl,rfl⟩
theorem st_w {xs:List Y} {vp:Value}:((stC xs vp).drop 0).take 8=wa 8 (shaW xs (xs.length / 64)):=by
 rw [List.drop_zero,stC,List.take_append_of_le_length (by rw [wa_len]; exact Nat.le_refl _),List.take_of_length_le (by rw [wa_len]; exact Nat.le_refl _)]
theorem st_b {zs:List Value} {xs:List Y} {v:Value} (h:zs.length=10):bFold zs [(0,8),(8,1),(9,1)] [wa 8 (shaW xs (xs.length / 64)),[v],[.int .i64 (xs.length:Int)]]=stC xs v:=by
 match zs,h with
 | [a,b,c,d,e,f,g,h,i,j],_=>rfl
theorem lenF_int {n q:Nat} (h:q<8):lenF n q=((BitVec.ofInt 64 (n:Int)*8#64) >>> (56-8*(q:Int)).toNat).setWidth 8:=by
 rw [show (56-8*(q:Int)).toNat=56-8*q by omega]; rfl
theorem StSum_ok (xs:List Y) (vp:Value) (bs:Nat) (G:PM) (hK:RdNP G 1 0 (wa 64 kW)) (hl:xs.length≤1152921504606846976):Ct Tryz.prog 129 ([.pointer (some ⟨bs,0,none⟩)]:List Value).toArray G [.blk bs (cl (stC xs vp) 181),rB vp 5 (restL xs)] (fun _ μ' u=>μ'=[.blk bs (cl (stC xs vp) 181),rB vp 5 (restL xs)]∧u=.agg (ba 32 (shaD xs)).toArray):=by
 refine Ct.of Tryz.func129 rfl Tryz.ntmps129 rfl fun w0 hs0=>?_
 have hr:=rest_len xs
 have hz:zeros xs.length=(119-xs.length%64)%64:=rfl
 refine .seq (rq1 rfl rfl ?_)
 refine al rfl Fx.zq23 ?_; intro b2
 refine .nil (.code (.seq (rq3 rfl rfl (kv rfl .no Fx.go127 Evn (fun _=>begin_ok _) ?_))))
 refine al rfl Fx.zr181 ?_; intro b3
 refine sw rfl (.u rfl) (.u rfl) rfl Fx.sz181 .here (by rfl) (one_app (wa_one _ _) (one2 rfl rfl)) ?_
 refine .nil (.code (.seq (.seq (rq2 rfl rfl (mV rfl rfl (pn rfl .no Fx.pt193 (.u rfl) (.u rfl) ?_))))))
 refine .nil (.code (Wk.condT rfl rfl ?_))
 refine wk_rs tk3 ?_; intro sRP bbRP evRP lcRP oaRP; subst evRP
 refine Wk.draw (mc:=⟨false,true⟩) [0,1,2,3,5,6,7,8,10,11,12,13,4,9,14,15] Fx.mix (by kernel_rfl) ?_
 refine mV rfl rfl (nc rfl .no (.u rfl) (fz rfl .no Fx.fo181_0 (.u rfl) (lA rfl .no Fx.ag179 (.u rfl) (fun _=>RdN.part (n:=8) (cs':=wa 8 (shaW xs (xs.length / 64))) tk2 (st_w)) (fun _=>(by first|exact qE|exact qL|rfl)) ?_)))
 refine mV rfl rfl (nc rfl .no (.u rfl) (fz rfl .no Fx.fo181_1 (.u rfl) (ld rfl .no Fx.ag24 (.u rfl) (fun _=>Rd.own tk2 (by first|exact wap_f rfl|rfl)) ?_)))
 refine mV rfl rfl (nc rfl .no (.u rfl) (fz rfl .no Fx.fo181_2 (.u rfl) (ld rfl .no Fx.ag3 (.u rfl) (fun _=>Rd.own tk2 (by first|exact wap_f rfl|rfl)) ?_)))
 refine b0B rfl Fx.se24 ?_; intro b16
 refine apY0 rfl Fx.se24 Fx.zv5 (.u rfl) (.u rfl) .here (Sc.rowS tk4 oaRP) (by (try simp only [qlA,yl_len]); omega) ?_
 intro v21 L21 _ ov21 eL21
 have lL21:L21.length=(restL xs).length:=by rw [eL21]
 refine bCe (stC xs v21) rfl .no Fx.bp181_0_1_2 (.cons (.u rfl) rfl (.cons (.u rfl) (cells_one ov21) (.cons (.u rfl) rfl .nil))) rfl (st_b rfl) ?_
 refine sw rfl (.u rfl) (.u rfl) rfl Fx.sz181 tk1 (by rfl) (one_app (wa_one _ _) (one2 ov21 rfl)) ?_
 refine .nil (.code (.seq ?_))
 subst eL21
 refine rq5 rfl rfl (fz rfl .no Fx.fo181_2 (.u rfl) (ld rfl .no Fx.ag3 (.u rfl) (fun _=>Rd.own .here (by first|exact wap_f rfl|rfl)) ?_))
 refine ci rfl .no rfl Fx.cv3_26 (.u rfl) ?_
 refine bw (k:=.u64) (b:=8#64) rfl .no rfl (.u rfl) (.u rfl) rfl (aS rfl rfl (.nil (.code (.seq (rq2 rfl rfl ?_)))))
 refine mkY (1) (72) rfl Fx.se24 Fx.zv5 (.u rfl) (.u rfl) (by first|rfl|omega) (by first|rfl|omega) (by omega) (by omega) ?_; intro b31
 have lR31:(List.replicate (1) (0#8:Y)).length=1:=List.length_replicate
 refine aS rfl rfl (.nil (.code (.seq (rq3 rfl rfl (mV rfl rfl (ia rfl .no Fx.se24 (.u rfl) (.u rfl) (fun _=>by omega) (fun _=>by omega) ?_))))))
 refine s1r (z:=128#8) rfl (.u rfl) (.u rfl) Fx.sz5 .here (by omega) ?_; intro Ls6_2 eLs6_2 lLs6_2
 refine .nil (.code (.seq (.block ?_)))
 refine Wk.lop (α:=Nat×Value×List Y) (fun gh=>[(5,true,gh.2.1)]) (fun gh=>[rB gh.2.1 5 gh.2.2])
  (fun gh Gl=>(gh.1≤zeros xs.length)∧(gh.2.2=128#8 :: List.replicate gh.1 0#8)) (fun gh=>zeros xs.length-gh.1) (0,_,_) [(2,true,_),(3,true,_),(4,true,_)] [_,_,_,_,_]
  (esD rfl (esD rfl (esD rfl (esD rfl eZ))))
  (mS .here rfl (mS .here rfl (mS .here rfl (mS .here rfl (mS .here rfl (mS .here rfl mN)))))) ?_ ?_
 ·refine ⟨?_,?_⟩
  ·(try dsimp only)<;>(exact Nat.zero_le _)
  (try dsimp only)<;>(rw [eLs6_2]; rfl)
 intro gh N0 Gl0 hN0 hGl0 hF0
 obtain ⟨j,v,L⟩:=gh; dsimp only at hF0 hN0 ⊢
 obtain ⟨hj,eL⟩:=hF0
 have hK:=hK.mono hGl0
 have lL:L.length=j+1:=by rw [eL]; simp
 have hz:zeros xs.length=(119-xs.length%64)%64:=rfl
 refine .seq (.seq (rq7 rfl rfl (fz rfl .no Fx.fo181_2 (.u rfl) (ld rfl .no Fx.ag3 (.u rfl) (fun _=>Rd.own tk1 (by first|exact wap_f rfl|rfl)) ?_))))
 refine mV rfl rfl (lr rfl .no Fx.sn24 (.u rfl) .here ?_)
 refine arn (((xs.length+L.length):Nat):Int) rfl .no (.u rfl) (.u rfl) rfl (fun _=>by omega) (fun _=>wrap_i64 (by omega) (by omega)) ?_
 refine rmn ((xs.length+L.length)) (64) rfl .no (.u rfl) (.u rfl) (fun _=>by omega) (fun _=>by omega) (fun _=>by first|decide|omega) ?_
 refine cp rfl .no (.u rfl) (.u rfl) rfl (.nil (.code (.cond rfl (fun c1=>?_) (fun c1=>?_))))
 ·have c1k:=c1
  try simp only [qcA,qcB] at c1
  refine .skip (.code (.block (rq4 rfl rfl (mV rfl rfl ?_))))
  refine Go.Tan.b1 rfl Fx.se24 Fx.zv5 (.u rfl) rfl rfl (by decide) ?_; intro b42
  refine apY rfl Fx.se24 Fx.zv5 (.u rfl) (.u rfl) tk1 (Sc.one (y:=0#8) .here) (by show _+1≤_; omega) ?_
  intro v43 L43 ov43 eL43
  have lL43:L43.length=L.length+1:=by rw [eL43,List.length_append]; first|rfl | simp [yl_len]
  refine aS rfl rfl (.nil (.blk (We.lpo (j+1,v43,L43) ?_ ?_ ?_ ?_ ?_)))
  ·exact (esD rfl (esD rfl (esD rfl (esD rfl eZ))))
  ·exact (mS .here rfl (mS tk1 rfl (mS tk1 rfl (mS tk1 rfl (mS tk1 rfl (mS tk1 rfl mN))))))
  ·(try dsimp only); omega
  ·exact hGl0
  refine ⟨?_,?_⟩
  ·(try dsimp only)<;>(omega)
  (try dsimp only)<;>(rw [eL43,eL,List.cons_append,←List.replicate_succ'])
 have c1k:=c1
 try simp only [qcA,qcB] at c1
 refine .exit (.xcode (.xlp (.xblk (.code (.seq (.seq (rq1 rfl rfl (aS rfl rfl (.nil (.code (.block ?_)))))))))))
 refine Wk.lop (α:=Nat×Value×List Y) (fun gh=>[(5,true,gh.2.1),(6,true,.int .i64 (56-8*(gh.1:Int)))]) (fun gh=>[rB gh.2.1 5 gh.2.2])
  (fun gh Gl=>(gh.1≤8)∧(gh.2.2=(128#8 :: List.replicate (zeros xs.length) 0#8)++lenB xs.length gh.1)) (fun gh=>8-gh.1) (0,_,_) [(2,true,_),(3,true,_),(4,true,_)] [_,_,_,_,_]
  (esD rfl (esC rfl (by first|rfl|exact evi (by omega)) (esD rfl (esD rfl (esD rfl eZ)))))
  (mS .here rfl (mS .here rfl (mS .here rfl (mS .here rfl (mS .here rfl (mS .here rfl mN)))))) ?_ ?_
 ·refine ⟨?_,?_⟩
  ·(try dsimp only)<;>(first|omega|rfl|assumption|(simp; done))
  (try dsimp only)<;>(rw [eL,show j=zeros xs.length by omega]; simp [lenB])
 intro gh N1 Gl1 hN1 hGl1 hF1
 obtain ⟨q,v,L⟩:=gh; dsimp only at hF1 hN1 ⊢
 obtain ⟨hq,eL⟩:=hF1
 have hK:=hK.mono hGl1
 have lL:L.length=zeros xs.length+1+q:=by rw [eL]; simp [lenB_len]; omega
 refine .seq (.seq (rq2 rfl rfl (mV rfl rfl (cp rfl .no (.u rfl) (.u rfl) rfl (.nil (.code (.cond rfl (fun c2=>?_) (fun c2=>?_))))))))
 ·have c2k:=c2
  try simp only [qcA,qcB] at c2
  refine .skip (.code (.seq (.block (rq8 rfl rfl (mV rfl rfl (mV rfl rfl (mV rfl rfl (rw' (k:=.u64) rfl .no (.u rfl) (.u rfl) (fun _=>by omega) ?_))))))))
  refine cu (k:=.u64) rfl .no rfl Fx.cv26_5 (.u rfl) ?_
  refine Go.Tan.b1 rfl Fx.se24 Fx.zv5 (.u rfl) rfl rfl (by decide) ?_; intro b53
  refine apY rfl Fx.se24 Fx.zv5 (.u rfl) (.u rfl) tk1 (Sc.one .here) (by show _+1≤_; omega) ?_
  intro v54 L54 ov54 eL54
  have lL54:L54.length=L.length+1:=by rw [eL54,List.length_append]; first|rfl | simp [yl_len]
  refine aS rfl rfl (.nil (.blk (.code (rq3 rfl rfl (mV rfl rfl (ar rfl .no (.u rfl) (.u rfl) rfl (fun _=>wrap_i64 (by omega) (by omega)) ?_))))))
  refine aS rfl rfl (.nil (We.lpo (q+1,v54,L54) ?_ ?_ ?_ ?_ ?_))
  ·exact (esD rfl (esC rfl (by first|rfl|exact evi (by omega)) (esD rfl (esD rfl (esD rfl eZ)))))
  ·exact (mS .here rfl (mS tk1 rfl (mS tk1 rfl (mS tk1 rfl (mS tk1 rfl (mS tk1 rfl mN))))))
  ·first|omega|(dsimp only; omega)
  ·exact hGl1
  refine ⟨?_,?_⟩
  ·(try dsimp only)<;>(first|omega|rfl|assumption|(simp; done))
  (try dsimp only)<;>(rw [eL54,eL,lenB_snoc,←List.append_assoc,lenF_int (by omega)]; rfl)
 have c2k:=c2
 try simp only [qcA,qcB] at c2
 refine .exit (.xcode (.xlp (.xblk (.code (.seq ?_)))))
 have e8:L=tailL xs.length:=by rw [eL,show q=8 by omega]; rfl
 subst e8
 have lt:=tail_len xs.length
 have hz:zeros xs.length=(119-xs.length%64)%64:=rfl
 refine wk_fb .here (keys_sub (mS tk3 rfl (mS tk3 rfl mN))) ?_; intro GfR31 hR31 hleR31 evR31 hsR31; subst evR31
 have hK:=hK.mono hleR31
 refine rq2 rfl rfl (mV rfl rfl (ka rfl (.inr rfl) Fx.go128 (Evc rfl (Evc rfl Evn)) (mtk2 .here .here) (put_ok xs (tailL xs.length) _ _ _ _ hsR31 hK (by omega)) ?_))
 rintro _ G56 μ56 hG56 ⟨vq,rfl,rfl⟩
 refine .nil (.code (.seq (rq1 rfl rfl ?_)))
 refine al rfl Fx.zq23 ?_; intro b7
 refine .nil (.code (.seq (.seq (rq1 rfl rfl (mV rfl rfl (.nil (.code (.block ?_))))))))
 refine Wk.lop (α:=Nat×(Nat→Y)) (fun gh=>[(57,true,.int .i64 (gh.1:Int))]) (fun gh=>[.blk b7 (cl (ba 32 gh.2) 23)])
  (fun gh Gl=>(gh.1≤32)∧(gh.2=outs (shaD xs) gh.1)) (fun gh=>32-gh.1) (0,fun _=>0#8) [(2,true,_),(3,true,_),(7,true,_)] [_,_,_,_,_]
  (esC rfl (by first|rfl|exact evi (by omega)) (esD rfl (esD rfl (esD rfl eZ))))
  (mS .here rfl (mS .here rfl (mS .here rfl (mS .here rfl (mS .here rfl (mS .here rfl mN)))))) ?_ ?_
 ·refine ⟨?_,?_⟩
  ·(try dsimp only)<;>(first|omega|rfl|assumption|(simp; done))
  (try dsimp only)<;>(first|omega|rfl|assumption|(simp; done))
 intro gh N2 Gl2 hN2 hGl2 hF2
 obtain ⟨i,f⟩:=gh; dsimp only at hF2 hN2 ⊢
 obtain ⟨hi,ef⟩:=hF2
 refine .seq (rq1 rfl rfl (cp rfl .no (.u rfl) (.u rfl) rfl (.nil (.code (.seq (.cond rfl (fun c3=>?_) (fun c3=>?_)))))))
 ·have c3k:=c3
  try simp only [qcA,qcB] at c3
  refine .skip (.code (.seq (.block (.seq (rq2 rfl rfl (mV rfl rfl (aS rfl rfl (.nil (.code (Wk.rg [0,1,2,3,4,5,6,7,8,9,10,11,12,13] rfl rfl (mV rfl rfl (mV rfl rfl (qun (i) (4) rfl .no (.u rfl) (.u rfl) (fun _=>by omega) (fun _=>by omega) (fun _=>by first|decide|omega) (fun _=>by omega) ?_)))))))))))))
  refine fz rfl .no Fx.fo181_0 (.u rfl) (iA rfl .no Fx.ar179 (.u rfl) (.u rfl) (fun _=>by omega) (fun _=>by omega) ?_)
  refine ld rfl .no Fx.ag130 (.u rfl) (fun _=>Rd.own tk1 (by first|exact wa_at1 ((i / 4)) (by omega) (by omega)|exact ba_at1 ((i / 4)) (by omega) (by omega)|exact wap_at1 ((i / 4)) (by omega) (by omega)|rfl)) ?_
  refine mV rfl rfl (rmn (i) (4) rfl .no (.u rfl) (.u rfl) (fun _=>by omega) (fun _=>by omega) (fun _=>by first|decide|omega) ?_)
  refine arn (((8*(i%4)):Nat):Int) rfl .no (.u rfl) (.u rfl) rfl (fun _=>by omega) (fun _=>wrap_i64 (by omega) (by omega)) ?_
  refine arn (((24-8*(i%4)):Nat):Int) rfl .no (.u rfl) (.u rfl) rfl (fun _=>by omega) (fun _=>wrap_i64 (by omega) (by omega)) ?_
  refine rw' (k:=.u32) rfl .no (.u rfl) (.u rfl) (fun _=>by omega) ?_
  refine cu (k:=.u32) rfl .no rfl Fx.cv130_5 (.u rfl) ?_
  refine iA rfl .no Fx.ar23 (.u rfl) (.u rfl) (fun _=>by omega) (fun _=>by omega) ?_
  refine s1 rfl (.u rfl) (.u rfl) rfl Fx.sz5 .here (by first|decide|(simp only [wa_len,ba_len,qlA]; omega)) (by first|exact wa_set1 (i) (by omega)|exact ba_set1 (i) (by omega)|exact wap_set1 (i) (by omega) (by omega)|rfl) ?_
  refine .nil (.blk (.code (rq2 rfl rfl (arn (((i+1):Nat):Int) rfl .no (.u rfl) (.u rfl) rfl (fun _=>by omega) (fun _=>wrap_i64 (by omega) (by omega)) ?_))))
  refine mV rfl rfl (.nil (We.lpo (i+1,upd f i (shaD xs i)) ?_ ?_ ?_ ?_ ?_))
  ·exact (esC rfl (by first|rfl|exact evi (by omega)) (esD rfl (esD rfl (esD rfl eZ))))
  ·exact (mS .here rfl (mS .here rfl (mS .here rfl (mS .here rfl (mS .here rfl (mS .here rfl mN))))))
  ·first|omega|(dsimp only; omega)
  ·exact hGl2
  refine ⟨?_,?_⟩
  ·(try dsimp only)<;>(first|omega|rfl|assumption|(simp; done))
  (try dsimp only)<;>(rw [ef]; rfl)
 have c3k:=c3
 try simp only [qcA,qcB] at c3
 refine .exit (.xcode (.xlp (.xblk (.code (.seq (rq2 rfl rfl (lA rfl .no Fx.ag23 (.u rfl) (fun _=>RdN.own .here) (fun _=>(by first|exact qE|exact qL|rfl)) ?_)))))))
 refine sw rfl (.u rfl) (.u rfl) rfl Fx.sz23 tk3 (by first|exact qE|exact qL|rfl) (by first|exact ba_one _ _|exact wa_one _ _|exact one_V _|decide|exact one_app (wa_one _ _) (by simp [Value.oneCell'])) ?_
 refine .nil (.code (.ret (We.fin Tryz.results129 (.cell rfl (fun w hw=>run_loadVarN Fx.ag23 (RdN.own .here) ((by first|exact qE|exact qL|rfl)) hw) .nil) (mS tk4 rfl (mS tk4 rfl mN)) ?_)))
 obtain rfl:i=32:=by omega
 exact ⟨rfl,by rw [ef,ba_congr (fun i hi=>(outs_eq (shaD xs) hi).symm)]; rfl⟩
end Go.Proofs.YtdeobooblmjlfaaGreatDoor
namespace Go.Tan
open Go.RowKit
structure PB (G:PM) (b:Nat) (o:Obj):Prop where
 h:G b=some o
theorem PB.mono {G G':PM} {b:Nat} {o:Obj} (h:PB G b o) (hle:PM.le G G'):PB G' b o:=⟨hle b o h.h⟩
theorem PB.rdn {G:PM} {b o m:Nat} {cs cs':List Value} {T:TypeId} (h:PB G b (cl cs T)) (hc:(cs.drop o).take m=cs'):RdNP G b o cs':=fun j v hj=>by
 subst hc
 refine RdP.blk h.h ?_
 rw [List.getElem?_take] at hj
 split at hj
 ·rw [List.getElem?_drop] at hj; exact hj
 cases hj
theorem PB.rd {G:PM} {b o:Nat} {cs:List Value} {T:TypeId} {v:Value} (h:PB G b (cl cs T)) (hv:cs[o]? = some v):RdP G ⟨b,o,none⟩ v:=RdP.blk h.h hv
theorem PB.sl {G:PM} {b o m cap:Nat} {cs:List Value} {T:TypeId} {f:Nat→Y} (h:PB G b (cl cs T)) (hc:(cs.drop o).take m=ba m f) (hm:m≤cap):SlR G 1 encY ⟨some ⟨b,o,none⟩,cap⟩ (yl m f) :=
 SlR.ofRow (fun _ _=>rfl) (by rw [yl_len]; exact hm) (fun _=>rfl) (by rw [yl_flat]; exact h.rdn hc)
theorem SlR.arr {G:PM} {s:Sh} {xs:List Y} {m:Nat} (h:SlR G 1 encY s xs) (hm:m≤xs.length):RdNP G s.b s.o (ba m (fun i=>xs.getD i 0)):=by
 intro j v hj
 have hlt:j<m:=by have:=(List.getElem?_eq_some_iff.1 hj).1; rwa [ba_len] at this
 rw [ba_at hlt] at hj
 obtain rfl:=Option.some.inj hj
 have:=h.rd j (xs.getD j 0) (by simp [show j<xs.length by omega]) 0 _ rfl
 simpa using this
theorem ba_take {m q:Nat} {f:Nat→Y} (h:q≤m):((ba m f).drop 0).take q=ba q f:=by
 rw [List.drop_zero]
 refine List.ext_getElem? fun j=>?_
 rw [List.getElem?_take]
 by_cases hj:j<q
 ·rw [if_pos hj,ba_at hj,ba_at (by omega)]
 rw [if_neg hj,List.getElem?_eq_none (by rw [ba_len]; omega)]
theorem ba_all {m:Nat} {f:Nat→Y}:((ba m f).drop 0).take m=ba m f:=ba_take (Nat.le_refl m)
theorem app_l {m:Nat} {f:Nat→Y} {r:List Value}:((ba m f++r).drop 0).take m=ba m f:=by
 rw [List.drop_zero,List.take_append_of_le_length (by rw [ba_len]; exact Nat.le_refl _),List.take_of_length_le (by rw [ba_len]; exact Nat.le_refl _)]
theorem app_r {m q:Nat} {f f':Nat→Y}:((ba m f++ba q f').drop m).take q=ba q f':=by
 have h:(ba m f++ba q f').drop m=ba q f':=by have:=List.drop_left (l₁:=ba m f) (l₂:=ba q f'); rwa [ba_len] at this
 rw [h,List.take_of_length_le (by rw [ba_len]; exact Nat.le_refl _)]
def encP (p:Sh×List Y):List Value:=[p.1.val p.2.length]
structure SlP (G:PM) (h:Sh) (ps:List (Sh×List Y)):Prop where
 sl:SlR G 1 encP h ps
 all:∀ p∈ps,SlR G 1 encY p.1 p.2
theorem SlP.mono {G G':PM} {h:Sh} {ps:List (Sh×List Y)} (s:SlP G h ps) (hle:PM.le G G'):SlP G' h ps:=⟨s.sl.mono hle,fun p hp=>(s.all p hp).mono hle⟩
theorem getx {α:Type} {k:Nat} {xs:List α} (h:k<xs.length):∃ x,xs[k]? = some x:=⟨xs[k],by simp [h]⟩
theorem SlP.at {G:PM} {h:Sh} {ps:List (Sh×List Y)} (s:SlP G h ps) {j:Int} (k:Nat) {p:Sh×List Y} (hj:j.toNat=k) (hp:ps[k]? = some p):RdP G ⟨h.b,h.o+j.toNat*1,none⟩ (p.1.val p.2.length):=by
 have:=(s.sl.nth k hj hp) 0 _ rfl
 simpa using this
theorem SlP.get {G:PM} {h:Sh} {ps:List (Sh×List Y)} (s:SlP G h ps) {k:Nat} {p:Sh×List Y} (hp:ps[k]? = some p):SlR G 1 encY p.1 p.2:=s.all p (List.mem_of_getElem? hp)
def catL (ps:List (Sh×List Y)):List Y:=ps.flatMap (·.2)
theorem cat_take {ps:List (Sh×List Y)} {k:Nat} {p:Sh×List Y} (hp:ps[k]? = some p):catL (ps.take (k+1))=catL (ps.take k)++p.2:=by
 have hlt:k<ps.length:=(List.getElem?_eq_some_iff.1 hp).1
 have e:ps[k]=p:=(List.getElem?_eq_some_iff.1 hp).2
 rw [catL,List.take_succ_eq_append_getElem hlt,List.flatMap_append,e]; simp [catL]
theorem cat_len {ps:List (Sh×List Y)} {k:Nat} {p:Sh×List Y} (hp:ps[k]? = some p):(catL (ps.take k)).length+p.2.length≤(catL ps).length:=by
 have h1:=congrArg List.length (cat_take hp)
 rw [List.length_append] at h1
 rw [← h1]
 conv=>rhs; rw [← List.take_append_drop (k+1) ps]
 rw [catL,catL,List.flatMap_append,List.length_append]; omega
section
variable {dr:Bool} {mc:Md} {P:Program} {n:Nat} {l:List Oper} {K:Env→PM→Mem→Prop} {i:Nat} {σ:List Nat} {ρ:Env} {G:PM} {μ:Mem}
variable {d t:Nat} {p:String} {af:Array Edge} {g:Option (Nat×Bool)} {c:Bool}
theorem wk_fz {X:Cx} {cd:Code} {k:List KI} {b:Nat} {o:Obj} {μ':Mem} (hm:MTake μ (.blk b o) μ') (hK:∀ b∈X.K0,b∈keys μ') (h:∀ G',PM.le G G'→PB G' b o→Wk X cd k ρ G' μ'):Wk X cd k ρ G μ :=
 ⟨fun a w ha ht=>by
  have ht':=ht.perm hm.perm
  have hk:keys (.blk b o :: μ')=b :: keys μ':=by simp [keys,Res.keys]
  have hnd:=ht'.sat.nodup
  rw [hk] at hnd
  have hG:G b=none:=ht'.sat.apart b (by rw [hk]; exact List.mem_cons_self ..)
  exact (h _ (PM.le_add hG) ⟨PM.add_same G b o⟩).out a w ha (ht'.freeze fun hb=>(List.nodup_cons.1 hnd).1 (hK b hb))⟩
theorem kA {T T' m e b o:Nat} {x:Operand} {cs:List Value} {f:Nat→Y} (ho:nth l i=some ⟨some d,.slice T x none none none,t,p,af,g⟩) (hg:Gd l ρ g c) (hT:arE P T=some (m,e,1)) (hx:Ev ρ c x (.pointer (some ⟨b,o,none⟩))) (hG:PB G b (cl cs T')) (hc:(cs.drop o).take m=ba m f)
  (h:∀ s' L,L=yl m f→L.length=m→SlR G 1 encY s' L→Wo dr mc P n l K σ ((d,c,s'.val L.length) :: ρ) G μ):Wo dr mc P n l K (i :: σ) ρ G μ:=by
 refine sa0 ho hg hT hx ?_
 have:=h ⟨some ⟨b,o,none⟩,m⟩ (yl m f) rfl (yl_len m f) (hG.sl hc (Nat.le_refl m))
 rw [yl_len] at this
 exact this
theorem sah {T m e sz:Nat} {x z:Operand} {k:IntKind} {b o:Nat} {hi:Int} (ho:nth l i=some ⟨some d,.slice T x none (some z) none,t,p,af,g⟩) (hg:Gd l ρ g c) (hT:arE P T=some (m,e,sz)) (hx:Ev ρ c x (.pointer (some ⟨b,o,none⟩))) (hz:Ev ρ c z (.int k hi))
  (h0:c=true→0≤hi) (h1:c=true→hi≤m) (h:Wo dr mc P n l K σ ((d,c,.slice (some ⟨b,o,none⟩) hi.toNat m) :: ρ) G μ):Wo dr mc P n l K (i :: σ) ρ G μ :=
 .pure ho (.inl rfl) hg (fun hc a w ha=>by
  obtain ⟨hu,inf,hi',hs⟩:=arE_some hT
  have e0:=h0 hc; have e1:=h1 hc
  simp [execOp,hx.eval ha hc,hz.eval ha hc,Instr.sliceAt,run_underlying hu,Instr.sureAddr,Instr.sliceBounds,Instr.sliceBound,asIntOf,sizeOf,typeInfo,hi',e0,e1,add_zero']) h
theorem sp {T m e sz k cap:Nat} {x:Operand} {ad:Addr} (ho:nth l i=some ⟨some d,.sliceToArrayPointer T x,t,p,af,g⟩) (hg:Gd l ρ g c) (hT:arE P T=some (m,e,sz)) (hx:Ev ρ c x (.slice (some ad) k cap)) (hm:c=true→m≤k)
  (h:Wo dr mc P n l K σ ((d,c,.pointer (some ad)) :: ρ) G μ):Wo dr mc P n l K (i :: σ) ρ G μ :=
 .pure ho (.inl rfl) hg (fun hc a w ha=>by
  obtain ⟨hu,inf,hi',hs⟩:=arE_some hT
  have:=hm hc
  simp [execOp,hx.eval ha hc,Instr.arrayAt,run_underlying hu,show ¬ k<m by omega]) h
theorem spS {T m e sz:Nat} {x:Operand} {s:Sh} {xs:List Y} (ho:nth l i=some ⟨some d,.sliceToArrayPointer T x,t,p,af,g⟩) (hg:Gd l ρ g c) (hT:arE P T=some (m,e,sz)) (hs:SlR G 1 encY s xs) (hx:Ev ρ c x (s.val xs.length)) (hm:c=true→m≤xs.length) (h0:0<m)
  (h:Wo dr mc P n l K σ ((d,c,.pointer (some ⟨s.b,s.o,none⟩)) :: ρ) G μ):Wo dr mc P n l K (i :: σ) ρ G μ :=
 .pure ho (.inl rfl) hg (fun hc a w ha=>by
  obtain ⟨hu,inf,hi',hsz⟩:=arE_some hT
  have h1:=hm hc
  have e:=hs.nn (k:=0) (by omega)
  have hx':=hx.eval ha hc
  simp only [Sh.val] at hx'
  rw [e] at hx'
  simp [execOp,hx',Instr.arrayAt,run_underlying hu,show ¬ xs.length<m by omega]) h
def baT (P:Program) (T m:Nat):Bool:=match P.underlying T with
 | some (.array k e)=>(match P.underlying e with | some (.int .u8)=>true | _=>false)&&Nat.beq k m&&Nat.beq (P.cellsOf e) 1&&Nat.beq (P.cellsOf T) m&&P.keyTypeAt 2 T && !P.eqGuardType P.depth T
 | _=>false
def WoT (P:Program) (n:Nat) (l:List Oper) (K:Env→PM→Mem→Prop):Nat→Array Bool→Env→PM→Mem→Prop
 | 0,listed,ρ,G,μ=>rdy l listed=[]∧K ρ G μ
 | m+1,listed,ρ,G,μ=>rdy l listed≠[]∧∀ j∈rdy l listed,Wo false (⟨false,false⟩ : Md) P n l (fun ρ' G' μ'=>WoT P n l K m (listed.setIfInBounds j true) ρ' G' μ') [j] ρ G μ
theorem WoT.any {K:Env→PM→Mem→Prop} {Q:Exit→Act→World→Prop} {G0:PM} {K0:List Nat} {w0:World} (hds:∀ j oj,nth l j=some oj→dstOk n oj.dst)
  (hQ:∀ ρ G μ,K ρ G μ→∀ a w,Ag n ρ a→Tr G0 K0 w0 G μ w→Q .normal a w) :
  ∀ (m:Nat) (listed:Array Bool) (ρ:Env) (G:PM) (μ:Mem) (a:Act) (w:World),WoT P n l K m listed ρ G μ→Ag n ρ a→Tr G0 K0 w0 G μ w→wpAny P .any l.toArray Q m listed a w
 | 0,listed,ρ,G,μ,a,w,H,ha,ht=>⟨H.1,hQ _ _ _ H.2 a w ha ht⟩
 | m+1,listed,ρ,G,μ,a,w,H,ha,ht=>by
  refine ⟨fun h0=>absurd h0 H.1,fun j hj=>?_⟩
  obtain ⟨o,ho,h⟩:=(H.2 j hj).head ha ht (next:=wpAny P .any l.toArray Q m (listed.setIfInBounds j true)) (Q:=Q) hds
   (fun ρ' G' μ' a' w' H' ha' ht'=>by cases H' with | nil h=>exact WoT.any hds hQ m _ ρ' G' μ' a' w' h ha' ht')
  simp only [wpOp,nth_eq,ho]
  split
  ·rename_i hw; rw [if_pos hw] at h; exact .inl h
  rename_i hw; rw [if_neg hw] at h; exact h
theorem Wk.drawT {X:Cx} {k:List KI} {id:Nat} {ρ:Env} {G:PM} {μ:Mem} {l:List Oper} (hm:X.P.follows .mixedOrders=true) (hds:dstAll X.n l=true)
  (h:WoT X.P X.n l (fun ρ G μ=>We X .normal k ρ G μ) l.length (Array.replicate l.length false) ρ G μ):Wk X (.region id l.toArray true) k ρ G μ:=by
 refine ⟨fun a w ha ht=>wp_region_any hm ?_⟩
 have:=WoT.any (Q:=Qof X k) (dstAll_ok hds) (fun _ _ _ h a w ha ht=>h.out a w ha ht) l.length (Array.replicate l.length false) ρ G μ a _ h ha ht.drew
 simpa using this
theorem WoT.last {K:Env→PM→Mem→Prop} {listed:Array Bool} (hr:rdy l listed=[]) (h:K ρ G μ):WoT P n l K 0 listed ρ G μ:=⟨hr,h⟩
theorem WoT.n1 {K:Env→PM→Mem→Prop} {m:Nat} {listed:Array Bool} (j:Nat) (hr:rdy l listed=[j]) (h:Wo false (⟨false,false⟩ : Md) P n l (fun ρ' G' μ'=>WoT P n l K m (listed.setIfInBounds j true) ρ' G' μ') [j] ρ G μ):WoT P n l K (m+1) listed ρ G μ :=
 ⟨by rw [hr]; simp,fun j' hj'=>by rw [hr] at hj'; obtain rfl:=List.mem_singleton.1 hj'; exact h⟩
theorem WoT.n2 {K:Env→PM→Mem→Prop} {m:Nat} {listed:Array Bool} (j j2:Nat) (hr:rdy l listed=[j,j2]) (h:Wo false (⟨false,false⟩ : Md) P n l (fun ρ' G' μ'=>WoT P n l K m (listed.setIfInBounds j true) ρ' G' μ') [j] ρ G μ)
  (h2:Wo false (⟨false,false⟩ : Md) P n l (fun ρ' G' μ'=>WoT P n l K m (listed.setIfInBounds j2 true) ρ' G' μ') [j2] ρ G μ):WoT P n l K (m+1) listed ρ G μ :=
 ⟨by rw [hr]; simp,fun j' hj'=>by
  rw [hr] at hj'
  rcases List.mem_cons.1 hj' with rfl | hj'
  ·exact h
  ·obtain rfl:=List.mem_singleton.1 hj'; exact h2⟩
def csT (P:Program) (S:TypeId):Bool:=match P.underlying S with
 | some (.slice e)=>match P.underlying e with | some (.int .u8)=>true | _=>false
 | _=>false
theorem freeze_at {w:World} {b k E:Nat} {C:Array Value} (hb:w.heap[b]? = some (.cells C E (0,0))):∃ fr,(w.freeze ⟨b,k,none⟩ 1).heap[b]? = some (.cells C E fr)∧(∀ c,c≠b→(w.freeze ⟨b,k,none⟩ 1).heap[c]? = w.heap[c]?)∧(w.freeze ⟨b,k,none⟩ 1).heap.size=w.heap.size∧(w.freeze ⟨b,k,none⟩ 1).os=w.os∧(w.freeze ⟨b,k,none⟩ 1).tape=w.tape∧(w.freeze ⟨b,k,none⟩ 1).output=w.output:=by
 unfold World.freeze
 rw [if_neg (by decide)]
 refine ⟨(k,k+1),?_,fun c hc=>?_,by simp,rfl,rfl,rfl⟩
 ·have hlt:b<w.heap.size:=(Array.getElem?_eq_some_iff.1 hb).1
  have hv:=(Array.getElem?_eq_some_iff.1 hb).2
  rw [Array.getElem?_eq_getElem (by simpa using hlt),Array.getElem_modify]; simp [hv]
 simp only [Array.getElem?_modify]
 rw [if_neg (fun e=>hc e.symm)]
theorem mkS {S E b m cap:Nat} {x:Operand} {cs:List Value} {μ':Mem} (ys:List Y) (hdf:dr=false) (ho:nth l i=some ⟨some d,.convert S S x,t,p,af,none⟩) (hS:csT P S=true) (hx:Ev ρ true x (.slice (some ⟨b,0,none⟩) m cap)) (hm:MTake μ (.blk b (cl cs E)) μ') (hcs:cs=ys.map V) (hn:ys.length=m) (hcap:m≤cap)
  (h:∀ G',PM.le G G'→SlR G' 1 encY ⟨some ⟨b,0,none⟩,cap⟩ ys→Wo dr mc P n l K σ ((d,true,Sh.val ⟨some ⟨b,0,none⟩,cap⟩ ys.length) :: ρ) G' μ'):Wo dr mc P n l K (i :: σ) ρ G μ:=by
 subst hn; subst hcs
 refine .act (μ₁:=[.blk b (cl (ys.map V) E)]) (μ₂:=μ') (post:=fun G' μ' v=>μ'=[]∧v=.slice (some ⟨b,0,none⟩) ys.length cap∧∃ fr,G' b=some (.cells (ys.map V).toArray E fr)) ho (.inr hdf) .no hm.perm (fun a w ha hs=>.inl ?_) ?_
 ·unfold csT at hS
  split at hS
  ·rename_i e hu
   split at hS
   ·rename_i hue
    have hs':=hs.left
    have hb:w.heap[b]? = some (cl (ys.map V) E):=hs'.own _ (List.mem_singleton.2 rfl)
    have hG:G b=none:=hs'.apart b (by simp [keys,Res.keys])
    obtain ⟨fr,h1,h2,h3,h4,h5,h6⟩:=freeze_at (k:=(ys.map V).toArray.size) hb
    have hsh:w.shape? b=some (E,(ys.map V).toArray.size):=by unfold World.shape?; rw [hb]
    refine ⟨_,w.freeze ⟨b,(ys.map V).toArray.size,none⟩ 1,G.add b (.cells (ys.map V).toArray E fr),[],.inl ?_,?_,rfl,rfl,fr,PM.add_same _ _ _⟩
    ·simp [execOp,hx.eval ha rfl,convert,run_underlying hu,run_underlying hue,markStringish,hsh]
    refine ⟨⟨fun c u hc=>?_,(fun r hr=>nomatch hr),(fun c hc=>nomatch hc),List.nodup_nil⟩,h4,h5,h6,by omega,fun c hc hK=>?_,(fun c hc=>nomatch hc),fun c u hK hc=>?_⟩
    ·unfold PM.add at hc
     split at hc
     ·rename_i e; subst e; rw [← hc]; exact h1
     rename_i hne; rw [h2 c hne]; exact hs.sub c u hc
    ·have hne:c≠b:=fun e=>hK (by simp [keys,Res.keys,e])
     exact ⟨h2 c hne,by unfold PM.add; rw [if_neg hne]⟩
    have hne:c≠b:=fun e=>hK (by simp [keys,Res.keys,e])
    unfold PM.add; rw [if_neg hne]; exact hc
   cases hS
  cases hS
 rintro v G' μ'' hle ⟨rfl,rfl,fr,hG'⟩
 refine h G' hle (SlR.ofRow (fun _ _=>rfl) hcap (fun _=>rfl) ?_)
 rw [flat_V]
 intro j u hj w hs
 show w.cell? ⟨b,0+j,none⟩=some u
 rw [Nat.zero_add,cell_of_row w b j _ E fr (hs b _ hG')]
 simpa using hj
theorem wo_b {e:Bool} {dd:Nat} (e':Bool) (h:e=e') (H:Wo dr mc P n l K σ ((dd,c,.bool e') :: ρ) G μ):Wo dr mc P n l K σ ((dd,c,.bool e) :: ρ) G μ:=by rw [h]; exact H
theorem mw {T T':TypeId} {x y:Operand} {k:IntKind} {a b:BitVec k.bits} (ho:nth l i=some ⟨some d,.binOp .rem T x y T',t,p,af,g⟩) (hg:Gd l ρ g c) (hx:Ev ρ c x (uv k a)) (hy:Ev ρ c y (uv k b)) (h0:c=true→b≠0#k.bits)
  (h:Wo dr mc P n l K σ ((d,c,uv k (a%b)) :: ρ) G μ):Wo dr mc P n l K (i :: σ) ρ G μ :=
 .pure ho (.inl rfl) hg (fun hc q w ha=>by
  have e1:=hx.eval ha hc; have e2:=hy.eval ha hc
  have hq:(eqGuard .rem T x y (uv k a) (uv k b)).run P w=.ok () w:=eqGuard_int ..
  have hb:(b.toNat:Int)≠0:=fun e=>h0 hc (BitVec.eq_of_toNat_eq (by simpa using e))
  have e3:((a.toNat:Int).tmod (b.toNat:Int))=(((a%b).toNat:Nat):Int):=by rw [BitVec.toNat_umod]; rfl
  have hb2:¬ b.toNat=0:=fun e=>hb (by rw [e]; rfl)
  simp only [execOp,e1,e2,Sem.run_bind,hq,Result.andThen_ok]
  simp [binOp,uv,Op.intDiv,hb2]
  simpa using e3) h
theorem dw {T T':TypeId} {x y:Operand} {k:IntKind} {a b:BitVec k.bits} (ho:nth l i=some ⟨some d,.binOp .quo T x y T',t,p,af,g⟩) (hg:Gd l ρ g c) (hk:k.signed=false) (hx:Ev ρ c x (uv k a)) (hy:Ev ρ c y (uv k b)) (h0:c=true→b≠0#k.bits)
  (h:Wo dr mc P n l K σ ((d,c,uv k (a / b)) :: ρ) G μ):Wo dr mc P n l K (i :: σ) ρ G μ :=
 .pure ho (.inl rfl) hg (fun hc q w ha=>by
  have e1:=hx.eval ha hc; have e2:=hy.eval ha hc
  have hq:(eqGuard .quo T x y (uv k a) (uv k b)).run P w=.ok () w:=eqGuard_int ..
  have hb:(b.toNat:Int)≠0:=fun e=>h0 hc (BitVec.eq_of_toNat_eq (by simpa using e))
  have e3:k.wrap ((a.toNat:Int).tdiv (b.toNat:Int))=(((a / b).toNat:Nat):Int):=by
   have:((a.toNat:Int).tdiv (b.toNat:Int))=(((a / b).toNat:Nat):Int):=by rw [BitVec.toNat_udiv]; rfl
   rw [this,wrap_uv hk]
  have hb2:¬ b.toNat=0:=fun e=>hb (by rw [e]; rfl)
  simp only [execOp,e1,e2,Sem.run_bind,hq,Result.andThen_ok]
  simp [binOp,uv,Op.intDiv,hb2]
  simpa using e3) h
end
def fixL (n:BitVec 64) (many:Nat):List Y:=(List.range many).map fun j=>(n >>> (8*j)).setWidth 8
theorem fix_len (n:BitVec 64) (many:Nat):(fixL n many).length=many:=by simp [fixL]
theorem fix_snoc (n:BitVec 64) (k:Nat):fixL n (k+1)=fixL n k++[(n >>> (8*k)).setWidth 8]:=by simp [fixL,List.range_succ]
def crT (key nonce:Nat→Y) (count:W) (xs:List Y) (m:Nat):List Y:=yl xs.length fun i=>if i<m then crF key nonce count xs i else xs.getD i 0
theorem crT_len (key nonce:Nat→Y) (count:W) (xs:List Y) (m:Nat):(crT key nonce count xs m).length=xs.length:=yl_len _ _
theorem yl_congr {n:Nat} {f f':Nat→Y} (h:∀ i,i<n→f i=f' i):yl n f=yl n f':=by
 unfold yl
 refine List.map_congr_left fun i hi=>?_
 rw [h i (List.mem_range.1 hi)]
theorem yl_self (xs:List Y):yl xs.length (fun i=>xs.getD i 0)=xs:=by
 refine List.ext_getElem? fun i=>?_
 by_cases h:i<xs.length
 ·simp [yl,h]
 simp [yl,h]
theorem yl_set {n j:Nat} {f:Nat→Y} {z:Y}:(yl n f).set j z=yl n (upd f j z):=by
 refine List.ext_getElem? fun i=>?_
 rw [List.getElem?_set]
 by_cases h:j=i
 ·subst h
  by_cases hj:j<n
  ·simp [yl,upd,hj]
  simp [yl,hj]
 simp only [if_neg h]
 by_cases hi:i<n
 ·simp [yl,upd,hi,show ¬ i=j from fun e=>h e.symm]
 simp [yl,hi]
theorem crT_zero (key nonce:Nat→Y) (count:W) (xs:List Y):crT key nonce count xs 0=xs:=by
 unfold crT
 rw [yl_congr (f':=fun i=>xs.getD i 0) (fun i _=>by simp),yl_self]
theorem crT_all {key nonce:Nat→Y} {count:W} {xs:List Y} {m:Nat} (h:xs.length≤m):crT key nonce count xs m=crossL key nonce count xs:=by
 unfold crT crossL
 exact yl_congr fun i hi=>by rw [if_pos (by omega)]
theorem crT_step {key nonce:Nat→Y} {count:W} {xs:List Y} {j i:Nat} (hi:i<64) (hl:64*j+i<xs.length) :
  (crT key nonce count xs (64*j+i)).set (64*j+i) ((crT key nonce count xs (64*j+i)).getD (64*j+i) 0 ^^^ chaB key nonce (count+BitVec.ofNat 32 j) i)=crT key nonce count xs (64*j+(i+1)):=by
 unfold crT
 rw [yl_at hl,if_neg (by omega),yl_set]
 refine yl_congr fun q hq=>?_
 unfold upd
 by_cases h:q=64*j+i
 ·rw [if_pos h,if_pos (by omega),h]
  unfold crF
  rw [show (64*j+i) / 64=j by omega,show (64*j+i)%64=i by omega]
 rw [if_neg h]
 show (if q<64*j+i then crF key nonce count xs q else xs.getD q 0)=_
 by_cases h2:q<64*j+i
 ·rw [if_pos h2,if_pos (by omega)]
 rw [if_neg h2,if_neg (by omega)]
def keyL (key:List Y):List Y:=if key.length > 64 then shaL key else key
def padF (key:List Y) (by':Y):Nat→Y:=fun i=>if i<(keyL key).length then by' ^^^ (keyL key).getD i 0 else by'
def macL (key xs:List Y):Nat→Y:=shaD (yl 64 (padF key 92#8)++shaL (yl 64 (padF key 54#8)++xs))
def tagL (ad nonce crossed:List Y):List Y:=fixL (BitVec.ofInt 64 (ad.length:Int)) 8++ad++nonce++crossed
def tagF (mac nonce:Nat→Y) (ad crossed:List Y):Nat→Y:=macL (yl 32 mac) (tagL ad (yl 12 nonce) crossed)
def sealL (enc mac nonce:Nat→Y) (ad text:List Y):List Y:=crossL enc nonce 1#32 text++yl 16 (tagF mac nonce ad (crossL enc nonce 1#32 text))
def openL (enc mac nonce:Nat→Y) (ad s:List Y):Option (List Y) :=
 if s.length<16 then none
 else if yl 16 (tagF mac nonce ad (s.take (s.length-16)))=s.drop (s.length-16) then some (crossL enc nonce 1#32 (s.take (s.length-16))) else none
theorem cross_len (key nonce:Nat→Y) (count:W) (xs:List Y):(crossL key nonce count xs).length=xs.length:=yl_len _ _
theorem seal_len (enc mac nonce:Nat→Y) (ad text:List Y):(sealL enc mac nonce ad text).length=text.length+16:=by simp [sealL,cross_len,yl_len]
theorem cr_end {key nonce:Nat→Y} {count:W} {xs:List Y} {j i:Nat} (h:i=min (xs.length-64*j) 64):crT key nonce count xs (64*j+i)=crT key nonce count xs (64*(j+1)):=by
 unfold crT
 refine yl_congr fun q hq=>?_
 by_cases h1:q<64*j+i
 ·rw [if_pos h1,if_pos (by omega)]
 rw [if_neg h1,if_neg (by omega)]
theorem cut_oa {b o lo cap:Nat} (h:lo<cap) {q:Nat} (hq:q=o+lo):(Sh.cut ⟨some ⟨b,o,none⟩,cap⟩ lo 1).oa=some ⟨b,q,none⟩:=by
 subst hq
 unfold Sh.cut
 rw [if_neg (by show ¬ cap=lo; omega)]
 simp [add_lit]
theorem open_good {enc mac nonce:Nat→Y} {ad s:List Y} (h:16≤s.length) (hn:yl 16 (tagF mac nonce ad (s.take (s.length-16)))=s.drop (s.length-16)):openL enc mac nonce ad s=some (crossL enc nonce 1#32 (s.take (s.length-16))):=by
 unfold openL; rw [if_neg (by omega),if_pos hn]
theorem cross_cross (key nonce:Nat→Y) (count:W) (xs:List Y):crossL key nonce count (crossL key nonce count xs)=xs:=by
 conv=>rhs; rw [← yl_self xs]
 rw [crossL,cross_len]
 refine yl_congr fun i hi=>?_
 unfold crF
 rw [show (crossL key nonce count xs).getD i 0=crF key nonce count xs i from yl_at hi]
 unfold crF
 rw [BitVec.xor_assoc,BitVec.xor_self,BitVec.xor_zero]
theorem open_seal (enc mac nonce:Nat→Y) (ad text:List Y):openL enc mac nonce ad (sealL enc mac nonce ad text)=some text:=by
 have hl:=seal_len enc mac nonce ad text
 have hc:=cross_len enc nonce 1#32 text
 have ht:(sealL enc mac nonce ad text).take ((sealL enc mac nonce ad text).length-16)=crossL enc nonce 1#32 text:=by
  rw [hl,show text.length+16-16=(crossL enc nonce 1#32 text).length by omega]; exact List.take_left
 have hd:(sealL enc mac nonce ad text).drop ((sealL enc mac nonce ad text).length-16)=yl 16 (tagF mac nonce ad (crossL enc nonce 1#32 text)):=by
  rw [hl,show text.length+16-16=(crossL enc nonce 1#32 text).length by omega]; exact List.drop_left
 rw [open_good (by omega) (by rw [ht,hd]),ht,cross_cross]
theorem yl_snoc (k:Nat) (f:Nat→Y):yl (k+1) f=yl k f++[f k]:=by simp [yl,List.range_succ]
theorem byte_mod (m:BitVec 64):(m%256#64).setWidth 8=m.setWidth 8:=by
 apply BitVec.eq_of_toNat_eq
 simp [BitVec.toNat_setWidth,BitVec.toNat_umod]
theorem div256 (m:BitVec 64):m / 256#64=m >>> 8:=by
 apply BitVec.eq_of_toNat_eq
 simp [BitVec.toNat_udiv,BitVec.toNat_ushiftRight,Nat.shiftRight_eq_div_pow]
theorem Sc.arrh {G:PM} {μ μ':Mem} {b cap m q:Nat} {f:Nat→Y} {T:TypeId} (hm:MTake μ (.blk b (cl (ba m f) T)) μ') (hq:q≤m):Sc G μ (.slice (some ⟨b,0,none⟩) q cap) (yl q f) :=
 Sc.blk hm (yl_len q f) (by rw [yl_V]; exact ba_take hq)
end Go.Tan
namespace Go.Proofs.YtdeobooblmjlfaaGreatDoor
open Go.Tan Go.RowKit
namespace Fx
theorem go130:goFn Tryz.prog 130=true:=by kernel_rfl
theorem se54:slE Tryz.prog 54=some (24,1,24):=by kernel_rfl
theorem sn54:(slE Tryz.prog 54).isSome=true:=by kernel_rfl
theorem go129:goFn Tryz.prog 129=true:=by kernel_rfl
end Fx
theorem Fix_ok (xs:List Y) (h:Sh) (n:BitVec 64) (many:Nat) (G:PM) (hs:SlR G 1 encY h xs) (hl:xs.length≤140737488351232) (hm:many≤8):Ct Tryz.prog 24 ([h.val xs.length,uv .u64 n,.int .i64 (many:Int)]:List Value).toArray G [] (PR 5 (fun L=>L=xs++fixL n many)):=by
 refine Ct.of Tryz.func24 rfl Tryz.ntmps24 rfl fun w0 hs0=>?_
 refine .seq (rq1 rfl rfl (aS rfl rfl (.nil (.code (.seq (rq4 rfl rfl ?_))))))
 refine b0B rfl Fx.se24 ?_; intro b8
 refine mV rfl rfl (apY0 rfl Fx.se24 Fx.zv5 (.u rfl) (.u rfl) .here hs.sc (by (try simp only [qlA,yl_len]); omega) ?_)
 intro v10 L10 _ ov10 eL10
 have lL10:L10.length=xs.length:=by rw [eL10]
 refine aS rfl rfl (.nil (.code (.seq (.seq (rq4 rfl rfl (mV rfl rfl (mIn (many) (8) rfl .no (.u rfl) (.u rfl) (fun _=>by omega) (fun _=>by omega) ?_)))))))
 refine mAn (0) ((min many 8)) rfl .no (.u rfl) (.u rfl) (fun _=>by omega) (fun _=>by omega) ?_
 refine mV rfl rfl (.nil (.code (.block ?_)))
 refine Wk.lop (α:=Nat×Value×List Y×BitVec 64) (fun gh=>[(1,true,uv .u64 gh.2.2.2),(7,true,gh.2.1),(14,true,.int .i64 (gh.1:Int))]) (fun gh=>[rB gh.2.1 5 gh.2.2.1])
  (fun gh Gl=>(gh.1≤many)∧(gh.2.2.1=xs++fixL n gh.1)∧(gh.2.2.2=n >>> (8*gh.1))) (fun gh=>many-gh.1) (0,_,_,n) [(13,true,_)] []
  (esD rfl (esD rfl (esC rfl (by first|rfl|exact evi (by omega)) (esD rfl eZ))))
  (mS .here rfl mN) ?_ ?_
 ·refine ⟨?_,?_,?_⟩
  ·(try dsimp only)<;>(first|omega|rfl|assumption|(simp; done))
  ·(try dsimp only)<;>(rw [eL10]; simp [fixL])
  (try dsimp only)<;>(simp)
 intro gh N0 Gl0 hN0 hGl0 hF0
 obtain ⟨k,v,L,m⟩:=gh; dsimp only at hF0 hN0 ⊢
 obtain ⟨hk,eL,em⟩:=hF0
 have lL:L.length=xs.length+k:=by rw [eL]; simp [fix_len]
 refine .seq (rq1 rfl rfl (cp rfl .no (.u rfl) (.u rfl) rfl (.nil (.code (.seq (.cond rfl (fun c1=>?_) (fun c1=>?_)))))))
 ·have c1k:=c1
  try simp only [qcA,qcB] at c1
  refine .skip (.code (.seq (.block (.seq (rq6 rfl rfl (mV rfl rfl (mV rfl rfl (cu (k:=.u64) rfl .no rfl Fx.cv26_5 (.u rfl) ?_))))))))
  refine Go.Tan.b1 rfl Fx.se24 Fx.zv5 (.u rfl) rfl rfl (by decide) ?_; intro b19
  refine apY rfl Fx.se24 Fx.zv5 (.u rfl) (.u rfl) tk1 (Sc.one .here) (by show _+1≤_; omega) ?_
  intro v20 L20 ov20 eL20
  have lL20:L20.length=L.length+1:=by rw [eL20,List.length_append]; first|rfl | simp [yl_len]
  refine aS rfl rfl (.nil (.code (rq3 rfl rfl (mV rfl rfl (rw' (k:=.u64) rfl .no (.u rfl) (.u rfl) (fun _=>by decide) ?_)))))
  refine aS rfl rfl (.nil (.blk (.code (rq2 rfl rfl (arn (((k+1):Nat):Int) rfl .no (.u rfl) (.u rfl) rfl (fun _=>by omega) (fun _=>wrap_i64 (by omega) (by omega)) ?_)))))
  refine mV rfl rfl (.nil (We.lpo (k+1,v20,L20,m >>> 8) ?_ ?_ ?_ ?_ ?_))
  ·exact (esD rfl (esD rfl (esC rfl (by first|rfl|exact evi (by omega)) (esD rfl eZ))))
  ·exact (mS .here rfl mN)
  ·first|omega|(dsimp only; omega)
  ·exact hGl0
  refine ⟨?_,?_,?_⟩
  ·(try dsimp only)<;>(first|omega|rfl|assumption|(simp; done))
  ·(try dsimp only)<;>(rw [eL20,eL,em,fix_snoc,List.append_assoc]; rfl)
  (try dsimp only)<;>(rw [em,←BitVec.shiftRight_add]; rfl)
 have c1k:=c1
 try simp only [qcA,qcB] at c1
 refine .exit (.xcode (.xlp (.xblk (.code (.seq (rq2 rfl rfl (mV rfl rfl (aS rfl rfl (.nil (.code (.ret (We.fin Tryz.results24 (.tmp rfl .nil) (mS .here rfl mN) ?_))))))))))))
 obtain rfl:k=many:=by omega
 exact ⟨L,eL,rfl⟩
theorem Cross_ok (key nonce:Nat→Y) (count:W) (h:Sh) (xs:List Y) (G:PM) (hs:SlR G 1 encY h xs) (hl:xs.length≤140737488351232):Ct Tryz.prog 104 ([.agg (ba 32 key).toArray,.agg (ba 12 nonce).toArray,U count,h.val xs.length]:List Value).toArray G [] (PR 5 (fun L=>L=crossL key nonce count xs)):=by
 refine Ct.of Tryz.func104 rfl Tryz.ntmps104 rfl fun w0 hs0=>?_
 refine .seq (rq3 rfl rfl ?_)
 refine bx rfl (.u rfl) rfl ?_; intro b4
 refine bx rfl (.u rfl) rfl ?_; intro b5
 refine aS rfl rfl (.nil (.code (.seq (rq4 rfl rfl ?_))))
 refine b0B rfl Fx.se24 ?_; intro b14
 refine mV rfl rfl (apY0 rfl Fx.se24 Fx.zv5 (.u rfl) (.u rfl) .here hs.sc (by (try simp only [qlA,yl_len]); omega) ?_)
 intro v16 L16 _ ov16 eL16
 have lL16:L16.length=xs.length:=by rw [eL16]
 refine aS rfl rfl (.nil (.code (.seq (.seq ?_))))
 refine wk_rs .here ?_; intro sR16 bbR16 evR16 lcR16 oaR16; subst evR16
 obtain rfl:=eL16.symm
 refine rq2 rfl rfl (mV rfl rfl (aS rfl rfl (.nil (.code (.block ?_)))))
 refine Wk.lop (α:=Nat×Sh×List Y) (fun gh=>[(2,true,U (count+BitVec.ofNat 32 gh.1)),(10,true,gh.2.1.val (xs.length-64*gh.1))]) (fun gh=>[rB (sR16.val xs.length) 5 gh.2.2])
  (fun gh Gl=>(gh.2.2.length=xs.length)∧(gh.2.2=crT key nonce count xs (64*gh.1))∧(64*gh.1<xs.length→gh.2.1.oa=some ⟨bbR16,64*gh.1,none⟩)∧(xs.length-64*gh.1≤gh.2.1.cap)) (fun gh=>xs.length-64*gh.1) (0,sR16,xs) [(4,true,_),(5,true,_),(9,true,_)] [_,_]
  (esC rfl (by simp) (esD rfl (esD rfl (esD rfl (esD rfl eZ)))))
  (mS .here rfl (mS .here rfl (mS .here rfl mN))) ?_ ?_
 ·refine ⟨?_,?_,?_,?_⟩
  ·(try dsimp only)<;>(rfl)
  ·(try dsimp only)<;>(exact (crT_zero _ _ _ _).symm)
  ·(try dsimp only)<;>(exact oaR16)
  (try dsimp only)<;>(exact lcR16)
 intro gh N0 Gl0 hN0 hGl0 hF0
 obtain ⟨j,r,L⟩:=gh; dsimp only at hF0 hN0 ⊢
 obtain ⟨lL,eL,hr,hrc⟩:=hF0
 refine .seq (.seq (rq3 rfl rfl (mV rfl rfl (ln rfl .no Fx.sn24 (.u rfl) (cp rfl .no (.u rfl) (.u rfl) rfl (.nil (.code (.cond rfl (fun c1=>?_) (fun c1=>?_)))))))))
 ·have c1k:=c1
  try simp only [qcA,qcB] at c1
  refine .skip (.code (.seq (.block (.seq ?_))))
  have hlt:64*j<xs.length:=by omega
  have e1:=oaR16 (by omega)
  have e2:=hr hlt
  obtain ⟨so,sc⟩:=sR16
  obtain ⟨ro,rc⟩:=r
  simp only at e1 e2
  subst e1; subst e2
  refine rq6 rfl rfl (lA rfl .no Fx.ag22 (.u rfl) (fun _=>RdN.own tk2) (fun _=>(by first|exact qE|exact qL|rfl)) ?_)
  refine lA rfl .no Fx.ag92 (.u rfl) (fun _=>RdN.own tk1) (fun _=>(by first|exact qE|exact qL|rfl)) ?_
  refine mV rfl rfl (kv rfl .no Fx.go130 (Evc rfl (Evc rfl (Evc rfl Evn))) (fun _=>Block_ok _ _ _ _) ?_)
  refine al rfl Fx.zq172 ?_; intro b11
  refine sw rfl (.u rfl) (.u rfl) rfl Fx.sz172 .here (by first|exact qE|exact qL|rfl) (ba_one _ _) ?_
  refine .nil (.code (.seq (rq4 rfl rfl (mV rfl rfl (ln rfl .no Fx.sn24 (.u rfl) (mIn ((xs.length-64*j)) (64) rfl .no (.u rfl) (.u rfl) (fun _=>by omega) (fun _=>by omega) ?_))))))
  refine aS rfl rfl (.nil (.code (.seq (.seq (rq2 rfl rfl (mV rfl rfl (mV rfl rfl (.nil (.code (.block ?_))))))))))
  refine Wk.lop (α:=Nat×List Y) (fun gh=>[(31,true,.int .i64 (gh.1:Int))]) (fun gh=>[rB (Sh.val ⟨some ⟨bbR16,0,none⟩,sc⟩ xs.length) 5 gh.2])
   (fun gh Gl=>(gh.1≤min (xs.length-64*j) 64)∧(gh.2=crT key nonce count xs (64*j+gh.1))) (fun gh=>64-gh.1) (0,L) [(2,true,_),(4,true,_),(5,true,_),(9,true,_),(10,true,_),(11,true,_),(12,true,_),(30,true,_)] [_,_,_]
   (esC rfl (by first|rfl|exact evi (by omega)) (esD rfl (esD rfl (esD rfl (esD rfl (esD rfl (esD rfl (esD rfl (esD rfl eZ)))))))))
   (mS tk1 rfl (mS .here rfl (mS .here rfl (mS .here rfl mN)))) ?_ ?_
  ·refine ⟨?_,?_⟩
   ·(try dsimp only)<;>(exact Nat.zero_le _)
   (try dsimp only)<;>(rw [eL]; rfl)
  intro gh N1 Gl1 hN1 hGl1 hF1
  obtain ⟨i,L2⟩:=gh; dsimp only at hF1 hN1 ⊢
  obtain ⟨hi,eL2⟩:=hF1
  have lL2:L2.length=xs.length:=by rw [eL2,crT_len]
  refine .seq (rq1 rfl rfl (cp rfl .no (.u rfl) (.u rfl) rfl (.nil (.code (.seq (.cond rfl (fun c2=>?_) (fun c2=>?_)))))))
  ·have c2k:=c2
   try simp only [qcA,qcB] at c2
   refine .skip (.code (.seq (.block (.seq (rq2 rfl rfl (mV rfl rfl (aS rfl rfl (.nil (.code (Wk.draw (mc:=⟨false,false⟩) [0,1,2,3,4,5,6,7,8,9] Fx.mix (by kernel_rfl) ?_))))))))))
   refine mV rfl rfl (mV rfl rfl (ih rfl .no Fx.se24 (.u rfl) (.u rfl) (fun _=>by omega) (fun _=>by omega) (fun _=>rfl) ?_))
   refine ld rfl .no Fx.ag5 (.u rfl) (fun _=>Rd.row .here (map_at1 (o:=64*j) (64*j+i) (by omega) (by omega))) ?_
   refine mV rfl rfl (iA rfl .no Fx.ar172 (.u rfl) (.u rfl) (fun _=>by omega) (fun _=>by omega) ?_)
   refine ld rfl .no Fx.ag5 (.u rfl) (fun _=>Rd.own tk1 (by first|exact wa_at1 (i) (by omega) (by omega)|exact ba_at1 (i) (by omega) (by omega)|exact wap_at1 (i) (by omega) (by omega)|rfl)) ?_
   refine bw (k:=.u8) rfl .no rfl (.u rfl) (.u rfl) rfl (ih rfl .no Fx.se24 (.u rfl) (.u rfl) (fun _=>by omega) (fun _=>by omega) (fun _=>rfl) ?_)
   refine s1r rfl (.u rfl) (.u rfl) Fx.sz5 .here (by show 64*j+_*1<_; omega) ?_; intro L9 eL9 lL9
   refine .nil (.blk (.code (rq2 rfl rfl (arn (((i+1):Nat):Int) rfl .no (.u rfl) (.u rfl) rfl (fun _=>by omega) (fun _=>wrap_i64 (by omega) (by omega)) ?_))))
   refine mV rfl rfl (.nil (We.lpo (i+1,L9) ?_ ?_ ?_ ?_ ?_))
   ·exact (esC rfl (by first|rfl|exact evi (by omega)) (esD rfl (esD rfl (esD rfl (esD rfl (esD rfl (esD rfl (esD rfl (esD rfl eZ)))))))))
   ·exact (mS .here rfl (mS .here rfl (mS .here rfl (mS .here rfl mN))))
   ·first|omega|(dsimp only; omega)
   ·exact hGl1
   refine ⟨?_,?_⟩
   ·(try dsimp only)<;>(omega)
   (try dsimp only)<;>(rw [eL9,eL2,show (Sh.o ⟨some ⟨bbR16,64*j,none⟩,rc⟩+(i:Int).toNat*1)=64*j+i from (by show 64*j+_*1=_; omega)]; exact crT_step (xs:=xs) (j:=j) (i:=i) (by omega) (by omega))
  have c2k:=c2
  try simp only [qcA,qcB] at c2
  refine .exit (.xcode (.xlp (.xblk (.code (rq4 rfl rfl (mV rfl rfl (mV rfl rfl (sd rfl .no Fx.se24 (.u rfl) (.u rfl) (fun _=>by omega) (fun _=>by omega) ?_))))))))
  refine aS rfl rfl (.nil (.blk (.code (rq3 rfl rfl (mV rfl rfl (bw (k:=.u32) (b:=1#32) rfl .no rfl (.u rfl) (.u rfl) rfl (aS rfl rfl (.nil (We.lpo (j+1,Sh.cut ⟨some ⟨bbR16,64*j,none⟩,rc⟩ (min (xs.length-64*j) 64) 1,L2) ?_ ?_ ?_ ?_ ?_)))))))))
  ·exact (esC rfl (by show U (count+BitVec.ofNat 32 j+1#32)=U (count+BitVec.ofNat 32 (j+1)); rw [BitVec.add_assoc,←BitVec.ofNat_add]) (esC rfl (congrArg (Sh.val _) (by omega)) (esD rfl (esD rfl (esD rfl eZ)))))
  ·exact (mS .here (by rfl) (mS tk1 rfl (mS tk1 rfl mN)))
  ·first|omega|(dsimp only; omega)
  ·exact (hGl0).trans hGl1
  refine ⟨?_,?_,?_,?_⟩
  ·(try dsimp only)<;>(rw [eL2,crT_len])
  ·(try dsimp only)<;>(rw [eL2]; exact cr_end (by omega))
  ·(try dsimp only)<;>(intro h3; have hrc2:xs.length-64*j≤rc:=hrc; exact cut_oa (by omega) (by omega))
  (try dsimp only)<;>(show _≤rc-_; have hrc2:xs.length-64*j≤rc:=hrc; omega)
 have c1k:=c1
 try simp only [qcA,qcB] at c1
 refine .exit (.xcode (.xlp (.xblk (.code (.seq (rq2 rfl rfl (mV rfl rfl (aS rfl rfl (.nil (.code (.ret (We.fin Tryz.results104 (.tmp rfl .nil) (mS .here rfl mN) ?_))))))))))))
 exact ⟨L,by rw [eL,crT_all (by omega)],rfl⟩
theorem shaSum_ok (ps:List (Sh×List Y)) (h:Sh) (G:PM) (hs:SlP G h ps) (hK:RdNP G 1 0 (wa 64 kW)) (hl:(catL ps).length≤1152921504606846976) (hn:ps.length≤1000):Ct Tryz.prog 102 ([h.val ps.length]:List Value).toArray G [] (fun _ μ' u=>μ'=[]∧u=.agg (ba 32 (shaD (catL ps))).toArray):=by
 refine Ct.of Tryz.func102 rfl Tryz.ntmps102 rfl fun w0 hs0=>?_
 refine .seq (rq1 rfl rfl ?_)
 refine al rfl Fx.zq23 ?_; intro b2
 refine .nil (.code (.seq (rq3 rfl rfl (kv rfl .no Fx.go127 Evn (fun _=>begin_ok _) ?_))))
 refine al rfl Fx.zr181 ?_; intro b3
 refine sw rfl (.u rfl) (.u rfl) rfl Fx.sz181 .here (by rfl) (one_app (wa_one _ _) (one2 rfl rfl)) ?_
 refine .nil (we_nilB 5 ?_)
 refine .code (.seq (.seq (rq3 rfl rfl (mV rfl rfl (ln rfl .no Fx.sn54 (.u rfl) (mV rfl rfl (.nil (.code (.block ?_)))))))))
 refine Wk.lop (α:=Nat×Value) (fun gh=>[(9,true,.int .i64 (gh.1:Int))]) (fun gh=>[rB gh.2 5 (restL (catL (ps.take gh.1))),.blk b3 (cl (stC (catL (ps.take gh.1)) gh.2) 181)])
  (fun gh Gl=>(gh.1≤ps.length)) (fun gh=>ps.length-gh.1) (0,.slice none 0 0) [(2,true,_),(3,true,_),(7,true,_),(8,true,_)] [_]
  (esC rfl (by first|rfl|exact evi (by omega)) (esD rfl (esD rfl (esD rfl (esD rfl eZ)))))
  (mS .here (by simp [restL,catL]) (mS .here rfl (mS .here rfl mN))) ?_ ?_
 ·(try dsimp only)<;>(first|omega|rfl|assumption|(simp; done))
 intro gh N0 Gl0 hN0 hGl0 hF0
 obtain ⟨k,vq⟩:=gh; dsimp only at hF0 hN0 ⊢
 have hk:=hF0
 have hs:=hs.mono hGl0
 have hK:=hK.mono hGl0
 refine .seq (rq1 rfl rfl (cp rfl .no (.u rfl) (.u rfl) rfl (.nil (.code (.seq (.cond rfl (fun c1=>?_) (fun c1=>?_)))))))
 ·have c1k:=c1
  try simp only [qcA,qcB] at c1
  refine .skip (.code (.seq (.block (.seq (rq3 rfl rfl (ih rfl .no Fx.se54 (.u rfl) (.u rfl) (fun _=>by omega) (fun _=>by omega) (fun _=>hs.sl.nn (k:=k) (by omega)) ?_))))))
  obtain ⟨p12,ep12⟩:=getx (k:=k) (xs:=ps) (by omega)
  have hq12:=hs.get ep12
  refine ld rfl .no Fx.ag24 (.u rfl) (fun _=>(hs.at (k) (by omega) ep12).rd) ?_
  refine aS rfl rfl (.nil (.code (rq2 rfl rfl (mV rfl rfl (ka rfl (.inr rfl) Fx.go128 (Evc rfl (Evc rfl Evn)) (mtk2 tk1 .here) (put_ok (catL (ps.take k)) p12.2 _ _ _ _ hq12 hK (by have:=cat_len ep12; omega)) ?_)))))
  rintro _ G14 μ14 hG14 ⟨vq',rfl,rfl⟩
  have hK:=hK.mono hG14
  refine .nil (.blk (.code (rq2 rfl rfl (arn (((k+1):Nat):Int) rfl .no (.u rfl) (.u rfl) rfl (fun _=>by omega) (fun _=>wrap_i64 (by omega) (by omega)) ?_))))
  refine mV rfl rfl (.nil (We.lpo (k+1,vq') ?_ ?_ ?_ ?_ ?_))
  ·exact (esC rfl (by first|rfl|exact evi (by omega)) (esD rfl (esD rfl (esD rfl (esD rfl eZ)))))
  ·exact (mS tk1 (by rw [cat_take ep12]) (mS .here (by rw [cat_take ep12]) (mS .here rfl mN)))
  ·first|omega|(dsimp only; omega)
  ·exact (hGl0).trans hG14
  (try dsimp only)<;>(first|omega|rfl|assumption|(simp; done))
 have c1k:=c1
 try simp only [qcA,qcB] at c1
 refine .exit (.xcode (.xlp (.xblk (.code (.seq ?_)))))
 obtain rfl:k=ps.length:=by omega
 rw [List.take_length]
 refine rq2 rfl rfl (ka rfl (.inr rfl) Fx.go129 (Evc rfl Evn) (mtk2 tk1 .here) (StSum_ok (catL ps) _ _ _ hK hl) ?_)
 rintro _ G16 μ16 hG16 ⟨rfl,rfl⟩
 refine sw rfl (.u rfl) (.u rfl) rfl Fx.sz23 tk2 (by first|exact qE|exact qL|rfl) (by first|exact ba_one _ _|exact wa_one _ _|exact one_V _|decide|exact one_app (wa_one _ _) (by simp [Value.oneCell'])) ?_
 refine .nil (.code (.ret (We.fin0 Tryz.results102 (.cell rfl (fun w hw=>run_loadVarN Fx.ag23 (RdN.own .here) ((by first|exact qE|exact qL|rfl)) hw) .nil) ?_)))
 exact ⟨rfl,rfl⟩
namespace Fx
theorem zv24:(Tryz.prog.info? 24).bind (·.zero)=some (.slice none 0 0):=by kernel_rfl
theorem go102:goFn Tryz.prog 102=true:=by kernel_rfl
end Fx
theorem SlP.one {G:PM} {b T:Nat} {h1:Sh} {L1:List Y} (hle:PM.le G (G.add b (cl [h1.val L1.length] T))) (hs:SlR G 1 encY h1 L1):SlP (G.add b (cl [h1.val L1.length] T)) ⟨some ⟨b,0,none⟩,1⟩ [(h1,L1)] :=
 ⟨SlR.ofBlk (T:=T) (PM.add_same _ _ _) (fun _ _=>rfl) (by simp),fun p hp=>by rw [List.mem_singleton.1 hp]; exact hs.mono hle⟩
theorem SlP.two {G:PM} {b T:Nat} {h1 h2:Sh} {L1 L2:List Y} (hle:PM.le G (G.add b (cl [h1.val L1.length,h2.val L2.length] T))) (hs:SlR G 1 encY h1 L1) (hs2:SlR G 1 encY h2 L2):SlP (G.add b (cl [h1.val L1.length,h2.val L2.length] T)) ⟨some ⟨b,0,none⟩,2⟩ [(h1,L1),(h2,L2)] :=
 ⟨SlR.ofBlk (T:=T) (PM.add_same _ _ _) (fun _ _=>rfl) (by simp),fun p hp=>by
  rcases List.mem_cons.1 hp with rfl | hp
  ·exact hs.mono hle
  ·rw [List.mem_singleton.1 hp]; exact hs2.mono hle⟩
theorem SlP.four {G:PM} {b T:Nat} {h1 h2 h3 h4:Sh} {L1 L2 L3 L4:List Y} (hle:PM.le G (G.add b (cl [h1.val L1.length,h2.val L2.length,h3.val L3.length,h4.val L4.length] T))) (hs:SlR G 1 encY h1 L1) (hs2:SlR G 1 encY h2 L2) (hs3:SlR G 1 encY h3 L3) (hs4:SlR G 1 encY h4 L4) :
  SlP (G.add b (cl [h1.val L1.length,h2.val L2.length,h3.val L3.length,h4.val L4.length] T)) ⟨some ⟨b,0,none⟩,4⟩ [(h1,L1),(h2,L2),(h3,L3),(h4,L4)] :=
 ⟨SlR.ofBlk (T:=T) (PM.add_same _ _ _) (fun _ _=>rfl) (by simp),fun p hp=>by
  simp only [List.mem_cons,List.not_mem_nil,or_false] at hp
  rcases hp with rfl|rfl|rfl|rfl
  ·exact hs.mono hle
  ·exact hs2.mono hle
  ·exact hs3.mono hle
  ·exact hs4.mono hle⟩
theorem sum1_ok {G:PM} {b T:Nat} {h1:Sh} {L1:List Y} (hle:PM.le G (G.add b (cl [h1.val L1.length] T))) (hs:SlR G 1 encY h1 L1) (hK:RdNP G 1 0 (wa 64 kW)) (hl:L1.length≤1152921504606846976):Ct Tryz.prog 102 ([.slice (some ⟨b,0,none⟩) 1 1]:List Value).toArray (G.add b (cl [h1.val L1.length] T)) [] (fun _ μ' u=>μ'=[]∧u=.agg (ba 32 (shaD L1)).toArray):=by
 have h:=shaSum_ok [(h1,L1)] ⟨some ⟨b,0,none⟩,1⟩ _ (SlP.one hle hs) (hK.mono hle) (by simpa [catL] using hl) (by simp)
 rw [show catL [(h1,L1)]=L1 by simp [catL]] at h
 exact h
theorem sum2_ok {G:PM} {b T:Nat} {h1 h2:Sh} {L1 L2:List Y} (hle:PM.le G (G.add b (cl [h1.val L1.length,h2.val L2.length] T))) (hs:SlR G 1 encY h1 L1) (hs2:SlR G 1 encY h2 L2) (hK:RdNP G 1 0 (wa 64 kW)) (hl:L1.length+L2.length≤1152921504606846976):Ct Tryz.prog 102 ([.slice (some ⟨b,0,none⟩) 2 2]:List Value).toArray (G.add b (cl [h1.val L1.length,h2.val L2.length] T)) [] (fun _ μ' u=>μ'=[]∧u=.agg (ba 32 (shaD (L1++L2))).toArray):=by
 have h:=shaSum_ok [(h1,L1),(h2,L2)] ⟨some ⟨b,0,none⟩,2⟩ _ (SlP.two hle hs hs2) (hK.mono hle) (by simpa [catL] using hl) (by simp)
 rw [show catL [(h1,L1),(h2,L2)]=L1++L2 by simp [catL]] at h
 exact h
theorem outs_step2 {f g:Nat→Y} {k:Nat} {a b:Y} (ef:f=outs g k) (h:b=g k):upd (upd f k a) k b=outs g (k+1):=by
 rw [upd_upd,ef,h]; rfl
theorem outs_step1 {f g:Nat→Y} {k:Nat} {a:Y} (ef:f=outs g k) (h:a=g k):upd f k a=outs g (k+1):=by
 rw [ef,h]; rfl
theorem pads_ok (key:List Y) (h:Sh) (G:PM) (hs:SlR G 1 encY h key) (hK:RdNP G 1 0 (wa 64 kW)) (hl:key.length≤140737488351232):Ct Tryz.prog 143 ([h.val key.length]:List Value).toArray G [] (fun _ μ' u=>μ'=[]∧u=.tuple #[.agg (ba 64 (padF key 54#8)).toArray,.agg (ba 64 (padF key 92#8)).toArray]):=by
 refine Ct.of Tryz.func143 rfl Tryz.ntmps143 rfl fun w0 hs0=>?_
 refine .seq (rq2 rfl rfl ?_)
 refine al rfl Fx.zq172 ?_; intro b2
 refine al rfl Fx.zq172 ?_; intro b3
 refine .nil (.code (.seq (.seq (rq3 rfl rfl (mV rfl rfl (ln rfl .no Fx.sn24 (.u rfl) (cp rfl .no (.u rfl) (.u rfl) rfl (.nil (.code (.cond rfl (fun c1=>?_) (fun c1=>?_)))))))))))
 ·have c1k:=c1
  try simp only [qcA,qcB] at c1
  have ek1:keyL key=shaL key:=by unfold keyL; rw [if_pos (by omega)]
  refine .seq (rq5 rfl rfl (mV rfl rfl ?_))
  refine Go.Tan.b1 rfl Fx.se54 Fx.zv24 (.u rfl) rfl rfl (by decide) ?_; intro b10
  refine kp rfl .no Fx.go102 (Evc rfl Evn) (Gp.add .here Gp.nil) (fun _ hle hq=>sum1_ok hle hs hK (by omega)) ?_
  refine al rfl Fx.zq23 ?_; intro b4
  refine sw rfl (.u rfl) (.u rfl) rfl Fx.sz23 .here (by first|exact qE|exact qL|rfl) (by first|exact ba_one _ _|exact wa_one _ _|exact one_V _|decide|exact one_app (wa_one _ _) (by simp [Value.oneCell'])) ?_
  refine .nil (.code ?_)
  refine wk_fz .here (by intro b hb; cases hb) ?_; intro Gfb4 hleb4 hbb4
  have hs:=hs.mono hleb4
  refine rq2 rfl rfl ?_
  refine kA rfl .no Fx.ar23 (.u rfl) hbb4 (by first|exact ba_all|exact app_l|exact app_r) ?_; intro h12 L12 eL12 lL12 hs12
  refine aS rfl rfl (.nil ?_)
  have ek1:keyL key=L12:=by rw [ek1,eL12]; rfl
  refine .code (.seq (.seq ?_))
  skip
  refine rq1 rfl rfl (mV rfl rfl (.nil (.code (.block ?_))))
  refine Wk.lop (α:=Nat×(Nat→Y)×(Nat→Y)) (fun gh=>[(13,true,.int .i64 (gh.1:Int))]) (fun gh=>[.blk b3 (cl (ba 64 gh.2.2) 172),.blk b2 (cl (ba 64 gh.2.1) 172)])
   (fun gh Gl=>(gh.1≤64)∧(gh.2.1=outs (padF key 54#8) gh.1)∧(gh.2.2=outs (padF key 92#8) gh.1)) (fun gh=>64-gh.1) (0,fun _=>0#8,fun _=>0#8) [(0,true,_),(2,true,_),(3,true,_)] [_]
   (esC rfl (by first|rfl|exact evi (by omega)) (esD rfl (esD rfl (esD rfl eZ))))
   (mS tk1 rfl (mS tk1 rfl (mS .here rfl mN))) ?_ ?_
  ·refine ⟨?_,?_,?_⟩
   ·(try dsimp only)<;>(first|omega|rfl|assumption|(simp; done))
   ·(try dsimp only)<;>(first|omega|rfl|assumption|(simp; done))
   (try dsimp only)<;>(first|omega|rfl|assumption|(simp; done))
  intro gh N0 Gl0 hN0 hGl0 hF0
  obtain ⟨k,f,f2⟩:=gh; dsimp only at hF0 hN0 ⊢
  obtain ⟨hk,ef,ef2⟩:=hF0
  have hs:=hs.mono hGl0
  have hs12:=hs12.mono hGl0
  refine .seq (rq1 rfl rfl (cp rfl .no (.u rfl) (.u rfl) rfl (.nil (.code (.seq (.cond rfl (fun c2=>?_) (fun c2=>?_)))))))
  ·have c2k:=c2
   try simp only [qcA,qcB] at c2
   refine .skip (.code (.seq (.block (.seq (rq2 rfl rfl (mV rfl rfl (aS rfl rfl (.nil (.code (.seq (rq6 rfl rfl (mV rfl rfl (mV rfl rfl (iA rfl .no Fx.ar172 (.u rfl) (.u rfl) (fun _=>by omega) (fun _=>by omega) ?_))))))))))))))
   refine s1 rfl (.u rfl) (.u rfl) rfl Fx.sz5 tk1 (by first|decide|(simp only [wa_len,ba_len,qlA]; omega)) (by first|exact ba_set1 (z:=54#8) (k) (by omega)|exact wa_set1 (z:=54#32) (k) (by omega)|rfl) ?_
   refine iA rfl .no Fx.ar172 (.u rfl) (.u rfl) (fun _=>by omega) (fun _=>by omega) ?_
   refine s1 rfl (.u rfl) (.u rfl) rfl Fx.sz5 tk1 (by first|decide|(simp only [wa_len,ba_len,qlA]; omega)) (by first|exact ba_set1 (z:=92#8) (k) (by omega)|exact wa_set1 (z:=92#32) (k) (by omega)|rfl) ?_
   refine .nil (.code (.seq (rq4 rfl rfl (mV rfl rfl (mV rfl rfl (ln rfl .no Fx.sn24 (.u rfl) (cp rfl .no (.u rfl) (.u rfl) rfl (.nil (.code (.cond rfl (fun c3=>?_) (fun c3=>?_)))))))))))
   ·have c3k:=c3
    try simp only [qcA,qcB] at c3
    refine .seq (Wk.draw (mc:=⟨false,false⟩) [0,1,2,3,4,5,6,7,8,9] Fx.mix (by kernel_rfl) ?_)
    refine mV rfl rfl (iA rfl .no Fx.ar172 (.u rfl) (.u rfl) (fun _=>by omega) (fun _=>by omega) ?_)
    refine ld rfl .no Fx.ag5 (.u rfl) (fun _=>Rd.own tk1 (by first|exact wa_at1 (k) (by omega) (by omega)|exact ba_at1 (k) (by omega) (by omega)|exact wap_at1 (k) (by omega) (by omega)|rfl)) ?_
    refine mV rfl rfl (mV rfl rfl (ih rfl .no Fx.se24 (.u rfl) (.u rfl) (fun _=>by omega) (fun _=>by omega) (fun _=>hs12.nn (k:=k) (by omega)) ?_))
    refine ld rfl .no Fx.ag5 (.u rfl) (fun _=>(hs12.yat (k) (by omega) (by omega)).rd) ?_
    refine bw (k:=.u8) rfl .no rfl (.u rfl) (.u rfl) rfl (iA rfl .no Fx.ar172 (.u rfl) (.u rfl) (fun _=>by omega) (fun _=>by omega) ?_)
    refine s1 rfl (.u rfl) (.u rfl) rfl Fx.sz5 tk1 (by first|decide|(simp only [wa_len,ba_len,qlA]; omega)) (by first|exact wa_set1 (k) (by omega)|exact ba_set1 (k) (by omega)|exact wap_set1 (k) (by omega) (by omega)|rfl) ?_
    refine .nil (.code (Wk.draw (mc:=⟨false,false⟩) [0,1,2,3,4,5,6,7,8,9] Fx.mix (by kernel_rfl) ?_))
    refine mV rfl rfl (iA rfl .no Fx.ar172 (.u rfl) (.u rfl) (fun _=>by omega) (fun _=>by omega) ?_)
    refine ld rfl .no Fx.ag5 (.u rfl) (fun _=>Rd.own tk1 (by first|exact wa_at1 (k) (by omega) (by omega)|exact ba_at1 (k) (by omega) (by omega)|exact wap_at1 (k) (by omega) (by omega)|rfl)) ?_
    refine mV rfl rfl (mV rfl rfl (ih rfl .no Fx.se24 (.u rfl) (.u rfl) (fun _=>by omega) (fun _=>by omega) (fun _=>hs12.nn (k:=k) (by omega)) ?_))
    refine ld rfl .no Fx.ag5 (.u rfl) (fun _=>(hs12.yat (k) (by omega) (by omega)).rd) ?_
    refine bw (k:=.u8) rfl .no rfl (.u rfl) (.u rfl) rfl (iA rfl .no Fx.ar172 (.u rfl) (.u rfl) (fun _=>by omega) (fun _=>by omega) ?_)
    refine s1 rfl (.u rfl) (.u rfl) rfl Fx.sz5 tk1 (by first|decide|(simp only [wa_len,ba_len,qlA]; omega)) (by first|exact wa_set1 (k) (by omega)|exact ba_set1 (k) (by omega)|exact wap_set1 (k) (by omega) (by omega)|rfl) ?_
    refine .nil (.blk (.code (rq2 rfl rfl (arn (((k+1):Nat):Int) rfl .no (.u rfl) (.u rfl) rfl (fun _=>by omega) (fun _=>wrap_i64 (by omega) (by omega)) ?_))))
    refine mV rfl rfl (.nil (We.lpo (k+1,upd (upd f k 54#8) k (upd f k 54#8 k ^^^ L12.getD k 0),upd (upd f2 k 92#8) k (upd f2 k 92#8 k ^^^ L12.getD k 0)) ?_ ?_ ?_ ?_ ?_))
    ·exact (esC rfl (by first|rfl|exact evi (by omega)) (esD rfl (esD rfl (esD rfl eZ))))
    ·exact (mS .here rfl (mS .here rfl (mS .here rfl mN)))
    ·first|omega|(dsimp only; omega)
    ·exact hGl0
    refine ⟨?_,?_,?_⟩
    ·(try dsimp only)<;>(first|omega|rfl|assumption|(simp; done))
    ·(try dsimp only)<;>(exact outs_step2 ef (by rw [upd_at,padF,ek1,if_pos (by omega)]))
    (try dsimp only)<;>(exact outs_step2 ef2 (by rw [upd_at,padF,ek1,if_pos (by omega)]))
   have c3k:=c3
   try simp only [qcA,qcB] at c3
   refine .skip (.blk (.code (rq2 rfl rfl (arn (((k+1):Nat):Int) rfl .no (.u rfl) (.u rfl) rfl (fun _=>by omega) (fun _=>wrap_i64 (by omega) (by omega)) ?_))))
   refine mV rfl rfl (.nil (We.lpo (k+1,upd f k 54#8,upd f2 k 92#8) ?_ ?_ ?_ ?_ ?_))
   ·exact (esC rfl (by first|rfl|exact evi (by omega)) (esD rfl (esD rfl (esD rfl eZ))))
   ·exact (mS .here rfl (mS .here rfl (mS .here rfl mN)))
   ·first|omega|(dsimp only; omega)
   ·exact hGl0
   refine ⟨?_,?_,?_⟩
   ·(try dsimp only)<;>(first|omega|rfl|assumption|(simp; done))
   ·(try dsimp only)<;>(exact outs_step1 ef (by rw [padF,ek1,if_neg (by omega)]))
   (try dsimp only)<;>(exact outs_step1 ef2 (by rw [padF,ek1,if_neg (by omega)]))
  have c2k:=c2
  try simp only [qcA,qcB] at c2
  refine .exit (.xcode (.xlp (.xblk (.code (.seq (Wk.drawT Fx.mix rfl ?_))))))
  refine WoT.n2 0 1 (by kernel_rfl) ?_ ?_
  ·refine lA rfl .no Fx.ag172 (.u rfl) (fun _=>RdN.own tk1) (fun _=>(by first|exact qE|exact qL|rfl)) ?_
   refine .nil (WoT.n2 1 2 (by kernel_rfl) ?_ ?_)
   ·refine lA rfl .no Fx.ag172 (.u rfl) (fun _=>RdN.own .here) (fun _=>(by first|exact qE|exact qL|rfl)) ?_
    refine .nil (WoT.n1 2 (by kernel_rfl) ?_)
    refine sw rfl (.u rfl) (.u rfl) rfl Fx.sz172 tk1 (by first|exact qE|exact qL|rfl) (by first|exact ba_one _ _|exact wa_one _ _|exact one_V _|decide|exact one_app (wa_one _ _) (by simp [Value.oneCell'])) ?_
    refine .nil (WoT.n1 3 (by kernel_rfl) ?_)
    refine sw rfl (.u rfl) (.u rfl) rfl Fx.sz172 tk1 (by first|exact qE|exact qL|rfl) (by first|exact ba_one _ _|exact wa_one _ _|exact one_V _|decide|exact one_app (wa_one _ _) (by simp [Value.oneCell'])) ?_
    refine .nil (WoT.last (by kernel_rfl) ?_)
    refine .code (.ret (We.fin0 Tryz.results143 (.cell rfl (fun w hw=>run_loadVarN Fx.ag172 (RdN.own tk1) ((by first|exact qE|exact qL|rfl)) hw) (.cell rfl (fun w hw=>run_loadVarN Fx.ag172 (RdN.own .here) ((by first|exact qE|exact qL|rfl)) hw) .nil)) ?_))
    obtain rfl:k=64:=by omega
    exact ⟨rfl,by rw [ef,ef2,ba_congr (fun i hi=>outs_eq (padF key 54#8) hi),ba_congr (fun i hi=>outs_eq (padF key 92#8) hi)]; rfl⟩
   refine sw rfl (.u rfl) (.u rfl) rfl Fx.sz172 tk1 (by first|exact qE|exact qL|rfl) (by first|exact ba_one _ _|exact wa_one _ _|exact one_V _|decide|exact one_app (wa_one _ _) (by simp [Value.oneCell'])) ?_
   refine .nil (WoT.n1 1 (by kernel_rfl) ?_)
   refine lA rfl .no Fx.ag172 (.u rfl) (fun _=>RdN.own tk1) (fun _=>(by first|exact qE|exact qL|rfl)) ?_
   refine .nil (WoT.n1 3 (by kernel_rfl) ?_)
   refine sw rfl (.u rfl) (.u rfl) rfl Fx.sz172 tk1 (by first|exact qE|exact qL|rfl) (by first|exact ba_one _ _|exact wa_one _ _|exact one_V _|decide|exact one_app (wa_one _ _) (by simp [Value.oneCell'])) ?_
   refine .nil (WoT.last (by kernel_rfl) ?_)
   refine .code (.ret (We.fin0 Tryz.results143 (.cell rfl (fun w hw=>run_loadVarN Fx.ag172 (RdN.own tk1) ((by first|exact qE|exact qL|rfl)) hw) (.cell rfl (fun w hw=>run_loadVarN Fx.ag172 (RdN.own .here) ((by first|exact qE|exact qL|rfl)) hw) .nil)) ?_))
   obtain rfl:k=64:=by omega
   exact ⟨rfl,by rw [ef,ef2,ba_congr (fun i hi=>outs_eq (padF key 54#8) hi),ba_congr (fun i hi=>outs_eq (padF key 92#8) hi)]; rfl⟩
  refine lA rfl .no Fx.ag172 (.u rfl) (fun _=>RdN.own .here) (fun _=>(by first|exact qE|exact qL|rfl)) ?_
  refine .nil (WoT.n1 0 (by kernel_rfl) ?_)
  refine lA rfl .no Fx.ag172 (.u rfl) (fun _=>RdN.own tk1) (fun _=>(by first|exact qE|exact qL|rfl)) ?_
  refine .nil (WoT.n1 2 (by kernel_rfl) ?_)
  refine sw rfl (.u rfl) (.u rfl) rfl Fx.sz172 tk1 (by first|exact qE|exact qL|rfl) (by first|exact ba_one _ _|exact wa_one _ _|exact one_V _|decide|exact one_app (wa_one _ _) (by simp [Value.oneCell'])) ?_
  refine .nil (WoT.n1 3 (by kernel_rfl) ?_)
  refine sw rfl (.u rfl) (.u rfl) rfl Fx.sz172 tk1 (by first|exact qE|exact qL|rfl) (by first|exact ba_one _ _|exact wa_one _ _|exact one_V _|decide|exact one_app (wa_one _ _) (by simp [Value.oneCell'])) ?_
  refine .nil (WoT.last (by kernel_rfl) ?_)
  refine .code (.ret (We.fin0 Tryz.results143 (.cell rfl (fun w hw=>run_loadVarN Fx.ag172 (RdN.own tk1) ((by first|exact qE|exact qL|rfl)) hw) (.cell rfl (fun w hw=>run_loadVarN Fx.ag172 (RdN.own .here) ((by first|exact qE|exact qL|rfl)) hw) .nil)) ?_))
  obtain rfl:k=64:=by omega
  exact ⟨rfl,by rw [ef,ef2,ba_congr (fun i hi=>outs_eq (padF key 54#8) hi),ba_congr (fun i hi=>outs_eq (padF key 92#8) hi)]; rfl⟩
 have c1k:=c1
 try simp only [qcA,qcB] at c1
 have ek2:keyL key=key:=by unfold keyL; rw [if_neg (by omega)]
 refine .skip (.code (.seq (.seq ?_)))
 skip
 refine rq1 rfl rfl (mV rfl rfl (.nil (.code (.block ?_))))
 refine Wk.lop (α:=Nat×(Nat→Y)×(Nat→Y)) (fun gh=>[(13,true,.int .i64 (gh.1:Int))]) (fun gh=>[.blk b3 (cl (ba 64 gh.2.2) 172),.blk b2 (cl (ba 64 gh.2.1) 172)])
  (fun gh Gl=>(gh.1≤64)∧(gh.2.1=outs (padF key 54#8) gh.1)∧(gh.2.2=outs (padF key 92#8) gh.1)) (fun gh=>64-gh.1) (0,fun _=>0#8,fun _=>0#8) [(0,true,_),(2,true,_),(3,true,_)] []
  (esC rfl (by first|rfl|exact evi (by omega)) (esD rfl (esD rfl (esD rfl eZ))))
  (mS .here rfl (mS .here rfl mN)) ?_ ?_
 ·refine ⟨?_,?_,?_⟩
  ·(try dsimp only)<;>(first|omega|rfl|assumption|(simp; done))
  ·(try dsimp only)<;>(first|omega|rfl|assumption|(simp; done))
  (try dsimp only)<;>(first|omega|rfl|assumption|(simp; done))
 intro gh N1 Gl1 hN1 hGl1 hF1
 obtain ⟨k,f,f2⟩:=gh; dsimp only at hF1 hN1 ⊢
 obtain ⟨hk,ef,ef2⟩:=hF1
 have hs:=hs.mono hGl1
 refine .seq (rq1 rfl rfl (cp rfl .no (.u rfl) (.u rfl) rfl (.nil (.code (.seq (.cond rfl (fun c4=>?_) (fun c4=>?_)))))))
 ·have c4k:=c4
  try simp only [qcA,qcB] at c4
  refine .skip (.code (.seq (.block (.seq (rq2 rfl rfl (mV rfl rfl (aS rfl rfl (.nil (.code (.seq (rq6 rfl rfl (mV rfl rfl (mV rfl rfl (iA rfl .no Fx.ar172 (.u rfl) (.u rfl) (fun _=>by omega) (fun _=>by omega) ?_))))))))))))))
  refine s1 rfl (.u rfl) (.u rfl) rfl Fx.sz5 tk1 (by first|decide|(simp only [wa_len,ba_len,qlA]; omega)) (by first|exact ba_set1 (z:=54#8) (k) (by omega)|exact wa_set1 (z:=54#32) (k) (by omega)|rfl) ?_
  refine iA rfl .no Fx.ar172 (.u rfl) (.u rfl) (fun _=>by omega) (fun _=>by omega) ?_
  refine s1 rfl (.u rfl) (.u rfl) rfl Fx.sz5 tk1 (by first|decide|(simp only [wa_len,ba_len,qlA]; omega)) (by first|exact ba_set1 (z:=92#8) (k) (by omega)|exact wa_set1 (z:=92#32) (k) (by omega)|rfl) ?_
  refine .nil (.code (.seq (rq4 rfl rfl (mV rfl rfl (mV rfl rfl (ln rfl .no Fx.sn24 (.u rfl) (cp rfl .no (.u rfl) (.u rfl) rfl (.nil (.code (.cond rfl (fun c5=>?_) (fun c5=>?_)))))))))))
  ·have c5k:=c5
   try simp only [qcA,qcB] at c5
   refine .seq (Wk.draw (mc:=⟨false,false⟩) [0,1,2,3,4,5,6,7,8,9] Fx.mix (by kernel_rfl) ?_)
   refine mV rfl rfl (iA rfl .no Fx.ar172 (.u rfl) (.u rfl) (fun _=>by omega) (fun _=>by omega) ?_)
   refine ld rfl .no Fx.ag5 (.u rfl) (fun _=>Rd.own tk1 (by first|exact wa_at1 (k) (by omega) (by omega)|exact ba_at1 (k) (by omega) (by omega)|exact wap_at1 (k) (by omega) (by omega)|rfl)) ?_
   refine mV rfl rfl (mV rfl rfl (ih rfl .no Fx.se24 (.u rfl) (.u rfl) (fun _=>by omega) (fun _=>by omega) (fun _=>hs.nn (k:=k) (by omega)) ?_))
   refine ld rfl .no Fx.ag5 (.u rfl) (fun _=>(hs.yat (k) (by omega) (by omega)).rd) ?_
   refine bw (k:=.u8) rfl .no rfl (.u rfl) (.u rfl) rfl (iA rfl .no Fx.ar172 (.u rfl) (.u rfl) (fun _=>by omega) (fun _=>by omega) ?_)
   refine s1 rfl (.u rfl) (.u rfl) rfl Fx.sz5 tk1 (by first|decide|(simp only [wa_len,ba_len,qlA]; omega)) (by first|exact wa_set1 (k) (by omega)|exact ba_set1 (k) (by omega)|exact wap_set1 (k) (by omega) (by omega)|rfl) ?_
   refine .nil (.code (Wk.draw (mc:=⟨false,false⟩) [0,1,2,3,4,5,6,7,8,9] Fx.mix (by kernel_rfl) ?_))
   refine mV rfl rfl (iA rfl .no Fx.ar172 (.u rfl) (.u rfl) (fun _=>by omega) (fun _=>by omega) ?_)
   refine ld rfl .no Fx.ag5 (.u rfl) (fun _=>Rd.own tk1 (by first|exact wa_at1 (k) (by omega) (by omega)|exact ba_at1 (k) (by omega) (by omega)|exact wap_at1 (k) (by omega) (by omega)|rfl)) ?_
   refine mV rfl rfl (mV rfl rfl (ih rfl .no Fx.se24 (.u rfl) (.u rfl) (fun _=>by omega) (fun _=>by omega) (fun _=>hs.nn (k:=k) (by omega)) ?_))
   refine ld rfl .no Fx.ag5 (.u rfl) (fun _=>(hs.yat (k) (by omega) (by omega)).rd) ?_
   refine bw (k:=.u8) rfl .no rfl (.u rfl) (.u rfl) rfl (iA rfl .no Fx.ar172 (.u rfl) (.u rfl) (fun _=>by omega) (fun _=>by omega) ?_)
   refine s1 rfl (.u rfl) (.u rfl) rfl Fx.sz5 tk1 (by first|decide|(simp only [wa_len,ba_len,qlA]; omega)) (by first|exact wa_set1 (k) (by omega)|exact ba_set1 (k) (by omega)|exact wap_set1 (k) (by omega) (by omega)|rfl) ?_
   refine .nil (.blk (.code (rq2 rfl rfl (arn (((k+1):Nat):Int) rfl .no (.u rfl) (.u rfl) rfl (fun _=>by omega) (fun _=>wrap_i64 (by omega) (by omega)) ?_))))
   refine mV rfl rfl (.nil (We.lpo (k+1,upd (upd f k 54#8) k (upd f k 54#8 k ^^^ key.getD k 0),upd (upd f2 k 92#8) k (upd f2 k 92#8 k ^^^ key.getD k 0)) ?_ ?_ ?_ ?_ ?_))
   ·exact (esC rfl (by first|rfl|exact evi (by omega)) (esD rfl (esD rfl (esD rfl eZ))))
   ·exact (mS .here rfl (mS .here rfl mN))
   ·first|omega|(dsimp only; omega)
   ·exact hGl1
   refine ⟨?_,?_,?_⟩
   ·(try dsimp only)<;>(first|omega|rfl|assumption|(simp; done))
   ·(try dsimp only)<;>(exact outs_step2 ef (by rw [upd_at,padF,ek2,if_pos (by omega)]))
   (try dsimp only)<;>(exact outs_step2 ef2 (by rw [upd_at,padF,ek2,if_pos (by omega)]))
  have c5k:=c5
  try simp only [qcA,qcB] at c5
  refine .skip (.blk (.code (rq2 rfl rfl (arn (((k+1):Nat):Int) rfl .no (.u rfl) (.u rfl) rfl (fun _=>by omega) (fun _=>wrap_i64 (by omega) (by omega)) ?_))))
  refine mV rfl rfl (.nil (We.lpo (k+1,upd f k 54#8,upd f2 k 92#8) ?_ ?_ ?_ ?_ ?_))
  ·exact (esC rfl (by first|rfl|exact evi (by omega)) (esD rfl (esD rfl (esD rfl eZ))))
  ·exact (mS .here rfl (mS .here rfl mN))
  ·first|omega|(dsimp only; omega)
  ·exact hGl1
  refine ⟨?_,?_,?_⟩
  ·(try dsimp only)<;>(first|omega|rfl|assumption|(simp; done))
  ·(try dsimp only)<;>(exact outs_step1 ef (by rw [padF,ek2,if_neg (by omega)]))
  (try dsimp only)<;>(exact outs_step1 ef2 (by rw [padF,ek2,if_neg (by omega)]))
 have c4k:=c4
 try simp only [qcA,qcB] at c4
 refine .exit (.xcode (.xlp (.xblk (.code (.seq (Wk.drawT Fx.mix rfl ?_))))))
 refine WoT.n2 0 1 (by kernel_rfl) ?_ ?_
 ·refine lA rfl .no Fx.ag172 (.u rfl) (fun _=>RdN.own tk1) (fun _=>(by first|exact qE|exact qL|rfl)) ?_
  refine .nil (WoT.n2 1 2 (by kernel_rfl) ?_ ?_)
  ·refine lA rfl .no Fx.ag172 (.u rfl) (fun _=>RdN.own .here) (fun _=>(by first|exact qE|exact qL|rfl)) ?_
   refine .nil (WoT.n1 2 (by kernel_rfl) ?_)
   refine sw rfl (.u rfl) (.u rfl) rfl Fx.sz172 tk1 (by first|exact qE|exact qL|rfl) (by first|exact ba_one _ _|exact wa_one _ _|exact one_V _|decide|exact one_app (wa_one _ _) (by simp [Value.oneCell'])) ?_
   refine .nil (WoT.n1 3 (by kernel_rfl) ?_)
   refine sw rfl (.u rfl) (.u rfl) rfl Fx.sz172 tk1 (by first|exact qE|exact qL|rfl) (by first|exact ba_one _ _|exact wa_one _ _|exact one_V _|decide|exact one_app (wa_one _ _) (by simp [Value.oneCell'])) ?_
   refine .nil (WoT.last (by kernel_rfl) ?_)
   refine .code (.ret (We.fin0 Tryz.results143 (.cell rfl (fun w hw=>run_loadVarN Fx.ag172 (RdN.own tk1) ((by first|exact qE|exact qL|rfl)) hw) (.cell rfl (fun w hw=>run_loadVarN Fx.ag172 (RdN.own .here) ((by first|exact qE|exact qL|rfl)) hw) .nil)) ?_))
   obtain rfl:k=64:=by omega
   exact ⟨rfl,by rw [ef,ef2,ba_congr (fun i hi=>outs_eq (padF key 54#8) hi),ba_congr (fun i hi=>outs_eq (padF key 92#8) hi)]; rfl⟩
  refine sw rfl (.u rfl) (.u rfl) rfl Fx.sz172 tk1 (by first|exact qE|exact qL|rfl) (by first|exact ba_one _ _|exact wa_one _ _|exact one_V _|decide|exact one_app (wa_one _ _) (by simp [Value.oneCell'])) ?_
  refine .nil (WoT.n1 1 (by kernel_rfl) ?_)
  refine lA rfl .no Fx.ag172 (.u rfl) (fun _=>RdN.own tk1) (fun _=>(by first|exact qE|exact qL|rfl)) ?_
  refine .nil (WoT.n1 3 (by kernel_rfl) ?_)
  refine sw rfl (.u rfl) (.u rfl) rfl Fx.sz172 tk1 (by first|exact qE|exact qL|rfl) (by first|exact ba_one _ _|exact wa_one _ _|exact one_V _|decide|exact one_app (wa_one _ _) (by simp [Value.oneCell'])) ?_
  refine .nil (WoT.last (by kernel_rfl) ?_)
  refine .code (.ret (We.fin0 Tryz.results143 (.cell rfl (fun w hw=>run_loadVarN Fx.ag172 (RdN.own tk1) ((by first|exact qE|exact qL|rfl)) hw) (.cell rfl (fun w hw=>run_loadVarN Fx.ag172 (RdN.own .here) ((by first|exact qE|exact qL|rfl)) hw) .nil)) ?_))
  obtain rfl:k=64:=by omega
  exact ⟨rfl,by rw [ef,ef2,ba_congr (fun i hi=>outs_eq (padF key 54#8) hi),ba_congr (fun i hi=>outs_eq (padF key 92#8) hi)]; rfl⟩
 refine lA rfl .no Fx.ag172 (.u rfl) (fun _=>RdN.own .here) (fun _=>(by first|exact qE|exact qL|rfl)) ?_
 refine .nil (WoT.n1 0 (by kernel_rfl) ?_)
 refine lA rfl .no Fx.ag172 (.u rfl) (fun _=>RdN.own tk1) (fun _=>(by first|exact qE|exact qL|rfl)) ?_
 refine .nil (WoT.n1 2 (by kernel_rfl) ?_)
 refine sw rfl (.u rfl) (.u rfl) rfl Fx.sz172 tk1 (by first|exact qE|exact qL|rfl) (by first|exact ba_one _ _|exact wa_one _ _|exact one_V _|decide|exact one_app (wa_one _ _) (by simp [Value.oneCell'])) ?_
 refine .nil (WoT.n1 3 (by kernel_rfl) ?_)
 refine sw rfl (.u rfl) (.u rfl) rfl Fx.sz172 tk1 (by first|exact qE|exact qL|rfl) (by first|exact ba_one _ _|exact wa_one _ _|exact one_V _|decide|exact one_app (wa_one _ _) (by simp [Value.oneCell'])) ?_
 refine .nil (WoT.last (by kernel_rfl) ?_)
 refine .code (.ret (We.fin0 Tryz.results143 (.cell rfl (fun w hw=>run_loadVarN Fx.ag172 (RdN.own tk1) ((by first|exact qE|exact qL|rfl)) hw) (.cell rfl (fun w hw=>run_loadVarN Fx.ag172 (RdN.own .here) ((by first|exact qE|exact qL|rfl)) hw) .nil)) ?_))
 obtain rfl:k=64:=by omega
 exact ⟨rfl,by rw [ef,ef2,ba_congr (fun i hi=>outs_eq (padF key 54#8) hi),ba_congr (fun i hi=>outs_eq (padF key 92#8) hi)]; rfl⟩
namespace Fx
theorem go143:goFn Tryz.prog 143=true:=by kernel_rfl
theorem go144:goFn Tryz.prog 144=true:=by kernel_rfl
theorem go145:goFn Tryz.prog 145=true:=by kernel_rfl
theorem zq163:zrL Tryz.prog 163=some (ba 16 (fun _=>0#8)):=by kernel_rfl
theorem fo80_1:fOff Tryz.prog 80 1=some 32:=by kernel_rfl
theorem ar93:arE Tryz.prog 93=some (12,5,1):=by kernel_rfl
theorem go24:goFn Tryz.prog 24=true:=by kernel_rfl
theorem go131:goFn Tryz.prog 131=true:=by kernel_rfl
theorem ar163:arE Tryz.prog 163=some (16,5,1):=by kernel_rfl
theorem ag163:aggN Tryz.prog 163=some (some 16):=by kernel_rfl
theorem sz163:szT Tryz.prog 163=some 16:=by kernel_rfl
theorem fo80_0:fOff Tryz.prog 80 0=some 0:=by kernel_rfl
theorem ag93:aggN Tryz.prog 93=some (some 12):=by kernel_rfl
theorem go104:goFn Tryz.prog 104=true:=by kernel_rfl
theorem ag80:aggN Tryz.prog 80=some (some 64):=by kernel_rfl
theorem go105:goFn Tryz.prog 105=true:=by kernel_rfl
end Fx
theorem macSum_ok (key:List Y) (hk:Sh) (ps:List (Sh×List Y)) (h:Sh) (G:PM) (hsk:SlR G 1 encY hk key) (hs:SlP G h ps) (hK:RdNP G 1 0 (wa 64 kW)) (hlk:key.length≤140737488351232) (hl:(catL ps).length≤1000000000000000) (hn:ps.length≤1000):Ct Tryz.prog 131 ([hk.val key.length,h.val ps.length]:List Value).toArray G [] (fun _ μ' u=>μ'=[]∧u=.agg (ba 32 (macL key (catL ps))).toArray):=by
 refine Ct.of Tryz.func131 rfl Tryz.ntmps131 rfl fun w0 hs0=>?_
 refine .seq (rq1 rfl rfl ?_)
 refine al rfl Fx.zq23 ?_; intro b4
 refine .nil (.code (.seq (rq9 rfl rfl (mV rfl rfl (kv rfl .no Fx.go143 (Evc rfl Evn) (fun _=>pads_ok key hk _ hsk hK hlk) ?_)))))
 refine mV rfl rfl (ex rfl .no (.u rfl) rfl (ex rfl .no (.u rfl) rfl ?_))
 refine al rfl Fx.zq172 ?_; intro b5
 refine al rfl Fx.zq172 ?_; intro b6
 refine sw rfl (.u rfl) (.u rfl) rfl Fx.sz172 tk1 (by first|exact qE|exact qL|rfl) (by first|exact ba_one _ _|exact wa_one _ _|exact one_V _|decide|exact one_app (wa_one _ _) (by simp [Value.oneCell'])) ?_
 refine sw rfl (.u rfl) (.u rfl) rfl Fx.sz172 tk1 (by first|exact qE|exact qL|rfl) (by first|exact ba_one _ _|exact wa_one _ _|exact one_V _|decide|exact one_app (wa_one _ _) (by simp [Value.oneCell'])) ?_
 refine .nil (.code (.seq ?_))
 refine wk_fz tk1 (by intro b hb; cases hb) ?_; intro Gfb5 hleb5 hbb5
 have hs:=hs.mono hleb5
 have hK:=hK.mono hleb5
 refine wk_fz .here (by intro b hb; cases hb) ?_; intro Gfb6 hleb6 hbb6
 have hs:=hs.mono hleb6
 have hK:=hK.mono hleb6
 have hbb5:=hbb5.mono hleb6
 refine rq2 rfl rfl (kc rfl Fx.go144 Evn (New_ok _) ?_)
 rintro _ G16 μ16 hG16 ⟨b16,rfl,rfl⟩
 have hs:=hs.mono hG16
 have hK:=hK.mono hG16
 have hbb5:=hbb5.mono hG16
 have hbb6:=hbb6.mono hG16
 refine aS rfl rfl (.nil (.code (.seq (rq3 rfl rfl (mV rfl rfl ?_)))))
 refine kA rfl .no Fx.ar172 (.u rfl) hbb5 (by first|exact ba_all|exact app_l|exact app_r) ?_; intro h18 L18 eL18 lL18 hs18
 refine ka rfl (.inr rfl) Fx.go145 (Evc rfl (Evc rfl Evn)) (mtk2 .here .here) (Write_ok [] L18 _ _ _ _ hs18 hK (by simp; omega)) ?_
 rintro _ G19 μ19 hG19 ⟨vq0,rfl,rfl⟩
 have hs:=hs.mono hG19
 have hK:=hK.mono hG19
 have hbb6:=hbb6.mono hG19
 refine .nil (.code (.seq (.seq (rq3 rfl rfl (mV rfl rfl (ln rfl .no Fx.sn54 (.u rfl) (mV rfl rfl (.nil (.code (.block ?_))))))))))
 refine Wk.lop (α:=Nat×Value) (fun gh=>[(22,true,.int .i64 (gh.1:Int))]) (fun gh=>[.blk b16 (cl (stC (L18++catL (ps.take gh.1)) gh.2) 181),rB gh.2 5 (restL (L18++catL (ps.take gh.1)))])
  (fun gh Gl=>(gh.1≤ps.length)) (fun gh=>ps.length-gh.1) (0,vq0) [(4,true,_),(6,true,_),(7,true,_),(20,true,_),(21,true,_)] [_]
  (esC rfl (by first|rfl|exact evi (by omega)) (esD rfl (esD rfl (esD rfl (esD rfl (esD rfl eZ))))))
  (mS .here (by simp [catL]) (mS .here (by simp [catL]) (mS .here rfl mN))) ?_ ?_
 ·(try dsimp only)<;>(first|omega|rfl|assumption|(simp; done))
 intro gh N0 Gl0 hN0 hGl0 hF0
 obtain ⟨k,vq⟩:=gh; dsimp only at hF0 hN0 ⊢
 have hk:=hF0
 have hs:=hs.mono hGl0
 have hK:=hK.mono hGl0
 have hbb6:=hbb6.mono hGl0
 refine .seq (rq1 rfl rfl (cp rfl .no (.u rfl) (.u rfl) rfl (.nil (.code (.seq (.cond rfl (fun c1=>?_) (fun c1=>?_)))))))
 ·have c1k:=c1
  try simp only [qcA,qcB] at c1
  refine .skip (.code (.seq (.block (.seq (rq3 rfl rfl (ih rfl .no Fx.se54 (.u rfl) (.u rfl) (fun _=>by omega) (fun _=>by omega) (fun _=>hs.sl.nn (k:=k) (by omega)) ?_))))))
  obtain ⟨p25,ep25⟩:=getx (k:=k) (xs:=ps) (by omega)
  have hq25:=hs.get ep25
  refine ld rfl .no Fx.ag24 (.u rfl) (fun _=>(hs.at (k) (by omega) ep25).rd) ?_
  refine aS rfl rfl (.nil (.code (rq3 rfl rfl (mV rfl rfl (mV rfl rfl (ka rfl (.inr rfl) Fx.go145 (Evc rfl (Evc rfl Evn)) (mtk2 .here .here) (Write_ok (L18++catL (ps.take k)) p25.2 _ _ _ _ hq25 hK (by have:=cat_len ep25; rw [List.length_append]; omega)) ?_))))))
  rintro _ G28 μ28 hG28 ⟨vq',rfl,rfl⟩
  have hK:=hK.mono hG28
  have hbb6:=hbb6.mono hG28
  refine .nil (.blk (.code (rq2 rfl rfl (arn (((k+1):Nat):Int) rfl .no (.u rfl) (.u rfl) rfl (fun _=>by omega) (fun _=>wrap_i64 (by omega) (by omega)) ?_))))
  refine mV rfl rfl (.nil (We.lpo (k+1,vq') ?_ ?_ ?_ ?_ ?_))
  ·exact (esC rfl (by first|rfl|exact evi (by omega)) (esD rfl (esD rfl (esD rfl (esD rfl (esD rfl eZ))))))
  ·exact (mS .here (by rw [cat_take ep25,List.append_assoc]) (mS .here (by rw [cat_take ep25,List.append_assoc]) (mS .here rfl mN)))
  ·first|omega|(dsimp only; omega)
  ·exact (hGl0).trans hG28
  (try dsimp only)<;>(first|omega|rfl|assumption|(simp; done))
 have c1k:=c1
 try simp only [qcA,qcB] at c1
 refine .exit (.xcode (.xlp (.xblk (.code (.seq ?_)))))
 obtain rfl:k=ps.length:=by omega
 rw [List.take_length]
 refine rq4 rfl rfl (mV rfl rfl (ka rfl (.inr rfl) Fx.go129 (Evc rfl Evn) (mtk2 .here .here) (StSum_ok (L18++catL ps) _ _ _ hK (by rw [List.length_append]; omega)) ?_))
 rintro _ G31 μ31 hG31 ⟨rfl,rfl⟩
 have hK:=hK.mono hG31
 have hbb6:=hbb6.mono hG31
 refine al rfl Fx.zq23 ?_; intro b10
 refine sw rfl (.u rfl) (.u rfl) rfl Fx.sz23 .here (by first|exact qE|exact qL|rfl) (by first|exact ba_one _ _|exact wa_one _ _|exact one_V _|decide|exact one_app (wa_one _ _) (by simp [Value.oneCell'])) ?_
 refine .nil (.code (.seq ?_))
 refine wk_fz .here (by intro b hb; cases hb) ?_; intro Gfb10 hleb10 hbb10
 have hK:=hK.mono hleb10
 have hbb6:=hbb6.mono hleb10
 refine Wk.draw (mc:=⟨false,false⟩) [0,1,2,3,4] Fx.mix (by kernel_rfl) ?_
 refine kA rfl .no Fx.ar172 (.u rfl) hbb6 (by first|exact ba_all|exact app_l|exact app_r) ?_; intro h32 L32 eL32 lL32 hs32
 refine kA rfl .no Fx.ar23 (.u rfl) hbb10 (by first|exact ba_all|exact app_l|exact app_r) ?_; intro h33 L33 eL33 lL33 hs33
 refine Go.Tan.bN rfl Fx.se54 Fx.zv24 (Evp.cons (.u rfl) (Evp.cons (.u rfl) Evp.nil)) rfl (by decide) (by simp [Value.oneCell',Sh.val]) ?_; intro b34
 refine kp rfl .no Fx.go102 (Evc rfl Evn) (Gp.add .here Gp.nil) (fun _ hle hq=>sum2_ok hle hs32 hs33 hK (by omega)) ?_
 refine sw rfl (.u rfl) (.u rfl) rfl Fx.sz23 tk3 (by first|exact qE|exact qL|rfl) (by first|exact ba_one _ _|exact wa_one _ _|exact one_V _|decide|exact one_app (wa_one _ _) (by simp [Value.oneCell'])) ?_
 refine .nil (.code (.ret (We.fin0 Tryz.results131 (.cell rfl (fun w hw=>run_loadVarN Fx.ag23 (RdN.own .here) ((by first|exact qE|exact qL|rfl)) hw) .nil) ?_)))
 exact ⟨rfl,by rw [eL32,eL33,eL18]; rfl⟩
theorem mac4_ok {G:PM} {b T:Nat} {hk h1 h2 h3 h4:Sh} {key L1 L2 L3 L4:List Y} (hle:PM.le G (G.add b (cl [h1.val L1.length,h2.val L2.length,h3.val L3.length,h4.val L4.length] T))) (hsk:SlR G 1 encY hk key) (hs:SlR G 1 encY h1 L1) (hs2:SlR G 1 encY h2 L2) (hs3:SlR G 1 encY h3 L3) (hs4:SlR G 1 encY h4 L4) (hK:RdNP G 1 0 (wa 64 kW)) (hlk:key.length≤140737488351232) (hl:L1.length+L2.length+L3.length+L4.length≤1000000000000000) :
  Ct Tryz.prog 131 ([hk.val key.length,.slice (some ⟨b,0,none⟩) 4 4]:List Value).toArray (G.add b (cl [h1.val L1.length,h2.val L2.length,h3.val L3.length,h4.val L4.length] T)) [] (fun _ μ' u=>μ'=[]∧u=.agg (ba 32 (macL key (L1++L2++L3++L4))).toArray):=by
 have h:=macSum_ok key hk [(h1,L1),(h2,L2),(h3,L3),(h4,L4)] ⟨some ⟨b,0,none⟩,4⟩ _ (hsk.mono hle) (SlP.four hle hs hs2 hs3 hs4) (hK.mono hle) hlk (by simp [catL]; omega) (by simp)
 rw [show catL [(h1,L1),(h2,L2),(h3,L3),(h4,L4)]=L1++L2++L3++L4 by simp [catL]] at h
 exact h
theorem Tag_ok (enc mac nonce:Nat→Y) (ad:List Y) (ha:Sh) (xs:List Y) (hx:Sh) (G:PM) (hsa:SlR G 1 encY ha ad) (hsx:SlR G 1 encY hx xs) (hK:RdNP G 1 0 (wa 64 kW)) (hla:ad.length≤140737488351232) (hl:xs.length≤140737488355328):Ct Tryz.prog 105 ([.agg (ba 32 enc++ba 32 mac).toArray,.agg (ba 12 nonce).toArray,ha.val ad.length,hx.val xs.length]:List Value).toArray G [] (fun _ μ' u=>μ'=[]∧u=.agg (ba 16 (tagF mac nonce ad xs)).toArray):=by
 refine Ct.of Tryz.func105 rfl Tryz.ntmps105 rfl fun w0 hs0=>?_
 refine .seq (rq3 rfl rfl ?_)
 refine bx rfl (.u rfl) rfl ?_; intro b4
 refine bx rfl (.u rfl) rfl ?_; intro b5
 refine al rfl Fx.zq163 ?_; intro b8
 refine .nil (.code (.seq ?_))
 refine wk_fz tk2 (by intro b hb; cases hb) ?_; intro Gfb4 hleb4 hbb4
 have hsa:=hsa.mono hleb4
 have hsx:=hsx.mono hleb4
 have hK:=hK.mono hleb4
 refine wk_fz tk1 (by intro b hb; cases hb) ?_; intro Gfb5 hleb5 hbb5
 have hsa:=hsa.mono hleb5
 have hsx:=hsx.mono hleb5
 have hK:=hK.mono hleb5
 have hbb4:=hbb4.mono hleb5
 refine Wk.draw (mc:=⟨false,false⟩) [0,1,2,3,4,6,7,8,5,9,10,11,12] Fx.mix (by kernel_rfl) ?_
 refine fa rfl .no Fx.fo80_1 (.u rfl) ?_
 refine kA rfl .no Fx.ar22 (.u rfl) hbb4 (by first|exact ba_all|exact app_l|exact app_r) ?_; intro h11 L11 eL11 lL11 hs11
 refine mV rfl rfl (ln rfl .no Fx.sn24 (.u rfl) (ci rfl .no rfl Fx.cv3_26 (.u rfl) ?_))
 refine mV rfl rfl ?_
 refine kA rfl .no Fx.ar93 (.u rfl) hbb5 (by first|exact ba_all|exact app_l|exact app_r) ?_; intro h17 L17 eL17 lL17 hs17
 refine mV rfl rfl (kc rfl Fx.go24 (Evc rfl (Evc rfl (Evc rfl Evn))) (Ct.frzB (Fix_ok [] ⟨none,0⟩ _ 8 _ SlR.nul (by simp) (by decide))) ?_)
 rintro _ G15 μ15 hG15 ⟨h15,L15,eL15,rfl,rfl,hs15⟩
 have hsa:=hsa.mono hG15
 have hsx:=hsx.mono hG15
 have hK:=hK.mono hG15
 have hs11:=hs11.mono hG15
 have hs17:=hs17.mono hG15
 refine Go.Tan.bN rfl Fx.se54 Fx.zv24 (Evp.cons (.u rfl) (Evp.cons (.u rfl) (Evp.cons (.u rfl) (Evp.cons (.u rfl) Evp.nil)))) rfl (by decide) (by simp [Value.oneCell',Sh.val]) ?_; intro b19
 have lL15:L15.length=8:=by rw [eL15,List.nil_append]; exact fix_len _ 8
 refine kp rfl .no Fx.go131 (Evc rfl (Evc rfl Evn)) (Gp.add .here Gp.nil) (fun _ hle hq=>mac4_ok hle hs11 hs15 hsa hs17 hsx hK (by omega) (by omega)) ?_
 refine al rfl Fx.zq23 ?_; intro b9
 refine sw rfl (.u rfl) (.u rfl) rfl Fx.sz23 .here (by first|exact qE|exact qL|rfl) (by first|exact ba_one _ _|exact wa_one _ _|exact one_V _|decide|exact one_app (wa_one _ _) (by simp [Value.oneCell'])) ?_
 refine .nil (.code (.seq (rq4 rfl rfl (sah rfl .no Fx.ar23 (.u rfl) (.u rfl) (fun _=>by first|decide|omega) (fun _=>by first|decide|omega) ?_))))
 refine sp rfl .no Fx.ar163 (.u rfl) (fun _=>by first|decide|omega) ?_
 refine lA rfl .no Fx.ag163 (.u rfl) (fun _=>RdN.part (n:=16) (cs':=ba 16 _) .here (ba_take (by decide))) (fun _=>(by first|exact qE|exact qL|rfl)) ?_
 refine sw rfl (.u rfl) (.u rfl) rfl Fx.sz163 tk2 (by first|exact qE|exact qL|rfl) (by first|exact ba_one _ _|exact wa_one _ _|exact one_V _|decide|exact one_app (wa_one _ _) (by simp [Value.oneCell'])) ?_
 refine .nil (.code (.ret (We.fin0 Tryz.results105 (.cell rfl (fun w hw=>run_loadVarN Fx.ag163 (RdN.own .here) ((by first|exact qE|exact qL|rfl)) hw) .nil) ?_)))
 exact ⟨rfl,by rw [eL11,eL15,eL17]; rfl⟩
theorem tag_row (enc mac nonce:Nat→Y) (ad:List Y) (ha:Sh) (xs:List Y) (v:Value) (G:PM) (hsa:SlR G 1 encY ha ad) (hK:RdNP G 1 0 (wa 64 kW)) (hla:ad.length≤140737488351232) (hl:xs.length≤140737488355328):Ct Tryz.prog 105 ([.agg (ba 32 enc++ba 32 mac).toArray,.agg (ba 12 nonce).toArray,ha.val ad.length,v]:List Value).toArray G [rB v 5 xs] (fun _ μ' u=>∃ ν,μ'=rB v 5 xs :: ν∧ν=[]∧u=.agg (ba 16 (tagF mac nonce ad xs)).toArray) :=
 Ct.lendB (fun hx G2 hle hv hs=>by subst hv; exact Tag_ok enc mac nonce ad ha xs hx G2 (hsa.mono hle) hs (hK.mono hle) hla hl)
theorem Seal_ok (enc mac nonce:Nat→Y) (ad:List Y) (ha:Sh) (xs:List Y) (hx:Sh) (G:PM) (hsa:SlR G 1 encY ha ad) (hsx:SlR G 1 encY hx xs) (hK:RdNP G 1 0 (wa 64 kW)) (hla:ad.length≤140737488351232) (hl:xs.length≤140737488351232):Ct Tryz.prog 67 ([.agg (ba 32 enc++ba 32 mac).toArray,.agg (ba 12 nonce).toArray,ha.val ad.length,hx.val xs.length]:List Value).toArray G [] (PR 5 (fun L=>L=sealL enc mac nonce ad xs)):=by
 refine Ct.of Tryz.func67 rfl Tryz.ntmps67 rfl fun w0 hs0=>?_
 have lc:=cross_len enc nonce 1#32 xs
 refine .seq (rq3 rfl rfl ?_)
 refine bx rfl (.u rfl) rfl ?_; intro b4
 refine bx rfl (.u rfl) rfl ?_; intro b5
 refine aS rfl rfl (.nil (.code (.seq (rq6 rfl rfl (fz rfl .no Fx.fo80_0 (.u rfl) (lA rfl .no Fx.ag22 (.u rfl) (fun _=>RdN.part (n:=32) (cs':=ba 32 enc) tk1 (app_l)) (fun _=>(by first|exact qE|exact qL|rfl)) ?_))))))
 refine lA rfl .no Fx.ag93 (.u rfl) (fun _=>RdN.own .here) (fun _=>(by first|exact qE|exact qL|rfl)) ?_
 refine mV rfl rfl (kc rfl Fx.go104 (Evc rfl (Evc rfl (Evc rfl (Evc rfl Evn)))) (Ct.rowc (Cross_ok enc nonce 1#32 hx xs _ hsx hl)) ?_)
 rintro v15 G15 μ15 hG15 ⟨L15,ov15,eL15,rfl⟩
 have hsa:=hsa.mono hG15
 have hK:=hK.mono hG15
 refine aS rfl rfl (.nil (.code (.seq (rq7 rfl rfl ?_))))
 have lL15:L15.length=xs.length:=by rw [eL15,cross_len]
 refine lA rfl .no Fx.ag80 (.u rfl) (fun _=>RdN.own tk2) (fun _=>(by first|exact qE|exact qL|rfl)) ?_
 refine lA rfl .no Fx.ag93 (.u rfl) (fun _=>RdN.own tk1) (fun _=>(by first|exact qE|exact qL|rfl)) ?_
 refine mV rfl rfl (mV rfl rfl (ka rfl (.inr rfl) Fx.go105 (Evc rfl (Evc rfl (Evc rfl (Evc rfl Evn)))) (mtk1 .here) (tag_row enc mac nonce ad ha L15 _ _ hsa hK hla (by rw [eL15,cross_len]; omega)) ?_))
 rintro _ G20 μ20 hG20 ⟨_,rfl,rfl,rfl⟩
 refine al rfl Fx.zq163 ?_; intro b10
 refine sw rfl (.u rfl) (.u rfl) rfl Fx.sz163 .here (by first|exact qE|exact qL|rfl) (by first|exact ba_one _ _|exact wa_one _ _|exact one_V _|decide|exact one_app (wa_one _ _) (by simp [Value.oneCell'])) ?_
 refine .nil (.code (.seq (rq4 rfl rfl (mV rfl rfl (sa0 rfl .no Fx.ar163 (.u rfl) (apY rfl Fx.se24 Fx.zv5 (.u rfl) (.u rfl) tk1 (Sc.arr .here) (by (try simp only [qlA,yl_len]); omega) ?_))))))
 intro v23 L23 ov23 eL23
 have lL23:L23.length=L15.length+16:=by rw [eL23,List.length_append]; first|rfl | simp [yl_len]
 refine aS rfl rfl (.nil (.code (.ret (We.fin Tryz.results67 (.tmp rfl .nil) (mS .here rfl mN) ?_))))
 exact ⟨L23,by rw [eL23,eL15]; rfl,rfl⟩
namespace Fx
theorem cst24:csT Tryz.prog 24=true:=by kernel_rfl
end Fx
def zF:Nat→Y:=fun _=>0#8
namespace Fx
theorem zv130:(Tryz.prog.info? 130).bind (·.zero)=some (.int .u32 0):=by kernel_rfl
theorem go148:goFn Tryz.prog 148=true:=by kernel_rfl
theorem zr179:zrL Tryz.prog 179=some ([.int .u32 0,.int .u32 0,.int .u32 0,.int .u32 0,.int .u32 0,.int .u32 0,.int .u32 0,.int .u32 0]):=by kernel_rfl
theorem go147:goFn Tryz.prog 147=true:=by kernel_rfl
theorem sz179:szT Tryz.prog 179=some 8:=by kernel_rfl
theorem go136:goFn Tryz.prog 136=true:=by kernel_rfl
theorem go137:goFn Tryz.prog 137=true:=by kernel_rfl
end Fx
theorem rturn_ok (x:W) (k:Nat) (G:PM) (hk:k≤32):Ct Tryz.prog 148 ([U x,.int .i64 (k:Int)]:List Value).toArray G [] (fun _ μ' u=>μ'=[]∧u=U (rotr x k)):=by
 refine Ct.of Tryz.func148 rfl Tryz.ntmps148 rfl fun w0 hs0=>?_
 refine .seq (rq1 rfl rfl (aS rfl rfl (.nil (.code (.seq (Wk.draw (mc:=⟨false,false⟩) [0,1,2,3,4,5,6,7,8] Fx.mix (by kernel_rfl) ?_))))))
 refine mV rfl rfl (mV rfl rfl (rw' (k:=.u32) rfl .no (.u rfl) (.u rfl) (fun _=>by omega) ?_))
 refine mV rfl rfl (mV rfl rfl (arn (((32-k):Nat):Int) rfl .no (.u rfl) (.u rfl) rfl (fun _=>by omega) (fun _=>wrap_i64 (by omega) (by omega)) ?_))
 refine lw (k:=.u32) rfl .no rfl (.u rfl) (.u rfl) (fun _=>by omega) ?_
 refine bw (k:=.u32) rfl .no rfl (.u rfl) (.u rfl) rfl (aS rfl rfl (.nil (.code (.ret (We.fin0 Tryz.results148 (.tmp rfl .nil) ?_)))))
 exact ⟨rfl,congrArg (fun z=>tup [uv .u32 z]) (BitVec.or_comm ..)⟩
theorem wa_snoc {n:Nat} {y:Nat→W} {z:W}:wa n y++[U z]=wa (n+1) (upd y n z):=by
 refine List.ext_getElem? fun i=>?_
 rw [List.getElem?_append,wa_len]
 by_cases h:i<n
 ·rw [if_pos h,wa_at h,wa_at (by omega),upd,if_neg (by omega)]
 rw [if_neg h]
 by_cases h2:i=n
 ·subst h2; rw [wa_at (by omega),upd_at]; simp
 rw [List.getElem?_eq_none (by simp; omega),List.getElem?_eq_none (by rw [wa_len]; omega)]
theorem row_snoc {v:Value} {E n:Nat} {y:Nat→W} {z:W}:Res.row v E 1 (n+1) (wa n y++[U z])=Res.row v E 1 (n+1) (wa (n+1) (upd y n z)):=by rw [wa_snoc]
theorem upd_if2 {s x:Nat→W} {k:Nat}:upd (fun i=>if i<k then s i+x i else x i) k ((if k<k then s k+x k else x k)+s k)=fun i=>if i<k+1 then s i+x i else x i:=by
 funext i
 unfold upd
 by_cases h:i=k
 ·subst h; simp [BitVec.add_comm]
 ·rw [if_neg h]
  by_cases h2:i<k
  ·simp [h2,show i<k+1 by omega]
  ·simp [h2,show ¬ i<k+1 by omega]
theorem lenF_nat {n q:Nat} (h:q<8):lenF n q=((BitVec.ofInt 64 (n:Int)*8#64) >>> (((8*(7-q):Nat):Int)).toNat).setWidth 8:=by
 rw [Int.toNat_natCast,show 8*(7-q)=56-8*q by omega]; rfl
theorem blk_step {zs L:List Y} {j b T:Nat} (eL:L=(zs.drop (64*j)).take (64*j+64-64*j)):Res.blk b (cl (wa 8 (shaC (shaW zs j) (fun i=>L.getD i 0))) T)=.blk b (cl (wa 8 (shaW zs (j+1))) T):=by
 rw [shaW,shaC_congr (b':=blkF zs j)]
 intro i hi
 rw [eL,blkF,getD_part (by omega)]
theorem shaD4 (xs:List Y) (i q:Nat) (hq:q<4):shaD xs (4*i+q)=((shaW (padL xs) ((padL xs).length / 64) i) >>> (24-8*q)).setWidth 8:=by
 unfold shaD
 rw [show (4*i+q) / 4=i by omega,show (4*i+q)%4=q by omega]
theorem add_mid (a b c d:W):a+b+c+d=a+c+b+d:=by rw [BitVec.add_assoc a b c,BitVec.add_comm b c,←BitVec.add_assoc]
theorem rnd_a (x:Nat→W) (k w:W):x 7+(rotr (x 4) 6 ^^^ rotr (x 4) 11 ^^^ rotr (x 4) 25)+((x 4 &&& x 5) ^^^ (~~~x 4 &&& x 6))+k+w+((rotr (x 0) 2 ^^^ rotr (x 0) 13 ^^^ rotr (x 0) 22)+((x 0 &&& x 1) ^^^ (x 0 &&& x 2) ^^^ (x 1 &&& x 2)))=rndW x k w 0:=by rw [ch_eq,maj_eq]; rfl
theorem rnd_e (x:Nat→W) (k w:W):x 3+(x 7+(rotr (x 4) 6 ^^^ rotr (x 4) 11 ^^^ rotr (x 4) 25)+((x 4 &&& x 5) ^^^ (~~~x 4 &&& x 6))+k+w)=rndW x k w 4:=by rw [ch_eq]; rfl
theorem shaD0 (xs:List Y) (i:Nat):shaD xs (4*i)=((shaW (padL xs) ((padL xs).length / 64) i) >>> 24).setWidth 8:=shaD4 xs i 0 (by decide)
theorem rwords_ok (xs:List Y) (h:Sh) (G:PM) (hs:SlR G 1 encY h xs) (hl:64≤xs.length):Ct Tryz.prog 147 ([h.val xs.length]:List Value).toArray G [] (fun _ μ' u=>μ'=[.row u 130 1 64 (wa 64 (sched (fun i=>xs.getD i 0) 48))]):=by
 refine Ct.of Tryz.func147 rfl Tryz.ntmps147 rfl fun w0 hs0=>?_
 refine .seq (rq1 rfl rfl (aS rfl rfl (.nil (.code (.seq (rq1 rfl rfl (aS rfl rfl (.nil (.code (.seq (.seq (wk_nilRow 130 1 ?_))))))))))))
 refine rq1 rfl rfl (aS rfl rfl (.nil (.code (.block ?_))))
 refine Wk.lop (α:=Nat×Value×(Nat→W)) (fun gh=>[(3,true,gh.2.1),(4,true,.int .i64 (gh.1:Int))]) (fun gh=>[.row gh.2.1 130 1 gh.1 (wa gh.1 gh.2.2)])
  (fun gh Gl=>(gh.1≤16)∧(gh.2.2=w16 (fun i=>xs.getD i 0) gh.1)) (fun gh=>16-gh.1) (0,.slice none 0 0,fun _=>0#32) [(0,true,_)] []
  (esD rfl (esC rfl (by first|rfl|exact evi (by omega)) (esD rfl eZ)))
  (mS .here rfl mN) ?_ ?_
 ·refine ⟨?_,?_⟩
  ·(try dsimp only)<;>(first|omega|rfl|assumption|(simp; done))
  (try dsimp only)<;>(first|omega|rfl|assumption|(simp; done))
 intro gh N0 Gl0 hN0 hGl0 hF0
 obtain ⟨k,v,y⟩:=gh; dsimp only at hF0 hN0 ⊢
 obtain ⟨hk,ey⟩:=hF0
 have hs:=hs.mono hGl0
 refine .seq (.seq (rq2 rfl rfl (mV rfl rfl (cp rfl .no (.u rfl) (.u rfl) rfl (.nil (.code (.cond rfl (fun c1=>?_) (fun c1=>?_))))))))
 ·have c1k:=c1
  try simp only [qcA,qcB] at c1
  refine .skip (.code (.seq (.block (Wk.draw (mc:=⟨false,false⟩) [0,1,2,3,4,5,6,7,8,9,10,11,12,13,14,15,16,17,18,19,20,21,22,23,24,25,26,27,28,29,30,31,32,33,34,35,36] Fx.mix (by kernel_rfl) ?_))))
  refine mV rfl rfl (mV rfl rfl (mV rfl rfl (arn (((4*k):Nat):Int) rfl .no (.u rfl) (.u rfl) rfl (fun _=>by omega) (fun _=>wrap_i64 (by omega) (by omega)) ?_)))
  refine ih rfl .no Fx.se24 (.u rfl) (.u rfl) (fun _=>by omega) (fun _=>by omega) (fun _=>hs.nn (k:=(4*k)) (by omega)) ?_
  refine ld rfl .no Fx.ag5 (.u rfl) (fun _=>(hs.yat ((4*k)) (by omega) (by omega)).rd) ?_
  refine cu (k:=.u8) rfl .no rfl Fx.cv5_130 (.u rfl) ?_
  refine lw (k:=.u32) rfl .no rfl (.u rfl) (.u rfl) (fun _=>by decide) ?_
  refine mV rfl rfl (mV rfl rfl (arn (((4*k):Nat):Int) rfl .no (.u rfl) (.u rfl) rfl (fun _=>by omega) (fun _=>wrap_i64 (by omega) (by omega)) ?_))
  refine arn ((((4*k)+1):Nat):Int) rfl .no (.u rfl) (.u rfl) rfl (fun _=>by omega) (fun _=>wrap_i64 (by omega) (by omega)) ?_
  refine ih rfl .no Fx.se24 (.u rfl) (.u rfl) (fun _=>by omega) (fun _=>by omega) (fun _=>hs.nn (k:=((4*k)+1)) (by omega)) ?_
  refine ld rfl .no Fx.ag5 (.u rfl) (fun _=>(hs.yat (((4*k)+1)) (by omega) (by omega)).rd) ?_
  refine cu (k:=.u8) rfl .no rfl Fx.cv5_130 (.u rfl) ?_
  refine lw (k:=.u32) rfl .no rfl (.u rfl) (.u rfl) (fun _=>by decide) ?_
  refine bw (k:=.u32) rfl .no rfl (.u rfl) (.u rfl) rfl (mV rfl rfl (mV rfl rfl (arn (((4*k):Nat):Int) rfl .no (.u rfl) (.u rfl) rfl (fun _=>by omega) (fun _=>wrap_i64 (by omega) (by omega)) ?_)))
  refine arn ((((4*k)+2):Nat):Int) rfl .no (.u rfl) (.u rfl) rfl (fun _=>by omega) (fun _=>wrap_i64 (by omega) (by omega)) ?_
  refine ih rfl .no Fx.se24 (.u rfl) (.u rfl) (fun _=>by omega) (fun _=>by omega) (fun _=>hs.nn (k:=((4*k)+2)) (by omega)) ?_
  refine ld rfl .no Fx.ag5 (.u rfl) (fun _=>(hs.yat (((4*k)+2)) (by omega) (by omega)).rd) ?_
  refine cu (k:=.u8) rfl .no rfl Fx.cv5_130 (.u rfl) ?_
  refine lw (k:=.u32) rfl .no rfl (.u rfl) (.u rfl) (fun _=>by decide) ?_
  refine bw (k:=.u32) rfl .no rfl (.u rfl) (.u rfl) rfl (mV rfl rfl (mV rfl rfl (arn (((4*k):Nat):Int) rfl .no (.u rfl) (.u rfl) rfl (fun _=>by omega) (fun _=>wrap_i64 (by omega) (by omega)) ?_)))
  refine arn ((((4*k)+3):Nat):Int) rfl .no (.u rfl) (.u rfl) rfl (fun _=>by omega) (fun _=>wrap_i64 (by omega) (by omega)) ?_
  refine ih rfl .no Fx.se24 (.u rfl) (.u rfl) (fun _=>by omega) (fun _=>by omega) (fun _=>hs.nn (k:=((4*k)+3)) (by omega)) ?_
  refine ld rfl .no Fx.ag5 (.u rfl) (fun _=>(hs.yat (((4*k)+3)) (by omega) (by omega)).rd) ?_
  refine cu (k:=.u8) rfl .no rfl Fx.cv5_130 (.u rfl) ?_
  refine bw (k:=.u32) rfl .no rfl (.u rfl) (.u rfl) rfl ?_
  refine Go.Tan.b1 rfl Fx.se195 Fx.zv130 (.u rfl) rfl rfl (by decide) ?_; intro b46
  refine ap rfl Fx.se195 Fx.zv130 rfl (.u rfl) (.u rfl) tk1 (rfl) (fun _=>⟨_,_,rfl,RdN.own .here⟩) (one1 rfl) (by omega) (by unfold maxLen; omega) ?_; intro v47
  refine aS rfl rfl (.nil (.blk (.code (rq3 rfl rfl (mV rfl rfl (arn (((k+1):Nat):Int) rfl .no (.u rfl) (.u rfl) rfl (fun _=>by omega) (fun _=>wrap_i64 (by omega) (by omega)) ?_))))))
  refine aS rfl rfl (.nil (We.lpo (k+1,v47,upd y k (beW (fun i=>xs.getD i 0) (4*k))) ?_ ?_ ?_ ?_ ?_))
  ·exact (esD rfl (esC rfl (by first|rfl|exact evi (by omega)) (esD rfl eZ)))
  ·exact (mS .here row_snoc mN)
  ·first|omega|(dsimp only; omega)
  ·exact hGl0
  refine ⟨?_,?_⟩
  ·(try dsimp only)<;>(first|omega|rfl|assumption|(simp; done))
  (try dsimp only)<;>(rw [ey]; rfl)
 have c1k:=c1
 try simp only [qcA,qcB] at c1
 refine .exit (.xcode (.xlp (.xblk (.code (.seq (.seq (rq1 rfl rfl (aS rfl rfl (.nil (.code (.block ?_)))))))))))
 obtain rfl:k=16:=by omega
 refine Wk.lop (α:=Nat×Value×(Nat→W)) (fun gh=>[(3,true,gh.2.1),(5,true,.int .i64 ((16+gh.1:Nat):Int))]) (fun gh=>[.row gh.2.1 130 1 (16+gh.1) (wa (16+gh.1) gh.2.2)])
  (fun gh Gl=>(gh.1≤48)∧(gh.2.2=sched (fun i=>xs.getD i 0) gh.1)) (fun gh=>48-gh.1) (0,_,y) [] []
  (esD rfl (esC rfl (by first|rfl|exact evi (by omega)) eZ))
  (mS .here rfl mN) ?_ ?_
 ·refine ⟨?_,?_⟩
  ·(try dsimp only)<;>(first|omega|rfl|assumption|(simp; done))
  (try dsimp only)<;>(rw [ey]; rfl)
 intro gh N1 Gl1 hN1 hGl1 hF1
 obtain ⟨k1,v,y⟩:=gh; dsimp only at hF1 hN1 ⊢
 obtain ⟨hk1,ey⟩:=hF1
 refine .seq (.seq (rq2 rfl rfl (mV rfl rfl (cp rfl .no (.u rfl) (.u rfl) rfl (.nil (.code (.cond rfl (fun c2=>?_) (fun c2=>?_))))))))
 ·have c2k:=c2
  try simp only [qcA,qcB] at c2
  refine .skip (.code (.seq (.block (.seq ?_))))
  refine wk_rv .here (by omega) ?_; intro bRW cRW evRW lcRW; subst evRW
  refine Wk.draw (mc:=⟨false,false⟩) [0,1,2,3,4,6,7,8,9,10,13,14,15,16,17,18,5,11,12,19,20] Fx.mix (by kernel_rfl) ?_
  refine mV rfl rfl (mV rfl rfl (arn (((1+k1):Nat):Int) rfl .no (.u rfl) (.u rfl) rfl (fun _=>by omega) (fun _=>wrap_i64 (by omega) (by omega)) ?_))
  refine ia rfl .no Fx.se195 (.u rfl) (.u rfl) (fun _=>by omega) (fun _=>by omega) ?_
  refine ld rfl .no Fx.ag130 (.u rfl) (fun _=>Rd.row .here (by first|exact map_at1 ((1+k1)) (by omega) (by omega)|exact wa_at1 ((1+k1)) (by omega) (by omega))) ?_
  refine mV rfl rfl (mV rfl rfl (arn (((1+k1):Nat):Int) rfl .no (.u rfl) (.u rfl) rfl (fun _=>by omega) (fun _=>wrap_i64 (by omega) (by omega)) ?_))
  refine ia rfl .no Fx.se195 (.u rfl) (.u rfl) (fun _=>by omega) (fun _=>by omega) ?_
  refine ld rfl .no Fx.ag130 (.u rfl) (fun _=>Rd.row .here (by first|exact map_at1 ((1+k1)) (by omega) (by omega)|exact wa_at1 ((1+k1)) (by omega) (by omega))) ?_
  refine mV rfl rfl (mV rfl rfl (arn (((1+k1):Nat):Int) rfl .no (.u rfl) (.u rfl) rfl (fun _=>by omega) (fun _=>wrap_i64 (by omega) (by omega)) ?_))
  refine ia rfl .no Fx.se195 (.u rfl) (.u rfl) (fun _=>by omega) (fun _=>by omega) ?_
  refine ld rfl .no Fx.ag130 (.u rfl) (fun _=>Rd.row .here (by first|exact map_at1 ((1+k1)) (by omega) (by omega)|exact wa_at1 ((1+k1)) (by omega) (by omega))) ?_
  refine rw' (k:=.u32) rfl .no (.u rfl) (.u rfl) (fun _=>by decide) ?_
  refine kv rfl .no Fx.go148 (Evc rfl (Evc rfl Evn)) (fun _=>rturn_ok _ 7 _ (by decide)) ?_
  refine kv rfl .no Fx.go148 (Evc rfl (Evc rfl Evn)) (fun _=>rturn_ok _ 18 _ (by decide)) ?_
  refine bw (k:=.u32) rfl .no rfl (.u rfl) (.u rfl) rfl (bw (k:=.u32) rfl .no rfl (.u rfl) (.u rfl) rfl (aS rfl rfl (.nil (.code (.seq (Wk.draw (mc:=⟨false,false⟩) [0,1,2,3,4,6,7,8,9,10,13,14,15,16,17,18,5,11,12,19,20] Fx.mix (by kernel_rfl) ?_))))))
  refine mV rfl rfl (mV rfl rfl (arn (((14+k1):Nat):Int) rfl .no (.u rfl) (.u rfl) rfl (fun _=>by omega) (fun _=>wrap_i64 (by omega) (by omega)) ?_))
  refine ia rfl .no Fx.se195 (.u rfl) (.u rfl) (fun _=>by omega) (fun _=>by omega) ?_
  refine ld rfl .no Fx.ag130 (.u rfl) (fun _=>Rd.row .here (by first|exact map_at1 ((14+k1)) (by omega) (by omega)|exact wa_at1 ((14+k1)) (by omega) (by omega))) ?_
  refine mV rfl rfl (mV rfl rfl (arn (((14+k1):Nat):Int) rfl .no (.u rfl) (.u rfl) rfl (fun _=>by omega) (fun _=>wrap_i64 (by omega) (by omega)) ?_))
  refine ia rfl .no Fx.se195 (.u rfl) (.u rfl) (fun _=>by omega) (fun _=>by omega) ?_
  refine ld rfl .no Fx.ag130 (.u rfl) (fun _=>Rd.row .here (by first|exact map_at1 ((14+k1)) (by omega) (by omega)|exact wa_at1 ((14+k1)) (by omega) (by omega))) ?_
  refine mV rfl rfl (mV rfl rfl (arn (((14+k1):Nat):Int) rfl .no (.u rfl) (.u rfl) rfl (fun _=>by omega) (fun _=>wrap_i64 (by omega) (by omega)) ?_))
  refine ia rfl .no Fx.se195 (.u rfl) (.u rfl) (fun _=>by omega) (fun _=>by omega) ?_
  refine ld rfl .no Fx.ag130 (.u rfl) (fun _=>Rd.row .here (by first|exact map_at1 ((14+k1)) (by omega) (by omega)|exact wa_at1 ((14+k1)) (by omega) (by omega))) ?_
  refine rw' (k:=.u32) rfl .no (.u rfl) (.u rfl) (fun _=>by decide) ?_
  refine kv rfl .no Fx.go148 (Evc rfl (Evc rfl Evn)) (fun _=>rturn_ok _ 17 _ (by decide)) ?_
  refine kv rfl .no Fx.go148 (Evc rfl (Evc rfl Evn)) (fun _=>rturn_ok _ 19 _ (by decide)) ?_
  refine bw (k:=.u32) rfl .no rfl (.u rfl) (.u rfl) rfl (bw (k:=.u32) rfl .no rfl (.u rfl) (.u rfl) rfl (aS rfl rfl (.nil (.code (Wk.draw (mc:=⟨false,false⟩) [0,1,2,3,4,5,6,7,8,9,10,11,12,13,14,15,16,17,18] Fx.mix (by kernel_rfl) ?_)))))
  refine mV rfl rfl (mV rfl rfl (mV rfl rfl (arn ((k1:Nat):Int) rfl .no (.u rfl) (.u rfl) rfl (fun _=>by omega) (fun _=>wrap_i64 (by omega) (by omega)) ?_)))
  refine ia rfl .no Fx.se195 (.u rfl) (.u rfl) (fun _=>by omega) (fun _=>by omega) ?_
  refine ld rfl .no Fx.ag130 (.u rfl) (fun _=>Rd.row .here (by first|exact map_at1 (k1) (by omega) (by omega)|exact wa_at1 (k1) (by omega) (by omega))) ?_
  refine mV rfl rfl (bw (k:=.u32) rfl .no rfl (.u rfl) (.u rfl) rfl (mV rfl rfl (mV rfl rfl (arn (((9+k1):Nat):Int) rfl .no (.u rfl) (.u rfl) rfl (fun _=>by omega) (fun _=>wrap_i64 (by omega) (by omega)) ?_))))
  refine ia rfl .no Fx.se195 (.u rfl) (.u rfl) (fun _=>by omega) (fun _=>by omega) ?_
  refine ld rfl .no Fx.ag130 (.u rfl) (fun _=>Rd.row .here (by first|exact map_at1 ((9+k1)) (by omega) (by omega)|exact wa_at1 ((9+k1)) (by omega) (by omega))) ?_
  refine bw (k:=.u32) rfl .no rfl (.u rfl) (.u rfl) rfl (mV rfl rfl (bw (k:=.u32) rfl .no rfl (.u rfl) (.u rfl) rfl ?_))
  refine Go.Tan.b1 rfl Fx.se195 Fx.zv130 (.u rfl) rfl rfl (by decide) ?_; intro b108
  refine ap rfl Fx.se195 Fx.zv130 rfl (.u rfl) (.u rfl) tk1 (rfl) (fun _=>⟨_,_,rfl,RdN.own .here⟩) (one1 rfl) (by omega) (by unfold maxLen; omega) ?_; intro v109
  refine aS rfl rfl (.nil (.blk (.code (rq3 rfl rfl (mV rfl rfl (arn (((((16+k1:Nat))+1):Nat):Int) rfl .no (.u rfl) (.u rfl) rfl (fun _=>by omega) (fun _=>wrap_i64 (by omega) (by omega)) ?_))))))
  refine aS rfl rfl (.nil (We.lpo (k1+1,v109,upd y (16+k1) (y k1+s0W (y (1+k1))+y (9+k1)+s1W (y (14+k1)))) ?_ ?_ ?_ ?_ ?_))
  ·exact (esD rfl (esC rfl (by first|rfl|exact evi (by omega)) eZ))
  ·exact (mS .here row_snoc mN)
  ·first|omega|(dsimp only; omega)
  ·exact hGl1
  refine ⟨?_,?_⟩
  ·(try dsimp only)<;>(first|omega|rfl|assumption|(simp; done))
  (try dsimp only)<;>(rw [ey,sched]; exact congrArg (upd _ _) (add_mid ..))
 have c2k:=c2
 try simp only [qcA,qcB] at c2
 refine .exit (.xcode (.xlp (.xblk (.code (.seq (rq2 rfl rfl (mV rfl rfl (aS rfl rfl (.nil (.code (.ret (We.fin Tryz.results147 (.tmp rfl .nil) (mS .here rfl mN) ?_))))))))))))
 obtain rfl:k1=48:=by omega
 rw [ey]; rfl
theorem rnd_b {x y:Nat→W} {k:Nat} {zs:List Value} (h:zs.length=8) (a e:W) (ha:a=rndW x (kW k) (y k) 0) (he:e=rndW x (kW k) (y k) 4):bFold zs [(0,1),(1,1),(2,1),(3,1),(4,1),(5,1),(6,1),(7,1)] [[U a],[U (x 0)],[U (x 1)],[U (x 2)],[U e],[U (x 4)],[U (x 5)],[U (x 6)]]=wa 8 (rndW x (kW k) (y k)):=by
 subst ha; subst he
 match zs,h with
 | [a,b,c,d,e,f,g,h],_=>rfl
set_option maxHeartbeats 1000000 in
theorem rblock_ok (s:Nat→W) (xs:List Y) (h:Sh) (G:PM) (hs:SlR G 1 encY h xs) (hR:RdNP G 0 0 (wa 64 kW)) (hl:64≤xs.length):Ct Tryz.prog 137 ([.agg (wa 8 s).toArray,h.val xs.length]:List Value).toArray G [] (fun _ μ' u=>μ'=[]∧u=.agg (wa 8 (shaC s (fun i=>xs.getD i 0))).toArray):=by
 refine Ct.of Tryz.func137 rfl Tryz.ntmps137 rfl fun w0 hs0=>?_
 refine .seq (rq2 rfl rfl ?_)
 refine bx rfl (.u rfl) rfl ?_; intro b2
 refine al rfl Fx.zr179 ?_; intro b4
 refine .nil (.code (.seq (rq3 rfl rfl (mV rfl rfl (kc rfl Fx.go147 (Evc rfl Evn) (rwords_ok xs h _ hs hl) ?_)))))
 rintro v12 G12 μ12 hG12 rfl
 have hR:=hR.mono hG12
 refine aS rfl rfl (.nil (.code (.seq (rq3 rfl rfl (lA rfl .no Fx.ag179 (.u rfl) (fun _=>RdN.own tk2) (fun _=>(by first|exact qE|exact qL|rfl)) ?_)))))
 refine al rfl Fx.zr179 ?_; intro b6
 refine sw rfl (.u rfl) (.u rfl) rfl Fx.sz179 .here (by first|exact qE|exact qL|rfl) (by first|exact ba_one _ _|exact wa_one _ _|exact one_V _|decide|exact one_app (wa_one _ _) (by simp [Value.oneCell'])) ?_
 refine .nil (.code (.seq (.seq ?_)))
 refine wk_rv tk1 (by omega) ?_; intro bRW cRW evRW lcRW; subst evRW
 refine rq1 rfl rfl (aS rfl rfl (.nil (.code (.block ?_))))
 refine Wk.lop (α:=Nat×(Nat→W)) (fun gh=>[(7,true,.int .i64 (gh.1:Int))]) (fun gh=>[.blk b6 (cl (wa 8 gh.2) 179)])
  (fun gh Gl=>(gh.1≤64)∧(gh.2=rnds (sched (fun i=>xs.getD i 0) 48) s gh.1)) (fun gh=>64-gh.1) (0,s) [(2,true,_),(4,true,_),(5,true,_),(6,true,_)] [_,_,_]
  (esC rfl (by first|rfl|exact evi (by omega)) (esD rfl (esD rfl (esD rfl (esD rfl eZ)))))
  (mS .here rfl (mS .here rfl (mS .here rfl (mS .here rfl mN)))) ?_ ?_
 ·refine ⟨?_,?_⟩
  ·(try dsimp only)<;>(first|omega|rfl|assumption|(simp; done))
  (try dsimp only)<;>(first|omega|rfl|assumption|(simp; done))
 intro gh N0 Gl0 hN0 hGl0 hF0
 obtain ⟨k,x⟩:=gh; dsimp only at hF0 hN0 ⊢
 obtain ⟨hk,ex⟩:=hF0
 have hR:=hR.mono hGl0
 refine .seq (.seq (rq2 rfl rfl (mV rfl rfl (cp rfl .no (.u rfl) (.u rfl) rfl (.nil (.code (.cond rfl (fun c1=>?_) (fun c1=>?_))))))))
 ·have c1k:=c1
  try simp only [qcA,qcB] at c1
  refine .skip (.code (.seq (.block (.seq (Wk.draw (mc:=⟨false,false⟩) [0,1,2,3,5,6,9,10,14,15,16,17,18,19,20,21,22,23,24,25,27,28,29,31,32,33,34,4,7,8,11,12,13,26,30,35,36] Fx.mix (by kernel_rfl) ?_)))))
  refine iA rfl .no Fx.ar179 (.u rfl) (.u rfl) (fun _=>by decide) (fun _=>by decide) ?_
  refine ld rfl .no Fx.ag130 (.u rfl) (fun _=>Rd.own .here (by first|exact wa_at1 (7) (by omega) (by omega)|exact ba_at1 (7) (by omega) (by omega)|exact wap_at1 (7) (by omega) (by omega)|rfl)) ?_
  refine iA rfl .no Fx.ar179 (.u rfl) (.u rfl) (fun _=>by decide) (fun _=>by decide) ?_
  refine ld rfl .no Fx.ag130 (.u rfl) (fun _=>Rd.own .here (by first|exact wa_at1 (4) (by omega) (by omega)|exact ba_at1 (4) (by omega) (by omega)|exact wap_at1 (4) (by omega) (by omega)|rfl)) ?_
  refine iA rfl .no Fx.ar179 (.u rfl) (.u rfl) (fun _=>by decide) (fun _=>by decide) ?_
  refine ld rfl .no Fx.ag130 (.u rfl) (fun _=>Rd.own .here (by first|exact wa_at1 (4) (by omega) (by omega)|exact ba_at1 (4) (by omega) (by omega)|exact wap_at1 (4) (by omega) (by omega)|rfl)) ?_
  refine iA rfl .no Fx.ar179 (.u rfl) (.u rfl) (fun _=>by decide) (fun _=>by decide) ?_
  refine ld rfl .no Fx.ag130 (.u rfl) (fun _=>Rd.own .here (by first|exact wa_at1 (4) (by omega) (by omega)|exact ba_at1 (4) (by omega) (by omega)|exact wap_at1 (4) (by omega) (by omega)|rfl)) ?_
  refine iA rfl .no Fx.ar179 (.u rfl) (.u rfl) (fun _=>by decide) (fun _=>by decide) ?_
  refine ld rfl .no Fx.ag130 (.u rfl) (fun _=>Rd.own .here (by first|exact wa_at1 (4) (by omega) (by omega)|exact ba_at1 (4) (by omega) (by omega)|exact wap_at1 (4) (by omega) (by omega)|rfl)) ?_
  refine iA rfl .no Fx.ar179 (.u rfl) (.u rfl) (fun _=>by decide) (fun _=>by decide) ?_
  refine ld rfl .no Fx.ag130 (.u rfl) (fun _=>Rd.own .here (by first|exact wa_at1 (5) (by omega) (by omega)|exact ba_at1 (5) (by omega) (by omega)|exact wap_at1 (5) (by omega) (by omega)|rfl)) ?_
  refine bw (k:=.u32) rfl .no rfl (.u rfl) (.u rfl) rfl (iA rfl .no Fx.ar179 (.u rfl) (.u rfl) (fun _=>by decide) (fun _=>by decide) ?_)
  refine ld rfl .no Fx.ag130 (.u rfl) (fun _=>Rd.own .here (by first|exact wa_at1 (4) (by omega) (by omega)|exact ba_at1 (4) (by omega) (by omega)|exact wap_at1 (4) (by omega) (by omega)|rfl)) ?_
  refine xw (k:=.u32) rfl .no rfl (.u rfl) ?_
  refine iA rfl .no Fx.ar179 (.u rfl) (.u rfl) (fun _=>by decide) (fun _=>by decide) ?_
  refine ld rfl .no Fx.ag130 (.u rfl) (fun _=>Rd.own .here (by first|exact wa_at1 (6) (by omega) (by omega)|exact ba_at1 (6) (by omega) (by omega)|exact wap_at1 (6) (by omega) (by omega)|rfl)) ?_
  refine bw (k:=.u32) rfl .no rfl (.u rfl) (.u rfl) rfl (bw (k:=.u32) rfl .no rfl (.u rfl) (.u rfl) rfl (mV rfl rfl (iA rfl .no Fx.ar202 (.u rfl) (.u rfl) (fun _=>by omega) (fun _=>by omega) ?_)))
  refine ld rfl .no Fx.ag130 (.u rfl) (fun _=>(hR.wat (k) (by omega) (by omega)).rd) ?_
  refine mV rfl rfl (mV rfl rfl (ia rfl .no Fx.se195 (.u rfl) (.u rfl) (fun _=>by omega) (fun _=>by omega) ?_))
  refine ld rfl .no Fx.ag130 (.u rfl) (fun _=>Rd.row tk1 (by first|exact map_at1 (k) (by omega) (by omega)|exact wa_at1 (k) (by omega) (by omega))) ?_
  refine kv rfl .no Fx.go148 (Evc rfl (Evc rfl Evn)) (fun _=>rturn_ok _ 6 _ (by decide)) ?_
  refine kv rfl .no Fx.go148 (Evc rfl (Evc rfl Evn)) (fun _=>rturn_ok _ 11 _ (by decide)) ?_
  refine bw (k:=.u32) rfl .no rfl (.u rfl) (.u rfl) rfl (kv rfl .no Fx.go148 (Evc rfl (Evc rfl Evn)) (fun _=>rturn_ok _ 25 _ (by decide)) ?_)
  refine bw (k:=.u32) rfl .no rfl (.u rfl) (.u rfl) rfl (bw (k:=.u32) rfl .no rfl (.u rfl) (.u rfl) rfl (bw (k:=.u32) rfl .no rfl (.u rfl) (.u rfl) rfl (bw (k:=.u32) rfl .no rfl (.u rfl) (.u rfl) rfl (bw (k:=.u32) rfl .no rfl (.u rfl) (.u rfl) rfl (aS rfl rfl (.nil (.code (.seq (Wk.draw (mc:=⟨false,false⟩) [0,1,3,4,7,8,11,12,13,14,15,16,17,18,19,20,21,22,23,24,25,26,27,2,5,6,9,10,28,29] Fx.mix (by kernel_rfl) ?_)))))))))
  refine iA rfl .no Fx.ar179 (.u rfl) (.u rfl) (fun _=>by decide) (fun _=>by decide) ?_
  refine ld rfl .no Fx.ag130 (.u rfl) (fun _=>Rd.own .here (by first|exact wa_at1 (0) (by omega) (by omega)|exact ba_at1 (0) (by omega) (by omega)|exact wap_at1 (0) (by omega) (by omega)|rfl)) ?_
  refine iA rfl .no Fx.ar179 (.u rfl) (.u rfl) (fun _=>by decide) (fun _=>by decide) ?_
  refine ld rfl .no Fx.ag130 (.u rfl) (fun _=>Rd.own .here (by first|exact wa_at1 (0) (by omega) (by omega)|exact ba_at1 (0) (by omega) (by omega)|exact wap_at1 (0) (by omega) (by omega)|rfl)) ?_
  refine iA rfl .no Fx.ar179 (.u rfl) (.u rfl) (fun _=>by decide) (fun _=>by decide) ?_
  refine ld rfl .no Fx.ag130 (.u rfl) (fun _=>Rd.own .here (by first|exact wa_at1 (0) (by omega) (by omega)|exact ba_at1 (0) (by omega) (by omega)|exact wap_at1 (0) (by omega) (by omega)|rfl)) ?_
  refine iA rfl .no Fx.ar179 (.u rfl) (.u rfl) (fun _=>by decide) (fun _=>by decide) ?_
  refine ld rfl .no Fx.ag130 (.u rfl) (fun _=>Rd.own .here (by first|exact wa_at1 (0) (by omega) (by omega)|exact ba_at1 (0) (by omega) (by omega)|exact wap_at1 (0) (by omega) (by omega)|rfl)) ?_
  refine iA rfl .no Fx.ar179 (.u rfl) (.u rfl) (fun _=>by decide) (fun _=>by decide) ?_
  refine ld rfl .no Fx.ag130 (.u rfl) (fun _=>Rd.own .here (by first|exact wa_at1 (1) (by omega) (by omega)|exact ba_at1 (1) (by omega) (by omega)|exact wap_at1 (1) (by omega) (by omega)|rfl)) ?_
  refine bw (k:=.u32) rfl .no rfl (.u rfl) (.u rfl) rfl (iA rfl .no Fx.ar179 (.u rfl) (.u rfl) (fun _=>by decide) (fun _=>by decide) ?_)
  refine ld rfl .no Fx.ag130 (.u rfl) (fun _=>Rd.own .here (by first|exact wa_at1 (0) (by omega) (by omega)|exact ba_at1 (0) (by omega) (by omega)|exact wap_at1 (0) (by omega) (by omega)|rfl)) ?_
  refine iA rfl .no Fx.ar179 (.u rfl) (.u rfl) (fun _=>by decide) (fun _=>by decide) ?_
  refine ld rfl .no Fx.ag130 (.u rfl) (fun _=>Rd.own .here (by first|exact wa_at1 (2) (by omega) (by omega)|exact ba_at1 (2) (by omega) (by omega)|exact wap_at1 (2) (by omega) (by omega)|rfl)) ?_
  refine bw (k:=.u32) rfl .no rfl (.u rfl) (.u rfl) rfl (bw (k:=.u32) rfl .no rfl (.u rfl) (.u rfl) rfl (iA rfl .no Fx.ar179 (.u rfl) (.u rfl) (fun _=>by decide) (fun _=>by decide) ?_))
  refine ld rfl .no Fx.ag130 (.u rfl) (fun _=>Rd.own .here (by first|exact wa_at1 (1) (by omega) (by omega)|exact ba_at1 (1) (by omega) (by omega)|exact wap_at1 (1) (by omega) (by omega)|rfl)) ?_
  refine iA rfl .no Fx.ar179 (.u rfl) (.u rfl) (fun _=>by decide) (fun _=>by decide) ?_
  refine ld rfl .no Fx.ag130 (.u rfl) (fun _=>Rd.own .here (by first|exact wa_at1 (2) (by omega) (by omega)|exact ba_at1 (2) (by omega) (by omega)|exact wap_at1 (2) (by omega) (by omega)|rfl)) ?_
  refine bw (k:=.u32) rfl .no rfl (.u rfl) (.u rfl) rfl (bw (k:=.u32) rfl .no rfl (.u rfl) (.u rfl) rfl (kv rfl .no Fx.go148 (Evc rfl (Evc rfl Evn)) (fun _=>rturn_ok _ 2 _ (by decide)) ?_))
  refine kv rfl .no Fx.go148 (Evc rfl (Evc rfl Evn)) (fun _=>rturn_ok _ 13 _ (by decide)) ?_
  refine bw (k:=.u32) rfl .no rfl (.u rfl) (.u rfl) rfl (kv rfl .no Fx.go148 (Evc rfl (Evc rfl Evn)) (fun _=>rturn_ok _ 22 _ (by decide)) ?_)
  refine bw (k:=.u32) rfl .no rfl (.u rfl) (.u rfl) rfl (bw (k:=.u32) rfl .no rfl (.u rfl) (.u rfl) rfl (aS rfl rfl (.nil (.code (Wk.rg [0,1,2,3,4,5,6,7,8,9,10,11,12,13,14,15,16,17,18,19,20] rfl rfl (mV rfl rfl (mV rfl rfl (bw (k:=.u32) rfl .no rfl (.u rfl) (.u rfl) rfl (iA rfl .no Fx.ar179 (.u rfl) (.u rfl) (fun _=>by decide) (fun _=>by decide) ?_)))))))))
  refine ld rfl .no Fx.ag130 (.u rfl) (fun _=>Rd.own .here (by first|exact wa_at1 (0) (by omega) (by omega)|exact ba_at1 (0) (by omega) (by omega)|exact wap_at1 (0) (by omega) (by omega)|rfl)) ?_
  refine iA rfl .no Fx.ar179 (.u rfl) (.u rfl) (fun _=>by decide) (fun _=>by decide) ?_
  refine ld rfl .no Fx.ag130 (.u rfl) (fun _=>Rd.own .here (by first|exact wa_at1 (1) (by omega) (by omega)|exact ba_at1 (1) (by omega) (by omega)|exact wap_at1 (1) (by omega) (by omega)|rfl)) ?_
  refine iA rfl .no Fx.ar179 (.u rfl) (.u rfl) (fun _=>by decide) (fun _=>by decide) ?_
  refine ld rfl .no Fx.ag130 (.u rfl) (fun _=>Rd.own .here (by first|exact wa_at1 (2) (by omega) (by omega)|exact ba_at1 (2) (by omega) (by omega)|exact wap_at1 (2) (by omega) (by omega)|rfl)) ?_
  refine iA rfl .no Fx.ar179 (.u rfl) (.u rfl) (fun _=>by decide) (fun _=>by decide) ?_
  refine ld rfl .no Fx.ag130 (.u rfl) (fun _=>Rd.own .here (by first|exact wa_at1 (3) (by omega) (by omega)|exact ba_at1 (3) (by omega) (by omega)|exact wap_at1 (3) (by omega) (by omega)|rfl)) ?_
  refine mV rfl rfl (bw (k:=.u32) rfl .no rfl (.u rfl) (.u rfl) rfl (iA rfl .no Fx.ar179 (.u rfl) (.u rfl) (fun _=>by decide) (fun _=>by decide) ?_))
  refine ld rfl .no Fx.ag130 (.u rfl) (fun _=>Rd.own .here (by first|exact wa_at1 (4) (by omega) (by omega)|exact ba_at1 (4) (by omega) (by omega)|exact wap_at1 (4) (by omega) (by omega)|rfl)) ?_
  refine iA rfl .no Fx.ar179 (.u rfl) (.u rfl) (fun _=>by decide) (fun _=>by decide) ?_
  refine ld rfl .no Fx.ag130 (.u rfl) (fun _=>Rd.own .here (by first|exact wa_at1 (5) (by omega) (by omega)|exact ba_at1 (5) (by omega) (by omega)|exact wap_at1 (5) (by omega) (by omega)|rfl)) ?_
  refine iA rfl .no Fx.ar179 (.u rfl) (.u rfl) (fun _=>by decide) (fun _=>by decide) ?_
  refine ld rfl .no Fx.ag130 (.u rfl) (fun _=>Rd.own .here (by first|exact wa_at1 (6) (by omega) (by omega)|exact ba_at1 (6) (by omega) (by omega)|exact wap_at1 (6) (by omega) (by omega)|rfl)) ?_
  refine bCe (wa 8 (rndW x (kW k) (sched (fun i=>xs.getD i 0) 48 k))) rfl .no Fx.bp179_0_1_2_3_4_5_6_7 (.cons (.u rfl) rfl (.cons (.u rfl) rfl (.cons (.u rfl) rfl (.cons (.u rfl) rfl (.cons (.u rfl) rfl (.cons (.u rfl) rfl (.cons (.u rfl) rfl (.cons (.u rfl) rfl .nil)))))))) rfl (rnd_b (y:=sched (fun i=>xs.getD i 0) 48) rfl _ _ (rnd_a x _ _) (rnd_e x _ _)) ?_
  refine sw rfl (.u rfl) (.u rfl) rfl Fx.sz179 .here (by first|exact qE|exact qL|rfl) (by first|exact ba_one _ _|exact wa_one _ _|exact one_V _|decide|exact one_app (wa_one _ _) (by simp [Value.oneCell'])) ?_
  refine .nil (.blk (.code (rq3 rfl rfl (mV rfl rfl (arn (((k+1):Nat):Int) rfl .no (.u rfl) (.u rfl) rfl (fun _=>by omega) (fun _=>wrap_i64 (by omega) (by omega)) ?_)))))
  refine aS rfl rfl (.nil (We.lpo (k+1,rndW x (kW k) (sched (fun i=>xs.getD i 0) 48 k)) ?_ ?_ ?_ ?_ ?_))
  ·exact (esC rfl (by first|rfl|exact evi (by omega)) (esD rfl (esD rfl (esD rfl (esD rfl eZ)))))
  ·exact (mS .here rfl (mS .here rfl (mS .here rfl (mS .here rfl mN))))
  ·first|omega|(dsimp only; omega)
  ·exact hGl0
  refine ⟨?_,?_⟩
  ·(try dsimp only)<;>(first|omega|rfl|assumption|(simp; done))
  (try dsimp only)<;>(rw [ex]; rfl)
 have c1k:=c1
 try simp only [qcA,qcB] at c1
 refine .exit (.xcode (.xlp (.xblk (.code (.seq (.seq (rq1 rfl rfl (aS rfl rfl (.nil (.code (.block ?_)))))))))))
 obtain rfl:k=64:=by omega
 refine Wk.lop (α:=Nat×(Nat→W)) (fun gh=>[(10,true,.int .i64 (gh.1:Int))]) (fun gh=>[.blk b6 (cl (wa 8 gh.2) 179)])
  (fun gh Gl=>(gh.1≤8)∧(gh.2=fun i=>if i<gh.1 then s i+x i else x i)) (fun gh=>8-gh.1) (0,x) [(2,true,_),(4,true,_),(6,true,_)] [_,_,_]
  (esC rfl (by first|rfl|exact evi (by omega)) (esD rfl (esD rfl (esD rfl eZ))))
  (mS .here rfl (mS .here rfl (mS .here rfl (mS .here rfl mN)))) ?_ ?_
 ·refine ⟨?_,?_⟩
  ·(try dsimp only)<;>(first|omega|rfl|assumption|(simp; done))
  (try dsimp only)<;>(funext i; simp)
 intro gh N1 Gl1 hN1 hGl1 hF1
 obtain ⟨q,z⟩:=gh; dsimp only at hF1 hN1 ⊢
 obtain ⟨hq,ez⟩:=hF1
 refine .seq (.seq (rq2 rfl rfl (mV rfl rfl (cp rfl .no (.u rfl) (.u rfl) rfl (.nil (.code (.cond rfl (fun c2=>?_) (fun c2=>?_))))))))
 ·have c2k:=c2
  try simp only [qcA,qcB] at c2
  refine .skip (.code (.seq (.block (Wk.draw (mc:=⟨false,false⟩) [0,1,2,3,4,5,6,7,8,9] Fx.mix (by kernel_rfl) ?_))))
  refine mV rfl rfl (mV rfl rfl (iA rfl .no Fx.ar179 (.u rfl) (.u rfl) (fun _=>by omega) (fun _=>by omega) ?_))
  refine ld rfl .no Fx.ag130 (.u rfl) (fun _=>Rd.own .here (by first|exact wa_at1 (q) (by omega) (by omega)|exact ba_at1 (q) (by omega) (by omega)|exact wap_at1 (q) (by omega) (by omega)|rfl)) ?_
  refine mV rfl rfl (iA rfl .no Fx.ar179 (.u rfl) (.u rfl) (fun _=>by omega) (fun _=>by omega) ?_)
  refine ld rfl .no Fx.ag130 (.u rfl) (fun _=>Rd.own tk3 (by first|exact wa_at1 (q) (by omega) (by omega)|exact ba_at1 (q) (by omega) (by omega)|exact wap_at1 (q) (by omega) (by omega)|rfl)) ?_
  refine bw (k:=.u32) rfl .no rfl (.u rfl) (.u rfl) rfl (iA rfl .no Fx.ar179 (.u rfl) (.u rfl) (fun _=>by omega) (fun _=>by omega) ?_)
  refine s1 rfl (.u rfl) (.u rfl) rfl Fx.sz130 .here (by first|decide|(simp only [wa_len,ba_len,qlA]; omega)) (by first|exact wa_set1 (q) (by omega)|exact ba_set1 (q) (by omega)|exact wap_set1 (q) (by omega) (by omega)|rfl) ?_
  refine .nil (.blk (.code (rq3 rfl rfl (mV rfl rfl (arn (((q+1):Nat):Int) rfl .no (.u rfl) (.u rfl) rfl (fun _=>by omega) (fun _=>wrap_i64 (by omega) (by omega)) ?_)))))
  refine aS rfl rfl (.nil (We.lpo (q+1,upd z q (z q+s q)) ?_ ?_ ?_ ?_ ?_))
  ·exact (esC rfl (by first|rfl|exact evi (by omega)) (esD rfl (esD rfl (esD rfl eZ))))
  ·exact (mS .here rfl (mS .here rfl (mS .here rfl (mS .here rfl mN))))
  ·first|omega|(dsimp only; omega)
  ·exact hGl1
  refine ⟨?_,?_⟩
  ·(try dsimp only)<;>(first|omega|rfl|assumption|(simp; done))
  (try dsimp only)<;>(rw [ez]; exact upd_if2)
 have c2k:=c2
 try simp only [qcA,qcB] at c2
 refine .exit (.xcode (.xlp (.xblk (.code (.seq (rq2 rfl rfl (lA rfl .no Fx.ag179 (.u rfl) (fun _=>RdN.own .here) (fun _=>(by first|exact qE|exact qL|rfl)) ?_)))))))
 refine sw rfl (.u rfl) (.u rfl) rfl Fx.sz179 tk2 (by first|exact qE|exact qL|rfl) (by first|exact ba_one _ _|exact wa_one _ _|exact one_V _|decide|exact one_app (wa_one _ _) (by simp [Value.oneCell'])) ?_
 refine .nil (.code (.ret (We.fin0 Tryz.results137 (.cell rfl (fun w hw=>run_loadVarN Fx.ag179 (RdN.own .here) ((by first|exact qE|exact qL|rfl)) hw) .nil) ?_)))
 obtain rfl:q=8:=by omega
 exact ⟨rfl,by rw [ez,ex,wa_congr (f:=fun i=>if i<8 then s i+rnds (sched (fun i=>xs.getD i 0) 48) s 64 i else rnds (sched (fun i=>xs.getD i 0) 48) s 64 i) (f':=shaC s (fun i=>xs.getD i 0)) (fun i hi=>by rw [if_pos hi]; rfl)]; rfl⟩
theorem padded_ok (xs:List Y) (h:Sh) (G:PM) (hs:SlR G 1 encY h xs) (hl:xs.length≤1000000000000):Ct Tryz.prog 136 ([h.val xs.length]:List Value).toArray G [] (PR 5 (fun L=>L=padL xs)):=by
 refine Ct.of Tryz.func136 rfl Tryz.ntmps136 rfl fun w0 hs0=>?_
 have hz:zeros xs.length=(119-xs.length%64)%64:=rfl
 refine .seq (rq1 rfl rfl (aS rfl rfl (.nil (.code (.seq (rq4 rfl rfl ?_))))))
 refine b0B rfl Fx.se24 ?_; intro b6
 refine mV rfl rfl (apY0 rfl Fx.se24 Fx.zv5 (.u rfl) (.u rfl) .here hs.sc (by (try simp only [qlA,yl_len]); omega) ?_)
 intro v8 L8 _ ov8 eL8
 have lL8:L8.length=xs.length:=by rw [eL8]
 refine aS rfl rfl (.nil (.code (.seq (rq4 rfl rfl (mV rfl rfl ?_)))))
 refine Go.Tan.b1 rfl Fx.se24 Fx.zv5 (.u rfl) rfl rfl (by decide) ?_; intro b10
 refine apY rfl Fx.se24 Fx.zv5 (.u rfl) (.u rfl) tk1 (Sc.one (y:=128#8) .here) (by show _+1≤_; omega) ?_
 intro v11 L11 ov11 eL11
 have lL11:L11.length=L8.length+1:=by rw [eL11,List.length_append]; first|rfl | simp [yl_len]
 refine aS rfl rfl (.nil (.code (.seq (.block ?_))))
 refine Wk.lop (α:=Nat×Value×List Y) (fun gh=>[(3,true,gh.2.1)]) (fun gh=>[rB gh.2.1 5 gh.2.2])
  (fun gh Gl=>(gh.1≤zeros xs.length)∧(gh.2.2=xs++128#8 :: List.replicate gh.1 0#8)) (fun gh=>zeros xs.length-gh.1) (0,_,_) [(0,true,_)] [_]
  (esD rfl (esD rfl eZ))
  (mS .here rfl (mS .here rfl mN)) ?_ ?_
 ·refine ⟨?_,?_⟩
  ·(try dsimp only)<;>(exact Nat.zero_le _)
  (try dsimp only)<;>(rw [eL11,eL8]; rfl)
 intro gh N0 Gl0 hN0 hGl0 hF0
 obtain ⟨j,v,L⟩:=gh; dsimp only at hF0 hN0 ⊢
 obtain ⟨hj,eL⟩:=hF0
 have lL:L.length=xs.length+1+j:=by rw [eL]; simp; omega
 refine .seq (.seq (rq4 rfl rfl (mV rfl rfl (lr rfl .no Fx.sn24 (.u rfl) .here ?_))))
 refine rmn (L.length) (64) rfl .no (.u rfl) (.u rfl) (fun _=>by omega) (fun _=>by omega) (fun _=>by first|decide|omega) ?_
 refine cp rfl .no (.u rfl) (.u rfl) rfl (.nil (.code (.cond rfl (fun c1=>?_) (fun c1=>?_))))
 ·have c1k:=c1
  try simp only [qcA,qcB] at c1
  refine .skip (.code (.block (rq4 rfl rfl (mV rfl rfl ?_))))
  refine Go.Tan.b1 rfl Fx.se24 Fx.zv5 (.u rfl) rfl rfl (by decide) ?_; intro b17
  refine apY rfl Fx.se24 Fx.zv5 (.u rfl) (.u rfl) tk1 (Sc.one (y:=0#8) .here) (by show _+1≤_; omega) ?_
  intro v18 L18 ov18 eL18
  have lL18:L18.length=L.length+1:=by rw [eL18,List.length_append]; first|rfl | simp [yl_len]
  refine aS rfl rfl (.nil (.blk (We.lpo (j+1,v18,L18) ?_ ?_ ?_ ?_ ?_)))
  ·exact (esD rfl (esD rfl eZ))
  ·exact (mS .here rfl (mS tk1 rfl mN))
  ·(try dsimp only); omega
  ·exact hGl0
  refine ⟨?_,?_⟩
  ·(try dsimp only)<;>(omega)
  (try dsimp only)<;>(rw [eL18,eL,List.append_assoc,List.cons_append,←List.replicate_succ'])
 have c1k:=c1
 try simp only [qcA,qcB] at c1
 refine .exit (.xcode (.xlp (.xblk (.code (.seq (rq5 rfl rfl (mV rfl rfl (ln rfl .no Fx.sn24 (.u rfl) (ci rfl .no rfl Fx.cv3_26 (.u rfl) ?_)))))))))
 refine bw (k:=.u64) (b:=8#64) rfl .no rfl (.u rfl) (.u rfl) rfl (aS rfl rfl (.nil (.code (.seq (.seq (rq1 rfl rfl (aS rfl rfl (.nil (.code (.block ?_))))))))))
 refine Wk.lop (α:=Nat×Value×List Y) (fun gh=>[(3,true,gh.2.1),(5,true,.int .i64 (7-(gh.1:Int)))]) (fun gh=>[rB gh.2.1 5 gh.2.2])
  (fun gh Gl=>(gh.1≤8)∧(gh.2.2=xs++(128#8 :: List.replicate (zeros xs.length) 0#8++lenB xs.length gh.1))) (fun gh=>8-gh.1) (0,_,_) [(4,true,_)] [_]
  (esD rfl (esC rfl (by first|rfl|exact evi (by omega)) (esD rfl eZ)))
  (mS .here rfl (mS .here rfl mN)) ?_ ?_
 ·refine ⟨?_,?_⟩
  ·(try dsimp only)<;>(first|omega|rfl|assumption|(simp; done))
  (try dsimp only)<;>(rw [eL,show j=zeros xs.length by omega]; simp [lenB])
 intro gh N1 Gl1 hN1 hGl1 hF1
 obtain ⟨q,v,L⟩:=gh; dsimp only at hF1 hN1 ⊢
 obtain ⟨hq,eL⟩:=hF1
 have lL:L.length=xs.length+zeros xs.length+1+q:=by rw [eL]; simp [lenB_len]; omega
 refine .seq (.seq (rq2 rfl rfl (mV rfl rfl (cp rfl .no (.u rfl) (.u rfl) rfl (.nil (.code (.cond rfl (fun c2=>?_) (fun c2=>?_))))))))
 ·have c2k:=c2
  try simp only [qcA,qcB] at c2
  refine .skip (.code (.seq (.block (rq9 rfl rfl (mV rfl rfl (mV rfl rfl (mV rfl rfl (arn (((8*(7-q)):Nat):Int) rfl .no (.u rfl) (.u rfl) rfl (fun _=>by omega) (fun _=>wrap_i64 (by omega) (by omega)) ?_))))))))
  refine rw' (k:=.u64) rfl .no (.u rfl) (.u rfl) (fun _=>by omega) ?_
  refine cu (k:=.u64) rfl .no rfl Fx.cv26_5 (.u rfl) ?_
  refine Go.Tan.b1 rfl Fx.se24 Fx.zv5 (.u rfl) rfl rfl (by decide) ?_; intro b33
  refine apY rfl Fx.se24 Fx.zv5 (.u rfl) (.u rfl) tk1 (Sc.one .here) (by show _+1≤_; omega) ?_
  intro v34 L34 ov34 eL34
  have lL34:L34.length=L.length+1:=by rw [eL34,List.length_append]; first|rfl | simp [yl_len]
  refine aS rfl rfl (.nil (.blk (.code (rq3 rfl rfl (mV rfl rfl (ar rfl .no (.u rfl) (.u rfl) rfl (fun _=>wrap_i64 (by omega) (by omega)) ?_))))))
  refine aS rfl rfl (.nil (We.lpo (q+1,v34,L34) ?_ ?_ ?_ ?_ ?_))
  ·exact (esD rfl (esC rfl (by first|rfl|exact evi (by omega)) (esD rfl eZ)))
  ·exact (mS .here rfl (mS tk1 rfl mN))
  ·first|omega|(dsimp only; omega)
  ·exact hGl1
  refine ⟨?_,?_⟩
  ·(try dsimp only)<;>(first|omega|rfl|assumption|(simp; done))
  (try dsimp only)<;>(rw [eL34,eL,lenB_snoc,List.append_assoc,List.append_assoc,lenF_nat (by omega)]; rfl)
 have c2k:=c2
 try simp only [qcA,qcB] at c2
 refine .exit (.xcode (.xlp (.xblk (.code (.seq (rq2 rfl rfl (mV rfl rfl (aS rfl rfl (.nil (.code (.ret (We.fin Tryz.results136 (.tmp rfl .nil) (mS .here rfl mN) ?_))))))))))))
 obtain rfl:q=8:=by omega
 exact ⟨L,eL,rfl⟩
theorem rSum_ok (xs:List Y) (h:Sh) (G:PM) (hs:SlR G 1 encY h xs) (hR:RdNP G 0 0 (wa 64 kW)) (hl:xs.length≤1000000000000):Ct Tryz.prog 119 ([h.val xs.length]:List Value).toArray G [] (fun _ μ' u=>μ'=[]∧u=.agg (ba 32 (shaD xs)).toArray):=by
 refine Ct.of Tryz.func119 rfl Tryz.ntmps119 rfl fun w0 hs0=>?_
 refine .seq (rq1 rfl rfl ?_)
 refine al rfl Fx.zq23 ?_; intro b2
 refine .nil (.code (.seq (rq3 rfl rfl (mV rfl rfl (kc rfl Fx.go136 (Evc rfl Evn) (Ct.rowc (padded_ok xs h _ hs hl)) ?_)))))
 rintro v9 G9 μ9 hG9 ⟨L9,ov9,eL9,rfl⟩
 have hR:=hR.mono hG9
 refine aS rfl rfl (.nil (.code (.seq ?_)))
 refine wk_fb .here (by first|(intro b hb; cases hb; done) | simp [keys,Res.keys]) ?_; intro GfR9 hR9 hleR9 evR9 hsR9; subst evR9
 have hR:=hR.mono hleR9
 subst eL9
 have lp:=pad_len xs
 have lt:=tail_len xs.length
 have hz:zeros xs.length=(119-xs.length%64)%64:=rfl
 have lp2:(padL xs).length=xs.length+(zeros xs.length+9):=by rw [padL,List.length_append,lt]
 refine rq3 rfl rfl (bCe (wa 8 ivW) rfl .no Fx.bp179_0_1_2_3_4_5_6_7 (.cons (.u rfl) rfl (.cons (.u rfl) rfl (.cons (.u rfl) rfl (.cons (.u rfl) rfl (.cons (.u rfl) rfl (.cons (.u rfl) rfl (.cons (.u rfl) rfl (.cons (.u rfl) rfl .nil)))))))) rfl (by rfl) ?_)
 refine al rfl Fx.zr179 ?_; intro b4
 refine sw rfl (.u rfl) (.u rfl) rfl Fx.sz179 .here (by first|exact qE|exact qL|rfl) (by first|exact ba_one _ _|exact wa_one _ _|exact one_V _|decide|exact one_app (wa_one _ _) (by simp [Value.oneCell'])) ?_
 refine .nil (.code (.seq (.seq (rq1 rfl rfl (aS rfl rfl (.nil (.code (.block ?_))))))))
 refine Wk.lop (α:=Nat) (fun j=>[(5,true,.int .i64 ((64*j:Nat):Int))]) (fun j=>[.blk b4 (cl (wa 8 (shaW (padL xs) j)) 179)])
  (fun j Gl=>(64*j≤(padL xs).length)) (fun j=>(padL xs).length-64*j) 0 [(2,true,_),(3,true,_),(4,true,_)] [_]
  (esC rfl (by first|rfl|exact evi (by omega)) (esD rfl (esD rfl (esD rfl eZ))))
  (mS .here rfl (mS .here rfl mN)) ?_ ?_
 ·(try dsimp only)<;>(first|omega|rfl|assumption|(simp; done))
 intro j N0 Gl0 hN0 hGl0 hF0
 try dsimp only at hF0 hN0 ⊢
 have hj:=hF0
 have hR:=hR.mono hGl0
 have hsR9:=hsR9.mono hGl0
 refine .seq (.seq (rq4 rfl rfl (mV rfl rfl (mV rfl rfl (ln rfl .no Fx.sn24 (.u rfl) (cp rfl .no (.u rfl) (.u rfl) rfl (.nil (.code (.cond rfl (fun c1=>?_) (fun c1=>?_))))))))))
 ·have c1k:=c1
  try simp only [qcA,qcB] at c1
  refine .skip (.code (.seq (.block (Wk.draw (mc:=⟨false,false⟩) [0,1,2,3,4,5,6,7] Fx.mix (by kernel_rfl) ?_))))
  refine lA rfl .no Fx.ag179 (.u rfl) (fun _=>RdN.own .here) (fun _=>(by first|exact qE|exact qL|rfl)) ?_
  refine mV rfl rfl (mV rfl rfl (mV rfl rfl (arn (((((64*j:Nat))+64):Nat):Int) rfl .no (.u rfl) (.u rfl) rfl (fun _=>by omega) (fun _=>wrap_i64 (by omega) (by omega)) ?_)))
  refine kS (((64*j:Nat))) ((((64*j:Nat))+64)) rfl .no Fx.se24 hsR9 (.u rfl) (.u rfl) (.u rfl) (fun _=>by omega) (fun _=>by omega) (fun _=>by omega) (fun _=>by omega) ?_
  intro h22 L22 eL22 lL22 hs22
  have lL22:=lL22 rfl
  refine kv rfl .no Fx.go137 (Evc rfl (Evc rfl Evn)) (fun _=>rblock_ok (shaW (padL xs) j) L22 h22 _ hs22 hR (by omega)) ?_
  refine sw rfl (.u rfl) (.u rfl) rfl Fx.sz179 .here (by first|exact qE|exact qL|rfl) (by first|exact ba_one _ _|exact wa_one _ _|exact one_V _|decide|exact one_app (wa_one _ _) (by simp [Value.oneCell'])) ?_
  refine .nil (.blk (.code (rq3 rfl rfl (mV rfl rfl (arn (((((64*j:Nat))+64):Nat):Int) rfl .no (.u rfl) (.u rfl) rfl (fun _=>by omega) (fun _=>wrap_i64 (by omega) (by omega)) ?_)))))
  refine aS rfl rfl (.nil (We.lpo (j+1) ?_ ?_ ?_ ?_ ?_))
  ·exact (esC rfl (by first|rfl|exact evi (by omega)) (esD rfl (esD rfl (esD rfl eZ))))
  ·exact (mS .here (blk_step eL22) (mS .here rfl mN))
  ·first|omega|(dsimp only; omega)
  ·exact hGl0
  (try dsimp only)<;>(first|omega|rfl|assumption|(simp; done))
 have c1k:=c1
 try simp only [qcA,qcB] at c1
 refine .exit (.xcode (.xlp (.xblk (.code (.seq (rq1 rfl rfl ?_))))))
 refine al rfl Fx.zq23 ?_; intro b6
 refine .nil (.code (.seq (.seq (rq1 rfl rfl (aS rfl rfl (.nil (.code (.block ?_))))))))
 obtain rfl:j=(padL xs).length / 64:=by omega
 refine Wk.lop (α:=Nat×(Nat→Y)) (fun gh=>[(7,true,.int .i64 (gh.1:Int))]) (fun gh=>[.blk b6 (cl (ba 32 gh.2) 23)])
  (fun gh Gl=>(gh.1≤8)∧(gh.2=outs (shaD xs) (4*gh.1))) (fun gh=>8-gh.1) (0,fun _=>0#8) [(2,true,_),(4,true,_),(6,true,_)] [_,_]
  (esC rfl (by first|rfl|exact evi (by omega)) (esD rfl (esD rfl (esD rfl eZ))))
  (mS .here rfl (mS .here rfl (mS .here rfl mN))) ?_ ?_
 ·refine ⟨?_,?_⟩
  ·(try dsimp only)<;>(first|omega|rfl|assumption|(simp; done))
  (try dsimp only)<;>(first|omega|rfl|assumption|(simp; done))
 intro gh N1 Gl1 hN1 hGl1 hF1
 obtain ⟨i,f⟩:=gh; dsimp only at hF1 hN1 ⊢
 obtain ⟨hi,ef⟩:=hF1
 refine .seq (.seq (rq2 rfl rfl (mV rfl rfl (cp rfl .no (.u rfl) (.u rfl) rfl (.nil (.code (.cond rfl (fun c2=>?_) (fun c2=>?_))))))))
 ·have c2k:=c2
  try simp only [qcA,qcB] at c2
  refine .skip (.code (.seq (.block (.seq (rq9 rfl rfl (mV rfl rfl (arn (((4*i):Nat):Int) rfl .no (.u rfl) (.u rfl) rfl (fun _=>by omega) (fun _=>wrap_i64 (by omega) (by omega)) ?_)))))))
  refine mV rfl rfl (iA rfl .no Fx.ar179 (.u rfl) (.u rfl) (fun _=>by omega) (fun _=>by omega) ?_)
  refine ld rfl .no Fx.ag130 (.u rfl) (fun _=>Rd.own tk1 (by first|exact wa_at1 (i) (by omega) (by omega)|exact ba_at1 (i) (by omega) (by omega)|exact wap_at1 (i) (by omega) (by omega)|rfl)) ?_
  refine rw' (k:=.u32) rfl .no (.u rfl) (.u rfl) (fun _=>by decide) ?_
  refine cu (k:=.u32) rfl .no rfl Fx.cv130_5 (.u rfl) ?_
  refine iA rfl .no Fx.ar23 (.u rfl) (.u rfl) (fun _=>by omega) (fun _=>by omega) ?_
  refine s1 rfl (.u rfl) (.u rfl) rfl Fx.sz5 .here (by first|decide|(simp only [wa_len,ba_len,qlA]; omega)) (by first|exact wa_set1 ((4*i)) (by omega)|exact ba_set1 ((4*i)) (by omega)|exact wap_set1 ((4*i)) (by omega) (by omega)|rfl) ?_
  refine .nil (.code (.seq (rq10 rfl rfl (mV rfl rfl (arn (((4*i):Nat):Int) rfl .no (.u rfl) (.u rfl) rfl (fun _=>by omega) (fun _=>wrap_i64 (by omega) (by omega)) ?_)))))
  refine arn ((((4*i)+1):Nat):Int) rfl .no (.u rfl) (.u rfl) rfl (fun _=>by omega) (fun _=>wrap_i64 (by omega) (by omega)) ?_
  refine mV rfl rfl (iA rfl .no Fx.ar179 (.u rfl) (.u rfl) (fun _=>by omega) (fun _=>by omega) ?_)
  refine ld rfl .no Fx.ag130 (.u rfl) (fun _=>Rd.own tk1 (by first|exact wa_at1 (i) (by omega) (by omega)|exact ba_at1 (i) (by omega) (by omega)|exact wap_at1 (i) (by omega) (by omega)|rfl)) ?_
  refine rw' (k:=.u32) rfl .no (.u rfl) (.u rfl) (fun _=>by decide) ?_
  refine cu (k:=.u32) rfl .no rfl Fx.cv130_5 (.u rfl) ?_
  refine iA rfl .no Fx.ar23 (.u rfl) (.u rfl) (fun _=>by omega) (fun _=>by omega) ?_
  refine s1 rfl (.u rfl) (.u rfl) rfl Fx.sz5 .here (by first|decide|(simp only [wa_len,ba_len,qlA]; omega)) (by first|exact wa_set1 (((4*i)+1)) (by omega)|exact ba_set1 (((4*i)+1)) (by omega)|exact wap_set1 (((4*i)+1)) (by omega) (by omega)|rfl) ?_
  refine .nil (.code (.seq (rq10 rfl rfl (mV rfl rfl (arn (((4*i):Nat):Int) rfl .no (.u rfl) (.u rfl) rfl (fun _=>by omega) (fun _=>wrap_i64 (by omega) (by omega)) ?_)))))
  refine arn ((((4*i)+2):Nat):Int) rfl .no (.u rfl) (.u rfl) rfl (fun _=>by omega) (fun _=>wrap_i64 (by omega) (by omega)) ?_
  refine mV rfl rfl (iA rfl .no Fx.ar179 (.u rfl) (.u rfl) (fun _=>by omega) (fun _=>by omega) ?_)
  refine ld rfl .no Fx.ag130 (.u rfl) (fun _=>Rd.own tk1 (by first|exact wa_at1 (i) (by omega) (by omega)|exact ba_at1 (i) (by omega) (by omega)|exact wap_at1 (i) (by omega) (by omega)|rfl)) ?_
  refine rw' (k:=.u32) rfl .no (.u rfl) (.u rfl) (fun _=>by decide) ?_
  refine cu (k:=.u32) rfl .no rfl Fx.cv130_5 (.u rfl) ?_
  refine iA rfl .no Fx.ar23 (.u rfl) (.u rfl) (fun _=>by omega) (fun _=>by omega) ?_
  refine s1 rfl (.u rfl) (.u rfl) rfl Fx.sz5 .here (by first|decide|(simp only [wa_len,ba_len,qlA]; omega)) (by first|exact wa_set1 (((4*i)+2)) (by omega)|exact ba_set1 (((4*i)+2)) (by omega)|exact wap_set1 (((4*i)+2)) (by omega) (by omega)|rfl) ?_
  refine .nil (.code (rq9 rfl rfl (mV rfl rfl (arn (((4*i):Nat):Int) rfl .no (.u rfl) (.u rfl) rfl (fun _=>by omega) (fun _=>wrap_i64 (by omega) (by omega)) ?_))))
  refine arn ((((4*i)+3):Nat):Int) rfl .no (.u rfl) (.u rfl) rfl (fun _=>by omega) (fun _=>wrap_i64 (by omega) (by omega)) ?_
  refine mV rfl rfl (iA rfl .no Fx.ar179 (.u rfl) (.u rfl) (fun _=>by omega) (fun _=>by omega) ?_)
  refine ld rfl .no Fx.ag130 (.u rfl) (fun _=>Rd.own tk1 (by first|exact wa_at1 (i) (by omega) (by omega)|exact ba_at1 (i) (by omega) (by omega)|exact wap_at1 (i) (by omega) (by omega)|rfl)) ?_
  refine cu (k:=.u32) rfl .no rfl Fx.cv130_5 (.u rfl) ?_
  refine iA rfl .no Fx.ar23 (.u rfl) (.u rfl) (fun _=>by omega) (fun _=>by omega) ?_
  refine s1 rfl (.u rfl) (.u rfl) rfl Fx.sz5 .here (by first|decide|(simp only [wa_len,ba_len,qlA]; omega)) (by first|exact wa_set1 (((4*i)+3)) (by omega)|exact ba_set1 (((4*i)+3)) (by omega)|exact wap_set1 (((4*i)+3)) (by omega) (by omega)|rfl) ?_
  refine .nil (.blk (.code (rq3 rfl rfl (mV rfl rfl (arn (((i+1):Nat):Int) rfl .no (.u rfl) (.u rfl) rfl (fun _=>by omega) (fun _=>wrap_i64 (by omega) (by omega)) ?_)))))
  refine aS rfl rfl (.nil (We.lpo (i+1,upd (upd (upd (upd f (4*i) (shaD xs (4*i))) (4*i+1) (shaD xs (4*i+1))) (4*i+2) (shaD xs (4*i+2))) (4*i+3) (shaD xs (4*i+3))) ?_ ?_ ?_ ?_ ?_))
  ·exact (esC rfl (by first|rfl|exact evi (by omega)) (esD rfl (esD rfl (esD rfl eZ))))
  ·exact (mS .here (by rw [shaD0,shaD4 xs i 1 (by decide),shaD4 xs i 2 (by decide),shaD4 xs i 3 (by decide)]; rfl) (mS .here rfl (mS .here rfl mN)))
  ·first|omega|(dsimp only; omega)
  ·exact hGl1
  refine ⟨?_,?_⟩
  ·(try dsimp only)<;>(first|omega|rfl|assumption|(simp; done))
  (try dsimp only)<;>(rw [ef]; rfl)
 have c2k:=c2
 try simp only [qcA,qcB] at c2
 refine .exit (.xcode (.xlp (.xblk (.code (.seq (rq2 rfl rfl (lA rfl .no Fx.ag23 (.u rfl) (fun _=>RdN.own .here) (fun _=>(by first|exact qE|exact qL|rfl)) ?_)))))))
 refine sw rfl (.u rfl) (.u rfl) rfl Fx.sz23 tk2 (by first|exact qE|exact qL|rfl) (by first|exact ba_one _ _|exact wa_one _ _|exact one_V _|decide|exact one_app (wa_one _ _) (by simp [Value.oneCell'])) ?_
 refine .nil (.code (.ret (We.fin0 Tryz.results119 (.cell rfl (fun w hw=>run_loadVarN Fx.ag23 (RdN.own .here) ((by first|exact qE|exact qL|rfl)) hw) .nil) ?_)))
 obtain rfl:i=8:=by omega
 exact ⟨rfl,by rw [ef,ba_congr (fun i hi=>(outs_eq (shaD xs) hi).symm)]; rfl⟩
namespace Fx
theorem go119:goFn Tryz.prog 119=true:=by kernel_rfl
theorem go133:goFn Tryz.prog 133=true:=by kernel_rfl
theorem go51:goFn Tryz.prog 51=true:=by kernel_rfl
theorem go115:goFn Tryz.prog 115=true:=by kernel_rfl
theorem bs24_9:bsT Tryz.prog 24 9=true:=by kernel_rfl
theorem go85:goFn Tryz.prog 85=true:=by kernel_rfl
theorem go86:goFn Tryz.prog 86=true:=by kernel_rfl
end Fx
theorem fFix_ok (n:BitVec 64) (many:Nat) (G:PM) (hm:many≤8):Ct Tryz.prog 51 ([uv .u64 n,.int .i64 (many:Int)]:List Value).toArray G [] (PR 5 (fun L=>L=fixL n many)):=by
 refine Ct.of Tryz.func51 rfl Tryz.ntmps51 rfl fun w0 hs0=>?_
 refine .seq (rq1 rfl rfl (aS rfl rfl (.nil (.code (.seq (rq1 rfl rfl (aS rfl rfl (.nil (.code (.seq (.seq (wk_nilB 5 ?_))))))))))))
 refine rq1 rfl rfl (aS rfl rfl (.nil (.code (.block ?_))))
 refine Wk.lop (α:=Nat×Value×List Y×BitVec 64) (fun gh=>[(0,true,uv .u64 gh.2.2.2),(5,true,gh.2.1),(6,true,.int .i64 (gh.1:Int))]) (fun gh=>[rB gh.2.1 5 gh.2.2.1])
  (fun gh Gl=>(gh.1≤many)∧(gh.2.2.1=fixL n gh.1)∧(gh.2.2.2=n >>> (8*gh.1))) (fun gh=>many-gh.1) (0,.slice none 0 0,[],n) [(1,true,_)] []
  (esD rfl (esD rfl (esC rfl (by first|rfl|exact evi (by omega)) (esD rfl eZ))))
  (mS .here rfl mN) ?_ ?_
 ·refine ⟨?_,?_,?_⟩
  ·(try dsimp only)<;>(first|omega|rfl|assumption|(simp; done))
  ·(try dsimp only)<;>(rfl)
  (try dsimp only)<;>(simp)
 intro gh N0 Gl0 hN0 hGl0 hF0
 obtain ⟨k,v,L,m⟩:=gh; dsimp only at hF0 hN0 ⊢
 obtain ⟨hk,eL,em⟩:=hF0
 have lL:L.length=k:=by rw [eL,fix_len]
 refine .seq (.seq (rq7 rfl rfl (mV rfl rfl (mV rfl rfl (cp rfl .no (.u rfl) (.u rfl) rfl (mV rfl rfl (mv rfl (.t rfl rfl) (.u rfl) (cp rfl (.t rfl rfl) (.s rfl) (.u rfl) rfl (pkA rfl .no (.u rfl) (.s rfl) (.nil (.code (.cond rfl (fun c1=>?_) (fun c1=>?_)))))))))))))
 ·have c1k:=c1
  try simp only [qcA,qcC,qcB] at c1
  refine .skip (.code (.seq (.block (.seq (rq7 rfl rfl (mV rfl rfl (mV rfl rfl (mw (k:=.u64) (b:=256#64) rfl .no (.u rfl) (.u rfl) (fun _=>show (256#64:BitVec 64)≠0#64 by decide) ?_))))))))
  refine cu (k:=.u64) rfl .no rfl Fx.cv26_5 (.u rfl) ?_
  refine Go.Tan.b1 rfl Fx.se24 Fx.zv5 (.u rfl) rfl rfl (by decide) ?_; intro b20
  refine apY rfl Fx.se24 Fx.zv5 (.u rfl) (.u rfl) tk1 (Sc.one .here) (by show _+1≤_; omega) ?_
  intro v21 L21 ov21 eL21
  have lL21:L21.length=L.length+1:=by rw [eL21,List.length_append]; first|rfl | simp [yl_len]
  refine aS rfl rfl (.nil (.code (rq3 rfl rfl (mV rfl rfl (dw (k:=.u64) (b:=256#64) rfl .no rfl (.u rfl) (.u rfl) (fun _=>show (256#64:BitVec 64)≠0#64 by decide) ?_)))))
  refine aS rfl rfl (.nil (.blk (.code (rq3 rfl rfl (mV rfl rfl (arn (((k+1):Nat):Int) rfl .no (.u rfl) (.u rfl) rfl (fun _=>by omega) (fun _=>wrap_i64 (by omega) (by omega)) ?_))))))
  refine aS rfl rfl (.nil (We.lpo (k+1,v21,L21,m / 256#64) ?_ ?_ ?_ ?_ ?_))
  ·exact (esD rfl (esD rfl (esC rfl (by first|rfl|exact evi (by omega)) (esD rfl eZ))))
  ·exact (mS .here rfl mN)
  ·first|omega|(dsimp only; omega)
  ·exact hGl0
  refine ⟨?_,?_,?_⟩
  ·(try dsimp only)<;>(first|omega|rfl|assumption|(simp; done))
  ·(try dsimp only)<;>(rw [eL21,eL,em,fix_snoc,←byte_mod]; rfl)
  (try dsimp only)<;>(rw [em,div256,←BitVec.shiftRight_add]; rfl)
 have c1k:=c1
 try simp only [qcA,qcC,qcB] at c1
 refine .exit (.xcode (.xlp (.xblk (.code (.seq (rq2 rfl rfl (mV rfl rfl (aS rfl rfl (.nil (.code (.ret (We.fin Tryz.results51 (.tmp rfl .nil) (mS .here rfl mN) ?_))))))))))))
 obtain rfl:k=many:=by omega
 exact ⟨L,eL,rfl⟩
theorem crossed_ok (key:List Y) (h:Sh) (b:Y) (G:PM) (hs:SlR G 1 encY h key) (hR:RdNP G 0 0 (wa 64 kW)) (hl:key.length≤1000000000000):Ct Tryz.prog 133 ([h.val key.length,V b]:List Value).toArray G [] (PR 5 (fun L=>L=yl 64 (padF key b))):=by
 refine Ct.of Tryz.func133 rfl Tryz.ntmps133 rfl fun w0 hs0=>?_
 refine .seq (rq1 rfl rfl (aS rfl rfl (.nil (.code (.seq (rq2 rfl rfl (mV rfl rfl (aS rfl rfl (.nil (.code (.seq (.seq (rq3 rfl rfl (mV rfl rfl (ln rfl .no Fx.sn24 (.u rfl) (cp rfl .no (.u rfl) (.u rfl) rfl (.nil (.code (.cond rfl (fun c1=>?_) (fun c1=>?_))))))))))))))))))))
 ·have c1k:=c1
  try simp only [qcA,qcB] at c1
  have ek1:keyL key=shaL key:=by unfold keyL; rw [if_pos (by omega)]
  refine .seq (rq4 rfl rfl (mV rfl rfl (kv rfl .no Fx.go119 (Evc rfl Evn) (fun _=>rSum_ok key h _ hs hR hl) ?_)))
  refine al rfl Fx.zq23 ?_; intro b6
  refine sw rfl (.u rfl) (.u rfl) rfl Fx.sz23 .here (by first|exact qE|exact qL|rfl) (by first|exact ba_one _ _|exact wa_one _ _|exact one_V _|decide|exact one_app (wa_one _ _) (by simp [Value.oneCell'])) ?_
  refine .nil (.code ?_)
  refine wk_fz .here (by intro b hb; cases hb) ?_; intro Gfb6 hleb6 hbb6
  have hs:=hs.mono hleb6
  refine rq2 rfl rfl ?_
  refine kA rfl .no Fx.ar23 (.u rfl) hbb6 (by first|exact ba_all|exact app_l|exact app_r) ?_; intro h16 L16 eL16 lL16 hs16
  refine aS rfl rfl (.nil ?_)
  have ek1:keyL key=L16:=by rw [ek1,eL16]; rfl
  refine .code (.seq (rq1 rfl rfl (aS rfl rfl (.nil (.code (.seq (.seq (wk_nilB 5 ?_))))))))
  refine rq1 rfl rfl (aS rfl rfl (.nil (.code (.block ?_))))
  refine Wk.lop (α:=Nat×Value×List Y) (fun gh=>[(7,true,gh.2.1),(8,true,.int .i64 (gh.1:Int))]) (fun gh=>[rB gh.2.1 5 gh.2.2])
   (fun gh Gl=>(gh.1≤64)∧(gh.2.2=yl gh.1 (padF key b))) (fun gh=>64-gh.1) (0,.slice none 0 0,[]) [(1,true,_),(5,true,_)] []
   (esD rfl (esC rfl (by first|rfl|exact evi (by omega)) (esD rfl (esD rfl eZ))))
   (mS .here rfl mN) ?_ ?_
  ·refine ⟨?_,?_⟩
   ·(try dsimp only)<;>(first|omega|rfl|assumption|(simp; done))
   (try dsimp only)<;>(rfl)
  intro gh N0 Gl0 hN0 hGl0 hF0
  obtain ⟨k,v,M⟩:=gh; dsimp only at hF0 hN0 ⊢
  obtain ⟨hk,eM⟩:=hF0
  have hs:=hs.mono hGl0
  have hs16:=hs16.mono hGl0
  have lM:M.length=k:=by rw [eM,yl_len]
  refine .seq (.seq (rq2 rfl rfl (mV rfl rfl (cp rfl .no (.u rfl) (.u rfl) rfl (.nil (.code (.cond rfl (fun c2=>?_) (fun c2=>?_))))))))
  ·have c2k:=c2
   try simp only [qcA,qcB] at c2
   refine .skip (.code (.seq (.block (.seq (rq1 rfl rfl (aS rfl rfl (.nil (.code (.seq (.seq (rq4 rfl rfl (mV rfl rfl (mV rfl rfl (ln rfl .no Fx.sn24 (.u rfl) (cp rfl .no (.u rfl) (.u rfl) rfl (.nil (.code (.cond rfl (fun c3=>?_) (fun c3=>?_)))))))))))))))))))
   ·have c3k:=c3
    try simp only [qcA,qcB] at c3
    refine rq5 rfl rfl (mV rfl rfl (mV rfl rfl (ih rfl .no Fx.se24 (.u rfl) (.u rfl) (fun _=>by omega) (fun _=>by omega) (fun _=>hs16.nn (k:=k) (by omega)) ?_)))
    refine ld rfl .no Fx.ag5 (.u rfl) (fun _=>(hs16.yat (k) (by omega) (by omega)).rd) ?_
    refine aS rfl rfl (.nil (.code (rq7 rfl rfl (mV rfl rfl (mV rfl rfl (mV rfl rfl (bw (k:=.u8) rfl .no rfl (.u rfl) (.u rfl) rfl ?_)))))))
    refine Go.Tan.b1 rfl Fx.se24 Fx.zv5 (.u rfl) rfl rfl (by decide) ?_; intro b33
    refine apY rfl Fx.se24 Fx.zv5 (.u rfl) (.u rfl) tk1 (Sc.one .here) (by show _+1≤_; omega) ?_
    intro v34 L34 ov34 eL34
    have lL34:L34.length=M.length+1:=by rw [eL34,List.length_append]; first|rfl | simp [yl_len]
    refine aS rfl rfl (.nil (.blk (.code (rq3 rfl rfl (mV rfl rfl (arn (((k+1):Nat):Int) rfl .no (.u rfl) (.u rfl) rfl (fun _=>by omega) (fun _=>wrap_i64 (by omega) (by omega)) ?_))))))
    refine aS rfl rfl (.nil (We.lpo (k+1,v34,L34) ?_ ?_ ?_ ?_ ?_))
    ·exact (esD rfl (esC rfl (by first|rfl|exact evi (by omega)) (esD rfl (esD rfl eZ))))
    ·exact (mS .here rfl mN)
    ·first|omega|(dsimp only; omega)
    ·exact hGl0
    refine ⟨?_,?_⟩
    ·(try dsimp only)<;>(first|omega|rfl|assumption|(simp; done))
    (try dsimp only)<;>(rw [eL34,eM,yl_snoc,padF,ek1,if_pos (by omega),BitVec.xor_comm b]; rfl)
   have c3k:=c3
   try simp only [qcA,qcB] at c3
   refine .skip (.code (rq7 rfl rfl (mV rfl rfl (mV rfl rfl (mV rfl rfl (bw (k:=.u8) (a:=0#8) rfl .no rfl (.u rfl) (.u rfl) rfl ?_))))))
   refine Go.Tan.b1 rfl Fx.se24 Fx.zv5 (.u rfl) rfl rfl (by decide) ?_; intro b33
   refine apY rfl Fx.se24 Fx.zv5 (.u rfl) (.u rfl) tk1 (Sc.one .here) (by show _+1≤_; omega) ?_
   intro v34 L34 ov34 eL34
   have lL34:L34.length=M.length+1:=by rw [eL34,List.length_append]; first|rfl | simp [yl_len]
   refine aS rfl rfl (.nil (.blk (.code (rq3 rfl rfl (mV rfl rfl (arn (((k+1):Nat):Int) rfl .no (.u rfl) (.u rfl) rfl (fun _=>by omega) (fun _=>wrap_i64 (by omega) (by omega)) ?_))))))
   refine aS rfl rfl (.nil (We.lpo (k+1,v34,L34) ?_ ?_ ?_ ?_ ?_))
   ·exact (esD rfl (esC rfl (by first|rfl|exact evi (by omega)) (esD rfl (esD rfl eZ))))
   ·exact (mS .here rfl mN)
   ·first|omega|(dsimp only; omega)
   ·exact hGl0
   refine ⟨?_,?_⟩
   ·(try dsimp only)<;>(first|omega|rfl|assumption|(simp; done))
   (try dsimp only)<;>(rw [eL34,eM,yl_snoc,padF,ek1,if_neg (by omega)]; exact congrArg (fun z=>yl k (padF key b)++[z]) BitVec.zero_xor)
  have c2k:=c2
  try simp only [qcA,qcB] at c2
  refine .exit (.xcode (.xlp (.xblk (.code (.seq (rq2 rfl rfl (mV rfl rfl (aS rfl rfl (.nil (.code (.ret (We.fin Tryz.results133 (.tmp rfl .nil) (mS .here rfl mN) ?_))))))))))))
  obtain rfl:k=64:=by omega
  exact ⟨M,eM,rfl⟩
 have c1k:=c1
 try simp only [qcA,qcB] at c1
 have ek2:keyL key=key:=by unfold keyL; rw [if_neg (by omega)]
 refine .skip (.code (.seq (rq1 rfl rfl (aS rfl rfl (.nil (.code (.seq (.seq (wk_nilB 5 ?_)))))))))
 refine rq1 rfl rfl (aS rfl rfl (.nil (.code (.block ?_))))
 refine Wk.lop (α:=Nat×Value×List Y) (fun gh=>[(7,true,gh.2.1),(8,true,.int .i64 (gh.1:Int))]) (fun gh=>[rB gh.2.1 5 gh.2.2])
  (fun gh Gl=>(gh.1≤64)∧(gh.2.2=yl gh.1 (padF key b))) (fun gh=>64-gh.1) (0,.slice none 0 0,[]) [(1,true,_),(5,true,_)] []
  (esD rfl (esC rfl (by first|rfl|exact evi (by omega)) (esD rfl (esD rfl eZ))))
  (mS .here rfl mN) ?_ ?_
 ·refine ⟨?_,?_⟩
  ·(try dsimp only)<;>(first|omega|rfl|assumption|(simp; done))
  (try dsimp only)<;>(rfl)
 intro gh N1 Gl1 hN1 hGl1 hF1
 obtain ⟨k,v,M⟩:=gh; dsimp only at hF1 hN1 ⊢
 obtain ⟨hk,eM⟩:=hF1
 have hs:=hs.mono hGl1
 have lM:M.length=k:=by rw [eM,yl_len]
 refine .seq (.seq (rq2 rfl rfl (mV rfl rfl (cp rfl .no (.u rfl) (.u rfl) rfl (.nil (.code (.cond rfl (fun c4=>?_) (fun c4=>?_))))))))
 ·have c4k:=c4
  try simp only [qcA,qcB] at c4
  refine .skip (.code (.seq (.block (.seq (rq1 rfl rfl (aS rfl rfl (.nil (.code (.seq (.seq (rq4 rfl rfl (mV rfl rfl (mV rfl rfl (ln rfl .no Fx.sn24 (.u rfl) (cp rfl .no (.u rfl) (.u rfl) rfl (.nil (.code (.cond rfl (fun c5=>?_) (fun c5=>?_)))))))))))))))))))
  ·have c5k:=c5
   try simp only [qcA,qcB] at c5
   refine rq5 rfl rfl (mV rfl rfl (mV rfl rfl (ih rfl .no Fx.se24 (.u rfl) (.u rfl) (fun _=>by omega) (fun _=>by omega) (fun _=>hs.nn (k:=k) (by omega)) ?_)))
   refine ld rfl .no Fx.ag5 (.u rfl) (fun _=>(hs.yat (k) (by omega) (by omega)).rd) ?_
   refine aS rfl rfl (.nil (.code (rq7 rfl rfl (mV rfl rfl (mV rfl rfl (mV rfl rfl (bw (k:=.u8) rfl .no rfl (.u rfl) (.u rfl) rfl ?_)))))))
   refine Go.Tan.b1 rfl Fx.se24 Fx.zv5 (.u rfl) rfl rfl (by decide) ?_; intro b33
   refine apY rfl Fx.se24 Fx.zv5 (.u rfl) (.u rfl) tk1 (Sc.one .here) (by show _+1≤_; omega) ?_
   intro v34 L34 ov34 eL34
   have lL34:L34.length=M.length+1:=by rw [eL34,List.length_append]; first|rfl | simp [yl_len]
   refine aS rfl rfl (.nil (.blk (.code (rq3 rfl rfl (mV rfl rfl (arn (((k+1):Nat):Int) rfl .no (.u rfl) (.u rfl) rfl (fun _=>by omega) (fun _=>wrap_i64 (by omega) (by omega)) ?_))))))
   refine aS rfl rfl (.nil (We.lpo (k+1,v34,L34) ?_ ?_ ?_ ?_ ?_))
   ·exact (esD rfl (esC rfl (by first|rfl|exact evi (by omega)) (esD rfl (esD rfl eZ))))
   ·exact (mS .here rfl mN)
   ·first|omega|(dsimp only; omega)
   ·exact hGl1
   refine ⟨?_,?_⟩
   ·(try dsimp only)<;>(first|omega|rfl|assumption|(simp; done))
   (try dsimp only)<;>(rw [eL34,eM,yl_snoc,padF,ek2,if_pos (by omega),BitVec.xor_comm b]; rfl)
  have c5k:=c5
  try simp only [qcA,qcB] at c5
  refine .skip (.code (rq7 rfl rfl (mV rfl rfl (mV rfl rfl (mV rfl rfl (bw (k:=.u8) (a:=0#8) rfl .no rfl (.u rfl) (.u rfl) rfl ?_))))))
  refine Go.Tan.b1 rfl Fx.se24 Fx.zv5 (.u rfl) rfl rfl (by decide) ?_; intro b33
  refine apY rfl Fx.se24 Fx.zv5 (.u rfl) (.u rfl) tk1 (Sc.one .here) (by show _+1≤_; omega) ?_
  intro v34 L34 ov34 eL34
  have lL34:L34.length=M.length+1:=by rw [eL34,List.length_append]; first|rfl | simp [yl_len]
  refine aS rfl rfl (.nil (.blk (.code (rq3 rfl rfl (mV rfl rfl (arn (((k+1):Nat):Int) rfl .no (.u rfl) (.u rfl) rfl (fun _=>by omega) (fun _=>wrap_i64 (by omega) (by omega)) ?_))))))
  refine aS rfl rfl (.nil (We.lpo (k+1,v34,L34) ?_ ?_ ?_ ?_ ?_))
  ·exact (esD rfl (esC rfl (by first|rfl|exact evi (by omega)) (esD rfl (esD rfl eZ))))
  ·exact (mS .here rfl mN)
  ·first|omega|(dsimp only; omega)
  ·exact hGl1
  refine ⟨?_,?_⟩
  ·(try dsimp only)<;>(first|omega|rfl|assumption|(simp; done))
  (try dsimp only)<;>(rw [eL34,eM,yl_snoc,padF,ek2,if_neg (by omega)]; exact congrArg (fun z=>yl k (padF key b)++[z]) BitVec.zero_xor)
 have c4k:=c4
 try simp only [qcA,qcB] at c4
 refine .exit (.xcode (.xlp (.xblk (.code (.seq (rq2 rfl rfl (mV rfl rfl (aS rfl rfl (.nil (.code (.ret (We.fin Tryz.results133 (.tmp rfl .nil) (mS .here rfl mN) ?_))))))))))))
 obtain rfl:k=64:=by omega
 exact ⟨M,eM,rfl⟩
theorem rmacSum_ok (key:List Y) (hk:Sh) (xs:List Y) (hx:Sh) (G:PM) (hsk:SlR G 1 encY hk key) (hs:SlR G 1 encY hx xs) (hR:RdNP G 0 0 (wa 64 kW)) (hlk:key.length≤1000) (hl:xs.length≤900000000000):Ct Tryz.prog 115 ([hk.val key.length,hx.val xs.length]:List Value).toArray G [] (fun _ μ' u=>μ'=[]∧u=.agg (ba 32 (macL key xs)).toArray):=by
 refine Ct.of Tryz.func115 rfl Tryz.ntmps115 rfl fun w0 hs0=>?_
 refine .seq (rq1 rfl rfl ?_)
 refine al rfl Fx.zq23 ?_; intro b4
 refine .nil (.code (.seq (rq3 rfl rfl (mV rfl rfl (kc rfl Fx.go133 (Evc rfl (Evc rfl Evn)) (Ct.rowc (crossed_ok key hk 54#8 _ hsk hR (by omega))) ?_)))))
 rintro v9 G9 μ9 hG9 ⟨L9,ov9,eL9,rfl⟩
 have hsk:=hsk.mono hG9
 have hs:=hs.mono hG9
 have hR:=hR.mono hG9
 refine aS rfl rfl (.nil ?_)
 have lL9:L9.length=64:=by rw [eL9,yl_len]
 refine .code (.seq (rq4 rfl rfl (mV rfl rfl (mV rfl rfl (apY rfl Fx.se24 Fx.zv5 (.u rfl) (.u rfl) .here hs.sc (by (try simp only [qlA,yl_len]); omega) ?_)))))
 intro v12 L12 ov12 eL12
 have lL12:L12.length=L9.length+xs.length:=by rw [eL12,List.length_append]
 refine aS rfl rfl (.nil (.code (.seq ?_)))
 refine wk_fb .here (by first|(intro b hb; cases hb; done) | simp [keys,Res.keys]) ?_; intro GfR9 hR9 hleR9 evR9 hsR9; subst evR9
 have hsk:=hsk.mono hleR9
 have hR:=hR.mono hleR9
 refine rq4 rfl rfl (mV rfl rfl (kv rfl .no Fx.go119 (Evc rfl Evn) (fun _=>rSum_ok L12 _ _ hsR9 hR (by omega)) ?_))
 refine al rfl Fx.zq23 ?_; intro b6
 refine sw rfl (.u rfl) (.u rfl) rfl Fx.sz23 .here (by first|exact qE|exact qL|rfl) (by first|exact ba_one _ _|exact wa_one _ _|exact one_V _|decide|exact one_app (wa_one _ _) (by simp [Value.oneCell'])) ?_
 refine .nil (.code (.seq (rq3 rfl rfl (mV rfl rfl (kc rfl Fx.go133 (Evc rfl (Evc rfl Evn)) (Ct.rowc (crossed_ok key hk 92#8 _ hsk hR (by omega))) ?_)))))
 rintro v16 G16 μ16 hG16 ⟨L16,ov16,eL16,rfl⟩
 have hR:=hR.mono hG16
 refine aS rfl rfl (.nil ?_)
 have lL16:L16.length=64:=by rw [eL16,yl_len]
 refine .code (.seq (rq4 rfl rfl (mV rfl rfl (sa0 rfl .no Fx.ar23 (.u rfl) (apY rfl Fx.se24 Fx.zv5 (.u rfl) (.u rfl) .here (Sc.arr tk1) (by (try simp only [qlA,yl_len]); omega) ?_)))))
 intro v19 L19 ov19 eL19
 have lL19:L19.length=L16.length+32:=by rw [eL19,List.length_append]; first|rfl | simp [yl_len]
 refine aS rfl rfl (.nil (.code (.seq ?_)))
 refine wk_fb .here (by first|(intro b hb; cases hb; done) | simp [keys,Res.keys]) ?_; intro GfR16 hR16 hleR16 evR16 hsR16; subst evR16
 have hR:=hR.mono hleR16
 refine rq3 rfl rfl (mV rfl rfl (kv rfl .no Fx.go119 (Evc rfl Evn) (fun _=>rSum_ok L19 _ _ hsR16 hR (by omega)) ?_))
 refine sw rfl (.u rfl) (.u rfl) rfl Fx.sz23 tk1 (by first|exact qE|exact qL|rfl) (by first|exact ba_one _ _|exact wa_one _ _|exact one_V _|decide|exact one_app (wa_one _ _) (by simp [Value.oneCell'])) ?_
 refine .nil (.code (.ret (We.fin0 Tryz.results115 (.cell rfl (fun w hw=>run_loadVarN Fx.ag23 (RdN.own .here) ((by first|exact qE|exact qL|rfl)) hw) .nil) ?_)))
 exact ⟨rfl,by rw [eL19,eL16,eL12,eL9]; rfl⟩
theorem rTag_ok (enc mac nonce:Nat→Y) (ad:List Y) (ha:Sh) (xs:List Y) (hx:Sh) (G:PM) (hsa:SlR G 1 encY ha ad) (hsx:SlR G 1 encY hx xs) (hR:RdNP G 0 0 (wa 64 kW)) (hla:ad.length≤209715200000) (hl:xs.length≤209715200000):Ct Tryz.prog 85 ([.agg (ba 32 enc++ba 32 mac).toArray,.agg (ba 12 nonce).toArray,ha.val ad.length,hx.val xs.length]:List Value).toArray G [] (PR 5 (fun L=>L=yl 16 (tagF mac nonce ad xs))):=by
 refine Ct.of Tryz.func85 rfl Tryz.ntmps85 rfl fun w0 hs0=>?_
 refine .seq (rq3 rfl rfl ?_)
 refine bx rfl (.u rfl) rfl ?_; intro b4
 refine bx rfl (.u rfl) rfl ?_; intro b5
 refine aS rfl rfl (.nil (.code (.seq (rq5 rfl rfl (mV rfl rfl (ln rfl .no Fx.sn24 (.u rfl) (ci rfl .no rfl Fx.cv3_26 (.u rfl) ?_)))))))
 refine kc rfl Fx.go51 (Evc rfl (Evc rfl Evn)) (Ct.rowc (fFix_ok _ 8 _ (by decide))) ?_
 rintro v14 G14 μ14 hG14 ⟨L14,ov14,eL14,rfl⟩
 have hsa:=hsa.mono hG14
 have hsx:=hsx.mono hG14
 have hR:=hR.mono hG14
 refine aS rfl rfl (.nil ?_)
 have lL14:L14.length=8:=by rw [eL14]; exact fix_len _ 8
 refine .code (.seq (rq4 rfl rfl (mV rfl rfl (mV rfl rfl (apY rfl Fx.se24 Fx.zv5 (.u rfl) (.u rfl) .here hsa.sc (by (try simp only [qlA,yl_len]); omega) ?_)))))
 intro v17 L17 ov17 eL17
 have lL17:L17.length=L14.length+ad.length:=by rw [eL17,List.length_append]
 refine aS rfl rfl (.nil (.code (.seq (rq4 rfl rfl (mV rfl rfl (sa0 rfl .no Fx.ar93 (.u rfl) (apY rfl Fx.se24 Fx.zv5 (.u rfl) (.u rfl) .here (Sc.arr tk1) (by (try simp only [qlA,yl_len]); omega) ?_)))))))
 intro v20 L20 ov20 eL20
 have lL20:L20.length=L17.length+12:=by rw [eL20,List.length_append]; first|rfl | simp [yl_len]
 refine aS rfl rfl (.nil (.code (.seq (rq4 rfl rfl (mV rfl rfl (mV rfl rfl (apY rfl Fx.se24 Fx.zv5 (.u rfl) (.u rfl) .here hsx.sc (by (try simp only [qlA,yl_len]); omega) ?_)))))))
 intro v23 L23 ov23 eL23
 have lL23:L23.length=L20.length+xs.length:=by rw [eL23,List.length_append]
 refine aS rfl rfl (.nil (.code (.seq ?_)))
 refine wk_fz tk2 (by intro b hb; cases hb) ?_; intro Gfb4 hleb4 hbb4
 have hR:=hR.mono hleb4
 refine wk_fb .here (by first|(intro b hb; cases hb; done) | simp [keys,Res.keys]) ?_; intro GfR14 hR14 hleR14 evR14 hsR14; subst evR14
 have hR:=hR.mono hleR14
 have hbb4:=hbb4.mono hleR14
 refine rq6 rfl rfl (fa rfl .no Fx.fo80_1 (.u rfl) ?_)
 refine kA rfl .no Fx.ar22 (.u rfl) hbb4 (by first|exact ba_all|exact app_l|exact app_r) ?_; intro h25 L25 eL25 lL25 hs25
 refine mV rfl rfl (kv rfl .no Fx.go115 (Evc rfl (Evc rfl Evn)) (fun _=>rmacSum_ok L25 h25 L23 _ _ hs25 hsR14 hR (by omega) (by omega)) ?_)
 refine al rfl Fx.zq23 ?_; intro b10
 refine sw rfl (.u rfl) (.u rfl) rfl Fx.sz23 .here (by first|exact qE|exact qL|rfl) (by first|exact ba_one _ _|exact wa_one _ _|exact one_V _|decide|exact one_app (wa_one _ _) (by simp [Value.oneCell'])) ?_
 refine .nil (.code (.seq (rq4 rfl rfl ?_)))
 refine b0B rfl Fx.se24 ?_; intro b28
 refine sah rfl .no Fx.ar23 (.u rfl) (.u rfl) (fun _=>by first|decide|omega) (fun _=>by first|decide|omega) ?_
 skip
 refine apY0 rfl Fx.se24 Fx.zv5 (.u rfl) (.u rfl) .here (Sc.arrh tk1 (by decide)) (by (try simp only [qlA,yl_len]); omega) ?_
 intro v30 L30 _ ov30 eL30
 have lL30:L30.length=16:=by rw [eL30]; first|rfl | simp [yl_len]
 refine aS rfl rfl (.nil (.code (.ret (We.fin Tryz.results85 (.tmp rfl .nil) (mS .here rfl mN) ?_))))
 exact ⟨L30,by rw [eL30,eL23,eL20,eL17,eL14,eL25]; rfl,rfl⟩
theorem rtag_row (enc mac nonce:Nat→Y) (ad:List Y) (ha:Sh) (xs:List Y) (v:Value) (G:PM) (hsa:SlR G 1 encY ha ad) (hR:RdNP G 0 0 (wa 64 kW)) (hla:ad.length≤209715200000) (hl:xs.length≤209715200000):Ct Tryz.prog 85 ([.agg (ba 32 enc++ba 32 mac).toArray,.agg (ba 12 nonce).toArray,ha.val ad.length,v]:List Value).toArray G [rB v 5 xs] (fun _ μ' u=>∃ ν,μ'=rB v 5 xs :: ν∧∃ L,L=yl 16 (tagF mac nonce ad xs)∧ν=[rB u 5 L]) :=
 Ct.lendB (fun hx G2 hle hv hs=>by subst hv; exact rTag_ok enc mac nonce ad ha xs hx G2 (hsa.mono hle) hs (hR.mono hle) hla hl)
theorem rCross_row (key nonce:Nat→Y) (count:W) (h:Sh) (xs:List Y) (G:PM) (hs:SlR G 1 encY h xs) (hl:xs.length≤140737488351232):Ct Tryz.prog 86 ([.agg (ba 32 key).toArray,.agg (ba 12 nonce).toArray,U count,h.val xs.length]:List Value).toArray G [] (PR 5 (fun L=>L=crossL key nonce count xs)):=by
 refine Ct.of Tryz.func86 rfl Tryz.ntmps86 rfl fun w0 hs0=>?_
 refine .seq (rq3 rfl rfl ?_)
 refine bx rfl (.u rfl) rfl ?_; intro b4
 refine bx rfl (.u rfl) rfl ?_; intro b5
 refine aS rfl rfl (.nil (.code (.seq (rq1 rfl rfl (aS rfl rfl (.nil (.code (.seq (rq1 rfl rfl ?_)))))))))
 refine al rfl Fx.zq172 ?_; intro b10
 refine .nil (.code (.seq (.seq (rq1 rfl rfl (aS rfl rfl (.nil (.code (.block (wk_nilRow 5 1 ?_)))))))))
 refine Wk.lop (α:=Nat×Value) (fun gh=>[(9,true,gh.2),(11,true,.int .i64 (gh.1:Int))]) (fun gh=>[.row gh.2 5 1 gh.1 (ba gh.1 (crF key nonce count xs)),.blk b10 (cl (ba 64 (nowF key nonce count gh.1)) 172)])
  (fun gh Gl=>gh.1≤xs.length) (fun gh=>xs.length-gh.1) (0,.slice none 0 0) [(2,true,_),(3,true,_),(4,true,_),(5,true,_),(10,true,_)] [.blk b5 _,.blk b4 _]
  (esD rfl (esD rfl (esD rfl (esD rfl (esD rfl (esD rfl (esD rfl eZ)))))))
  (mS .here rfl (mS .here rfl (mS .here rfl (mS .here rfl mN)))) ?_ ?_
 ·show 0≤xs.length; omega
 intro gh N0 Gl0 hN0 hGl0 hF0
 obtain ⟨k,v⟩:=gh; dsimp only at hF0 hN0 ⊢
 have hk:k≤xs.length:=hF0
 refine .seq (.seq (rq4 rfl rfl (mV rfl rfl (mV rfl rfl (ln rfl .no Fx.sn24 (.u rfl) (cp rfl .no (.u rfl) (.u rfl) rfl (.nil (.code (.cond rfl (fun c1=>?_) (fun c1=>?_))))))))))
 ·have c1k:=c1
  try simp only [qcA] at c1
  refine .skip (.code (.seq (.block (.seq (.seq (rq3 rfl rfl (mV rfl rfl (rm rfl .no (.u rfl) (.u rfl) (fun _=>by decide) ?_))))))))
  refine cp rfl .no (.u rfl) (.u rfl) rfl (.nil (.code (.cond rfl (fun c2=>?_) (fun c2=>?_))))
  ·have c2k:=c2
   try simp only [qcA] at c2
   refine rq9 rfl rfl (lA rfl .no Fx.ag22 (.u rfl) (fun _=>RdN.own tk3) (fun _=>rfl) ?_)
   refine lA rfl .no Fx.ag92 (.u rfl) (fun _=>RdN.own tk2) (fun _=>rfl) ?_
   refine mV rfl rfl (mV rfl rfl (qu rfl .no (.u rfl) (.u rfl) (fun _=>by decide) ?_))
   refine ci rfl .no rfl Fx.cv3_130 (.u rfl) ?_
   refine bw (k:=.u32) rfl .no rfl (.u rfl) (.u rfl) rfl (kv rfl .no Fx.go118 (Evc rfl (Evc rfl (Evc rfl Evn))) (fun _=>rBlock_ok _ _ _ _) ?_)
   refine sw rfl (.u rfl) (.u rfl) rfl Fx.sz172 tk1 ((ba_len _ _).trans (ba_len _ _).symm) (ba_one _ _) ?_
   refine .nil ?_
   simp only [qd64 (x:=(k:Int)) k rfl (by omega),BitVec.ofInt_natCast]
   refine .code (Wk.draw (mc:=⟨false,false⟩) [0,1,2,3,4,5,6,7,8,9,10,11,12] Fx.mix (by kernel_rfl) ?_)
   refine mV rfl rfl (mV rfl rfl (mV rfl rfl (ih rfl .no Fx.se24 (.u rfl) (.u rfl) (fun _=>by omega) (fun _=>by omega) (fun _=>hs.nn (k:=k) (by omega)) ?_)))
   refine ld rfl .no Fx.ag5 (.u rfl) (fun _=>((hs.mono hGl0).yat k (by omega) (by omega)).rd) ?_
   refine mV rfl rfl (rm rfl .no (.u rfl) (.u rfl) (fun _=>by decide) ?_)
   refine iA rfl .no Fx.ar172 (.u rfl) (.u rfl) (fun _=>by rw [tm64 k rfl]; omega) (fun _=>by rw [tm64 k rfl]; omega) ?_
   refine ld rfl .no Fx.ag5 (.u rfl) (fun _=>Rd.own .here (ba_at1 (k%64) (by rw [tm64 k rfl]; omega) (by omega))) ?_
   refine bw (k:=.u8) rfl .no rfl (.u rfl) (.u rfl) rfl ?_
   refine Go.Tan.b1 rfl Fx.se24 Fx.zv5 (.u rfl) rfl rfl (by decide) ?_; intro b39
   refine ap rfl Fx.se24 Fx.zv5 rfl (.u rfl) (.u rfl) tk2 (rfl) (fun _=>⟨_,_,rfl,RdN.own .here⟩) (fun u hu=>by rw [List.mem_singleton.1 hu]; rfl) (by omega) (by unfold maxLen; omega) ?_; intro v40
   refine aS rfl rfl (.nil (.blk (.code (rq3 rfl rfl (mV rfl rfl (ar rfl .no (.u rfl) (.u rfl) rfl (fun _=>wrap_i64 (by omega) (by omega)) ?_))))))
   refine aS rfl rfl (.nil (We.lpo (k+1,v40) ?_ ?_ ?_ ?_ ?_))
   ·exact (esD rfl (esD rfl (esD rfl (esD rfl (esD rfl (esD rfl (esD rfl eZ)))))))
   ·exact (mS .here (cr_row rfl) (mS tk1 rfl (mS tk1 rfl (mS tk1 rfl mN))))
   ·first|omega|(dsimp only; omega)
   ·exact hGl0
   show k+1≤xs.length; omega
  have c2k:=c2
  try simp only [qcA] at c2
  refine .skip (.code (Wk.draw (mc:=⟨false,false⟩) [0,1,2,3,4,5,6,7,8,9,10,11,12] Fx.mix (by kernel_rfl) ?_))
  refine mV rfl rfl (mV rfl rfl (mV rfl rfl (ih rfl .no Fx.se24 (.u rfl) (.u rfl) (fun _=>by omega) (fun _=>by omega) (fun _=>hs.nn (k:=k) (by omega)) ?_)))
  refine ld rfl .no Fx.ag5 (.u rfl) (fun _=>((hs.mono hGl0).yat k (by omega) (by omega)).rd) ?_
  refine mV rfl rfl (rm rfl .no (.u rfl) (.u rfl) (fun _=>by decide) ?_)
  refine iA rfl .no Fx.ar172 (.u rfl) (.u rfl) (fun _=>by rw [tm64 k rfl]; omega) (fun _=>by rw [tm64 k rfl]; omega) ?_
  refine ld rfl .no Fx.ag5 (.u rfl) (fun _=>Rd.own tk1 (ba_at1 (k%64) (by rw [tm64 k rfl]; omega) (by omega))) ?_
  refine bw (k:=.u8) rfl .no rfl (.u rfl) (.u rfl) rfl ?_
  refine Go.Tan.b1 rfl Fx.se24 Fx.zv5 (.u rfl) rfl rfl (by decide) ?_; intro b39
  refine ap rfl Fx.se24 Fx.zv5 rfl (.u rfl) (.u rfl) tk1 (rfl) (fun _=>⟨_,_,rfl,RdN.own .here⟩) (fun u hu=>by rw [List.mem_singleton.1 hu]; rfl) (by omega) (by unfold maxLen; omega) ?_; intro v40
  refine aS rfl rfl (.nil (.blk (.code (rq3 rfl rfl (mV rfl rfl (ar rfl .no (.u rfl) (.u rfl) rfl (fun _=>wrap_i64 (by omega) (by omega)) ?_))))))
  refine aS rfl rfl (.nil (We.lpo (k+1,v40) ?_ ?_ ?_ ?_ ?_))
  ·exact (esD rfl (esD rfl (esD rfl (esD rfl (esD rfl (esD rfl (esD rfl eZ)))))))
  ·exact (mS .here (cr_row (nowF_step c2k)) (mS tk1 (by rw [nowF_step c2k]; rfl) (mS tk1 rfl (mS tk1 rfl mN))))
  ·first|omega|(dsimp only; omega)
  ·exact hGl0
  show k+1≤xs.length; omega
 have c1k:=c1
 try simp only [qcA] at c1
 refine .exit (.xcode (.xlp (.xblk (.code (.seq (rq2 rfl rfl (mV rfl rfl (aS rfl rfl (.nil (.code (.ret ?_)))))))))))
 obtain rfl:k=xs.length:=by omega
 refine We.fin Tryz.results86 (.tmp rfl .nil) (mS .here rfl mN) ?_
 exact ⟨crossL key nonce count xs,rfl,by simp only [rB,crossL,yl_len,yl_V]; rfl⟩
theorem rSeal_ok (enc mac nonce:Nat→Y) (ad:List Y) (ha:Sh) (xs:List Y) (hx:Sh) (G:PM) (hsa:SlR G 1 encY ha ad) (hsx:SlR G 1 encY hx xs) (hR:RdNP G 0 0 (wa 64 kW)) (hla:ad.length≤209715200000) (hl:xs.length≤209715200000):Ct Tryz.prog 71 ([.agg (ba 32 enc++ba 32 mac).toArray,.agg (ba 12 nonce).toArray,ha.val ad.length,hx.val xs.length]:List Value).toArray G [] (PR 5 (fun L=>L=sealL enc mac nonce ad xs)):=by
 refine Ct.of Tryz.func71 rfl Tryz.ntmps71 rfl fun w0 hs0=>?_
 refine .seq (rq3 rfl rfl ?_)
 refine bx rfl (.u rfl) rfl ?_; intro b4
 refine bx rfl (.u rfl) rfl ?_; intro b5
 refine aS rfl rfl (.nil (.code (.seq (rq6 rfl rfl (fz rfl .no Fx.fo80_0 (.u rfl) (lA rfl .no Fx.ag22 (.u rfl) (fun _=>RdN.part (n:=32) (cs':=ba 32 enc) tk1 (app_l)) (fun _=>(by first|exact qE|exact qL|rfl)) ?_))))))
 refine lA rfl .no Fx.ag93 (.u rfl) (fun _=>RdN.own .here) (fun _=>(by first|exact qE|exact qL|rfl)) ?_
 refine mV rfl rfl (kc rfl Fx.go86 (Evc rfl (Evc rfl (Evc rfl (Evc rfl Evn)))) (Ct.rowc (rCross_row enc nonce 1#32 hx xs _ hsx (by omega))) ?_)
 rintro v15 G15 μ15 hG15 ⟨L15,ov15,eL15,rfl⟩
 have hsa:=hsa.mono hG15
 have hR:=hR.mono hG15
 refine aS rfl rfl (.nil (.code (.seq (rq6 rfl rfl ?_))))
 have lL15:L15.length=xs.length:=by rw [eL15,cross_len]
 refine lA rfl .no Fx.ag80 (.u rfl) (fun _=>RdN.own tk2) (fun _=>(by first|exact qE|exact qL|rfl)) ?_
 refine lA rfl .no Fx.ag93 (.u rfl) (fun _=>RdN.own tk1) (fun _=>(by first|exact qE|exact qL|rfl)) ?_
 refine mV rfl rfl (mV rfl rfl (ka rfl (.inr rfl) Fx.go85 (Evc rfl (Evc rfl (Evc rfl (Evc rfl Evn)))) (mtk1 .here) (rtag_row enc mac nonce ad ha L15 _ _ hsa hR hla (by omega)) ?_))
 rintro v20 G20 μ20 hG20 ⟨_,rfl,L20,eL20,rfl⟩
 refine aS rfl rfl (.nil ?_)
 have lL20:L20.length=16:=by rw [eL20,yl_len]
 refine .code (.seq ?_)
 refine wk_fb tk1 (by first|(intro b hb; cases hb; done) | simp [keys,Res.keys]) ?_; intro GfR20 hR20 hleR20 evR20 hsR20; subst evR20
 refine rq4 rfl rfl (mV rfl rfl (mV rfl rfl (apY rfl Fx.se24 Fx.zv5 (.u rfl) (.u rfl) .here hsR20.sc (by (try simp only [qlA,yl_len]); omega) ?_)))
 intro v23 L23 ov23 eL23
 have lL23:L23.length=L15.length+L20.length:=by rw [eL23,List.length_append]
 refine aS rfl rfl (.nil (.code (.seq (rq2 rfl rfl (mV rfl rfl (aS rfl rfl (.nil (.code (.ret (We.fin Tryz.results71 (.tmp rfl .nil) (mS .here rfl mN) ?_))))))))))
 exact ⟨L23,by rw [eL23,eL20,eL15]; rfl,rfl⟩
end Go.Proofs.YtdeobooblmjlfaaGreatDoor
namespace Go.Tan
open Go.RowKit Go.ChangeShapes
section
variable {H:Type} {R:Nat} {enc:TypeId×Value→H} {P:Program} {w:World} {base:Nat} {sp:Nat→Bool} {held:Bool} {fuel:Nat} {t:TypeId} {cs:List Value} {x:DataW H×List MemPlace}
theorem trod_array {n:Nat} {e:TypeId} (ht:P.underlying t=some (.array n e)) (h:DataW.trod enc P w base sp held fuel t cs=some x) :
  ∃ (xs:List (DataW H×List MemPlace)) (m:Nat),fuel=m+1∧x=(.agg (xs.map (·.1)),xs.flatMap (·.2))∧cs.length=P.cellsOf t∧xs.length=n ∧
   ∀ i,i<n→DataW.trod enc P w base sp held m e ((cs.drop (i*P.cellsOf e)).take (P.cellsOf e))=xs[i]?:=by
 cases fuel with
 | zero=>simp [DataW.trod] at h
 | succ m =>
  unfold DataW.trod at h
  rw [ht] at h
  split at h<;>simp_all
  obtain ⟨hl,xs,hp,hd⟩:=h
  exact ⟨xs,hd.symm,by simpa using mapM_some_length hp,fun i hi=>mapM_some_get hp i i (by simp [hi])⟩
theorem weightsEach_mem {ts:List TypeId} {ds:List (DataW H)} {i:Nat} {d:DataW H} {t:TypeId} (ht:ts[i]? = some t) (hd:ds[i]? = some d) {n:Nat} (hn:n∈d.weights P t):n∈DataW.weightsEach P ts ds:=by
 induction i generalizing ts ds with
 | zero =>
  cases ts with
  | nil=>simp at ht
  | cons a r =>
   cases ds with
   | nil=>simp at hd
   | cons b q =>
    simp only [List.getElem?_cons_zero,Option.some.injEq] at ht hd
    subst ht; subst hd
    simp only [DataW.weightsEach,List.mem_append]; exact .inl hn
 | succ i ih =>
  cases ts with
  | nil=>simp at ht
  | cons a r =>
   cases ds with
   | nil=>simp at hd
   | cons b q =>
    simp only [List.getElem?_cons_succ] at ht hd
    simp only [DataW.weightsEach,List.mem_append]; exact .inr (ih ht hd)
theorem weightsAll_mem {e:TypeId} {ds:List (DataW H)} {i:Nat} {d:DataW H} (hd:ds[i]? = some d) {n:Nat} (hn:n∈d.weights P e):n∈DataW.weightsAll P e ds:=by
 induction i generalizing ds with
 | zero =>
  cases ds with
  | nil=>simp at hd
  | cons b q =>
   simp only [List.getElem?_cons_zero,Option.some.injEq] at hd
   subst hd
   simp only [DataW.weightsAll,List.mem_append]; exact .inl hn
 | succ i ih =>
  cases ds with
  | nil=>simp at hd
  | cons b q =>
   simp only [List.getElem?_cons_succ] at hd
   simp only [DataW.weightsAll,List.mem_append]; exact .inr (ih hd)
def Rg (R:Nat) (enc:TypeId×Value→H) (P:Program) (w:World) (t:TypeId) (cs:List Value):Prop :=
 ∃ fuel x,DataW.trod enc P w 0 (fun _=>true) true fuel t cs=some x∧∀ n∈x.1.weights P t,n≤R
theorem Rg.len {fs:Array Field} (ht:P.underlying t=some (.struct fs)) (h:Rg R enc P w t cs):cs.length=P.cellsOf t:=by
 obtain ⟨fuel,x,h,_⟩:=h
 obtain ⟨xs,n,_,_,hl,_⟩:=DataW.trod_struct ht h
 exact hl
theorem Rg.fld {fs:Array Field} (ht:P.underlying t=some (.struct fs)) (h:Rg R enc P w t cs) (i T o:Nat) (hf0:(fs[i]?).map (fun f=>(f.type,f.offset))=some (T,o)) {sz:Nat} (hsz:P.cellsOf T=sz):Rg R enc P w T ((cs.drop o).take sz):=by
 obtain ⟨f,hf,he⟩:=Option.map_eq_some_iff.1 hf0
 obtain ⟨rfl,rfl⟩:=Prod.mk.inj he
 obtain ⟨fuel,x,h,hw⟩:=h
 obtain ⟨xs,n,rfl,rfl,hl,hxs,hall⟩:=DataW.trod_struct ht h
 have hi:i<xs.length:=by rw [hxs]; exact (Array.getElem?_eq_some_iff.1 hf).1
 have h1:=hall i f hf
 rw [List.getElem?_eq_getElem hi] at h1
 rw [← hsz]
 refine ⟨n,_,h1,fun k hk=>hw k ?_⟩
 simp only [DataW.weights,ht]
 refine weightsEach_mem (i:=i) (t:=f.type) (d:=xs[i].1) ?_ ?_ hk
 ·simp [hf]
 simp [List.getElem?_eq_getElem hi]
theorem Rg.elm {n:Nat} {e:TypeId} (ht:P.underlying t=some (.array n e)) (h:Rg R enc P w t cs) {i:Nat} (hi:i<n) {sz:Nat} (hsz:P.cellsOf e=sz):Rg R enc P w e ((cs.drop (i*sz)).take sz):=by
 obtain ⟨fuel,x,h,hw⟩:=h
 obtain ⟨xs,m,rfl,rfl,hl,hxs,hall⟩:=trod_array ht h
 have h1:=hall i hi
 rw [List.getElem?_eq_getElem (by omega)] at h1
 rw [← hsz]
 refine ⟨m,_,h1,fun k hk=>hw k ?_⟩
 simp only [DataW.weights,ht]
 exact weightsAll_mem (i:=i) (by simp [List.getElem?_eq_getElem (show i<xs.length by omega)]) hk
theorem Rg.int {k:IntKind} (ht:P.underlying t=some (.int k)) (h:Rg R enc P w t cs):∃ n,cs=[.int k n]∧k.min≤n∧n≤k.max:=by
 obtain ⟨fuel,x,h,_⟩:=h
 obtain ⟨n,rfl,_,hw⟩:=DataW.trod_int ht h
 simp only [Lit.wf,Bool.and_eq_true,decide_eq_true_eq] at hw
 exact ⟨n,rfl,hw⟩
theorem Rg.str (ht:P.underlying t=some .string) (h:Rg R enc P w t cs):∃ s:ByteArray,cs=[.string s]∧s.size≤R:=by
 obtain ⟨fuel,x,h,hw⟩:=h
 obtain ⟨s,rfl,rfl,_⟩:=DataW.trod_string ht h
 refine ⟨s,rfl,?_⟩
 have:=hw s.data.toList.length (by simp [DataW.weights])
 have e:s.data.toList.length=s.size:=Array.length_toList
 rw [e] at this
 exact this
theorem take1 {l:List Value} {o:Nat} {v:Value} (h:(l.drop o).take 1=[v]):l[o]? = some v:=by
 have h1:((l.drop o).take 1)[0]? = some v:=by rw [h]; rfl
 rw [List.getElem?_take] at h1
 simpa [List.getElem?_drop] using h1
theorem take_at {l:List Value} {o n j:Nat} {v:Value} (h:((l.drop o).take n)[j]? = some v):l[o+j]? = some v:=by
 rw [List.getElem?_take] at h
 split at h
 ·simpa [List.getElem?_drop] using h
 ·cases h
theorem Rg.intAt {fs:Array Field} {k:IntKind} (ht:P.underlying t=some (.struct fs)) (h:Rg R enc P w t cs) (i T o:Nat) (hf:(fs[i]?).map (fun f=>(f.type,f.offset))=some (T,o)) (hu:P.underlying T=some (.int k)) (hsz:P.cellsOf T=1):∃ n,cs[o]? = some (.int k n)∧k.min≤n∧n≤k.max:=by
 obtain ⟨n,h1,h2⟩:=(h.fld ht i T o hf hsz).int hu
 exact ⟨n,take1 h1,h2⟩
theorem Rg.strAt {fs:Array Field} (ht:P.underlying t=some (.struct fs)) (h:Rg R enc P w t cs) (i T o:Nat) (hf:(fs[i]?).map (fun f=>(f.type,f.offset))=some (T,o)) (hu:P.underlying T=some .string) (hsz:P.cellsOf T=1):∃ s:ByteArray,cs[o]? = some (.string s)∧s.size≤R:=by
 obtain ⟨n,h1,h2⟩:=(h.fld ht i T o hf hsz).str hu
 exact ⟨n,take1 h1,h2⟩
theorem Rg.ints {n:Nat} {e:TypeId} {k:IntKind} (ht:P.underlying t=some (.array n e)) (h:Rg R enc P w t cs) (hu:P.underlying e=some (.int k)) (hsz:P.cellsOf e=1):∃ r:Nat→Int,∀ j,j<n→cs[j]? = some (.int k (r j))∧k.min≤r j∧r j≤k.max:=by
 have:∀ j,∃ m:Int,j<n→cs[j]? = some (.int k m)∧k.min≤m∧m≤k.max:=by
  intro j
  by_cases hj:j<n
  ·obtain ⟨m,h1,h2⟩:=(h.elm ht hj hsz).int hu
   exact ⟨m,fun _=>⟨by have:=take1 h1; simpa using this,h2⟩⟩
  ·exact ⟨0,fun h=>absurd h hj⟩
 exact ⟨fun j=>Classical.choose (this j),fun j hj=>Classical.choose_spec (this j) hj⟩
theorem list_eq {l l':List Value} (hl:l.length=l'.length) (h:∀ i,i<l'.length→l[i]? = l'[i]?):l=l':=by
 refine List.ext_getElem? fun i=>?_
 by_cases hi:i<l'.length
 ·exact h i hi
 rw [List.getElem?_eq_none (by omega),List.getElem?_eq_none (by omega)]
theorem cells?_len {a:Addr} {n:Nat} (h:w.cells? base a n=some cs):cs.length=n∧∀ j,j<n→w.cell? (a.add j)=cs[j]?:=by
 unfold World.cells? at h
 split at h
 ·exact ⟨by simpa using mapM_some_length h,fun j hj=>mapM_some_get h j j (by simp [hj])⟩
 ·cases h
theorem RdP.heap {a:Addr} {v:Value} (h:w.cell? a=some v):RdP (fun b=>w.heap[b]?) a v:=by
 intro w' hs
 unfold World.cell? at h ⊢
 cases ho:w.heap[a.block]? with
 | none=>rw [ho] at h; cases h
 | some o =>
  rw [hs a.block o ho]
  rw [ho] at h
  exact h
theorem spot_none {a:Addr} {v:Value} (h:w.cell? a=some v):a.spot=none:=by
 unfold World.cell? at h
 split at h
 ·split at h
  ·cases h
  ·rename_i hs; simpa using hs
 ·cases h
theorem Rg.sl {e:TypeId} {sz by':Nat} {α:Type} (en:α→List Value) (Q:α→Prop) (ht:P.underlying t=some (.slice e)) (h:Rg R enc P w t cs) (hsz:P.cellsOf e=sz) (h0:0<sz) (hby:P.bytesOf e=by')
  (hel:∀ cs',Rg R enc P w e cs'→∃ a,cs'=en a∧Q a):∃ (hd:Sh) (l:List α),cs=[hd.val l.length]∧SlR (fun b=>w.heap[b]?) sz en hd l∧hd.cap*by'≤R∧∀ a∈l,Q a:=by
 obtain ⟨fuel,x,h,hw⟩:=h
 rcases DataW.trod_slice ht h with ⟨rfl,rfl⟩ | ⟨a,len,cap,elems,rest,n,rfl,rfl,rfl,_,hlc,_,hlen,hall,hrest,_⟩
 ·exact ⟨⟨none,0⟩,[],rfl,SlR.nul,by simp,fun a ha=>by cases ha⟩
 have hcap:(elems.length+rest.length)*by'≤R:=by
  have:=hw ((elems.length+rest.length)*by') (by simp [DataW.weights,ht,hby])
  simpa using this
 rw [(hrest rfl).1,hlen,show len+(cap-len)=cap by omega] at hcap
 have hel':∀ i,i<len→∃ m:α,w.cells? 0 (a.add (i*sz)) sz=some (en m)∧Q m:=by
  intro i hi
  have h1:=hall i hi
  rw [List.getElem?_eq_getElem (by omega),hsz,Option.bind_eq_some_iff] at h1
  obtain ⟨cs',h2,h3⟩:=h1
  obtain ⟨m,rfl,hm⟩:=hel cs' ⟨n,_,h3,fun k hk=>hw k (by
   simp only [DataW.weights,ht,List.mem_cons,List.mem_append]
   exact .inr (.inl (weightsAll_mem (i:=i) (by simp [List.getElem?_eq_getElem (show i<elems.length by omega)]) hk)))⟩
  exact ⟨m,h2,hm⟩
 have hspot:0<len→a.spot=none:=by
  intro hpos
  obtain ⟨m,h1,_⟩:=hel' 0 hpos
  obtain ⟨h2,h3⟩:=cells?_len h1
  have h4:=h3 0 h0
  rw [List.getElem?_eq_getElem (by omega)] at h4
  exact spot_none (a:=a) (by simpa [Addr.add] using h4)
 rcases Nat.eq_zero_or_pos len with hz | hpos
 ·refine ⟨⟨some a,cap⟩,[],by rw [hz]; rfl,⟨fun h=>absurd rfl h,by simp,fun i y hy=>by simp at hy⟩,hcap,fun y hy=>by cases hy⟩
 have hne:Nonempty α:=⟨Classical.choose (hel' 0 hpos)⟩
 have hch:∀ i,∃ m:α,i<len→w.cells? 0 (a.add (i*sz)) sz=some (en m)∧Q m:=by
  intro i
  by_cases hi:i<len
  ·obtain ⟨m,hm⟩:=hel' i hi; exact ⟨m,fun _=>hm⟩
  exact ⟨Classical.choice hne,fun h=>absurd h hi⟩
 obtain ⟨M,hM⟩ : ∃ M:Nat→α,∀ i,i<len→w.cells? 0 (a.add (i*sz)) sz=some (en (M i))∧Q (M i):=⟨fun i=>Classical.choose (hch i),fun i=>Classical.choose_spec (hch i)⟩
 refine ⟨⟨some a,cap⟩,(List.range len).map M,by simp [Sh.val],⟨fun _=>?_,by simpa using hlc,fun i y hy j v hj=>?_⟩,hcap,fun y hy=>?_⟩
 ·have:=hspot hpos
  show some a=some ⟨a.block,a.off,none⟩
  cases a; simp_all
 ·have hi:i<len:=by
   have:=(List.getElem?_eq_some_iff.1 hy).1
   simpa using this
  have hy':y=M i:=by
   simp [hi] at hy; exact hy.symm
  subst hy'
  obtain ⟨h1,_⟩:=hM i hi
  obtain ⟨h2,h3⟩:=cells?_len h1
  have hjl:j<sz:=by rw [← h2]; exact (List.getElem?_eq_some_iff.1 hj).1
  have h4:=h3 j hjl
  rw [hj] at h4
  have h5:=RdP.heap h4
  have hadd:(a.add (i*sz)).add j=⟨a.block,a.off+i*sz+j,none⟩:=by
   have hs:=hspot hpos
   cases a with
   | mk b o s =>
    simp only at hs; subst hs
    by_cases hz1:i*sz=0<;>by_cases hz2:j=0<;>simp [Addr.add,hz1,hz2]
  rw [hadd] at h5
  exact h5
 obtain ⟨i,hi,rfl⟩:=List.mem_map.1 hy
 exact (hM i (by simpa using hi)).2
theorem trodAll_stays {W W':World} {sp':Nat→Bool} (hl:laidOutB P=true):∀ {ts:List TypeId} {vs:List Value} {ds:List (DataW H)} {ps:List MemPlace},(∀ t∈ts,P.readableRec t=true∧t<P.types.size) →
  DataW.TrodAll enc P W 0 (fun _=>true) true ts vs ds ps→(∀ p∈ps,W.sameAt W' p)→(∀ p∈ps,sp' p.block=true)→DataW.TrodAll enc P W' 0 sp' true ts vs ds ps
 | [],_,_,_,_,h,_,_=>by
  obtain ⟨rfl,rfl,rfl⟩:=trodAll_nil h
  rfl
 | t :: ts,_,_,_,ht,h,hs,hp=>by
  obtain ⟨v,vs1,d,ds1,a,b,rfl,rfl,rfl,h1,h2⟩:=trodAll_cons h
  obtain ⟨hr,hrow⟩:=ht t (List.mem_cons_self ..)
  exact ⟨a,b,WideElems.Trod_stays hl hr hrow h1 (fun p hp'=>hs p (List.mem_append_left _ hp')) (fun p hp'=>hp p (List.mem_append_left _ hp')),
   trodAll_stays hl (fun u hu=>ht u (List.mem_cons_of_mem _ hu)) h2 (fun p hp'=>hs p (List.mem_append_right _ hp')) (fun p hp'=>hp p (List.mem_append_right _ hp')),rfl⟩
theorem post_true {fn:Func} {s:ChangeSpec} {apart fresh handsOn again:Bool} {W W':World} {args:Array Value} {ds gs:List (DataW H)} {before:List MemPlace} {T:TypeId} (hl:laidOutB P=true)
  (hW:DataW.Whole enc P fn.params.toList s.vars apart W args.toList ds gs before) (hv:s.vars=[]) (hpar:∀ t∈fn.params.toList,P.readableRec t=true∧t<P.types.size)
  (hfn:s.fn H (ds++gs) = { results:=[.lit (.bool true)],args:=ds }) (hr:fn.resultTypes = #[T]) (hT:P.underlying T=some .bool) (hb:Below W.heap.size W W') :
  s.post enc P fn apart fresh handsOn again W args (.bool true) W':=by
 have hlt:=hW.lt
 have hW2:=hW
 obtain ⟨p,q,hA,hV,rfl,hz,hn⟩:=hW
 have hq:q=[]:=by rw [hv] at hV; exact (trodVars_none hV).2
 subst hq
 have hres:∀ (b:Nat) (sp:Nat→Bool) (hd:Bool),DataW.TrodAll enc P W' b sp hd fn.resultTypes.toList ((Value.bool true).resultList fn.resultTypes.size) [.lit (.bool true)] []:=by
  intro b sp hd
  rw [hr]
  exact trodAll_mk1 (shut_bool hT true)
 have hargs:∀ sp:Nat→Bool,(∀ x∈p,sp x.block=true)→DataW.TrodAll enc P W' 0 sp true fn.params.toList args.toList ds p:=fun sp hsp =>
  trodAll_stays hl hpar hA (fun x hx=>hb.same (hlt x (List.mem_append_left _ hx))) hsp
 have hvars:∀ sp:Nat→Bool,DataW.TrodVars enc P W' sp s.vars ([]:List (DataW H)) []:=fun sp=>by rw [hv]; rfl
 refine ⟨ds,gs,p++[],[],p,[],hW2,?_,?_,?_,hb.frame _,fun _=>⟨?_,_,[],p++[],⟨[]++p,[],trodAll_append (hargs _ fun _ _=>rfl) (hres _ _ _),hvars _,by simp,?_,?_⟩,?_⟩⟩
 ·rw [hfn]; exact hres _ _ _
 ·rw [hfn]; exact hargs _ (fun x hx=>by simpa using hlt x (List.mem_append_left _ hx))
 ·rw [hfn]; exact hvars _
 ·rw [hr]
  intro j t r hj hrr
  match j,hj,hrr with
  | 0,hj,hrr =>
   simp [Value.resultList] at hj hrr
   subst hj; subst hrr
   simp [Value.okWide,hT,Cell.okWide,Cell.ok]
 ·intro b off hp
  rw [hb.frozen (p:=⟨b,off,none⟩) (hlt _ hp)]
  exact hz b off hp
 ·intro ha; exact hn ha
 intro x hx _; exact hx
theorem of_ct {f:FuncId} {fn:Func} {s:ChangeSpec} {apart fresh handsOn again:Bool} {W:World} {args:Array Value} {ds gs:List (DataW H)} {before:List MemPlace} {T:TypeId} (hl:laidOutB P=true)
  (hW:DataW.Whole enc P fn.params.toList s.vars apart W args.toList ds gs before) (hv:s.vars=[]) (hpar:∀ t∈fn.params.toList,P.readableRec t=true∧t<P.types.size)
  (hfn:s.fn H (ds++gs) = { results:=[.lit (.bool true)],args:=ds }) (hr:fn.resultTypes = #[T]) (hT:P.underlying T=some .bool)
  (hc:Ct P f args (fun b=>W.heap[b]?) [] fun _ μ' u=>μ'=[]∧u=.bool true) :
  Calls P f args W fun e W'=>∃ v,e=.returned v∧s.post enc P fn apart fresh handsOn again W args v W':=by
 refine (hc W ⟨fun b o h=>h,(fun r hr=>nomatch hr),(fun b hb=>nomatch hb),List.nodup_nil⟩).mono fun e W' ⟨v,G',μ',he,htr,hμ,hv'⟩=>?_
 subst hv'
 refine ⟨_,he,post_true hl hW hv hpar hfn hr hT ⟨htr.os,htr.tape,htr.output,htr.size,fun k hk=>(htr.old k hk (by simp [keys])).1⟩⟩
theorem Rg.arg {W:World} {v:Value} {d:DataW H} {ps:List MemPlace} {ts:List TypeId} {ds:List (DataW H)} {i:Nat} (h:DataW.Trod enc P W 0 (fun _=>true) true t v d ps) (hw:(DataW.weightsEach P ts ds).all (·≤reachBytes)=true) (ht:ts[i]? = some t) (hd:ds[i]? = some d):Rg 140737488351232 enc P W t v.cells.toList:=by
 obtain ⟨fuel,h⟩:=h
 refine ⟨fuel,_,h,fun n hn=>?_⟩
 have:=List.all_eq_true.1 hw n (weightsEach_mem ht hd hn)
 have h2:n≤reachBytes:=by simpa using this
 exact h2
end
variable {H:Type} {R:Nat} {enc:TypeId×Value→H} {P:Program} {w:World} {t:TypeId} {cs:List Value}
theorem min_u {k:IntKind} (hk:k.signed=false):k.min=0:=by cases k<;>first|rfl | cases hk
theorem max_u {k:IntKind} (hk:k.signed=false):k.max=2^k.bits-1:=by cases k<;>first|rfl | cases hk
theorem Rg.uw {k:IntKind} (hk:k.signed=false) (ht:P.underlying t=some (.int k)) (h:Rg R enc P w t cs):∃ x:BitVec k.bits,cs=[uv k x]:=by
 obtain ⟨n,rfl,h1,h2⟩:=h.int ht
 rw [min_u hk] at h1
 rw [max_u hk] at h2
 refine ⟨BitVec.ofNat k.bits n.toNat,?_⟩
 unfold uv
 have hlt:n.toNat<2^k.bits:=by
  have:((2:Int)^k.bits)=((2^k.bits:Nat):Int):=by simp
  omega
 rw [BitVec.toNat_ofNat,Nat.mod_eq_of_lt hlt,Int.toNat_of_nonneg h1]
theorem Rg.alen {n:Nat} {e:TypeId} (ht:P.underlying t=some (.array n e)) (h:Rg R enc P w t cs):cs.length=P.cellsOf t:=by
 obtain ⟨fuel,x,h,_⟩:=h
 obtain ⟨xs,m,_,_,hl,_⟩:=trod_array ht h
 exact hl
theorem at_take {cs:List Value} {o:Nat} {v:Value} (h:(cs.drop o).take 1=[v]):cs[o]? = some v:=by
 have:=congrArg (·[0]?) h
 simpa [List.getElem?_take,List.getElem?_drop] using this
theorem Rg.ba {n:Nat} {e:TypeId} (ht:P.underlying t=some (.array n e)) (h:Rg R enc P w t cs) (he:P.underlying e=some (.int .u8)) (hce:P.cellsOf e=1) (hct:P.cellsOf t=n):∃ f:Nat→Y,cs=ba n f:=by
 have hl:=h.alen ht
 have hx:∀ j,∃ y:Y,j<n→cs[j]? = some (V y):=by
  intro j
  by_cases hj:j<n
  ·obtain ⟨x,hx⟩:=(h.elm ht hj hce).uw rfl he
   exact ⟨x,fun _=>at_take (by simpa using hx)⟩
  exact ⟨0,fun h=>absurd h hj⟩
 refine ⟨fun j=>Classical.choose (hx j),List.ext_getElem? fun j=>?_⟩
 by_cases hj:j<n
 ·rw [ba_at hj]; exact Classical.choose_spec (hx j) hj
 rw [List.getElem?_eq_none (by omega),List.getElem?_eq_none (by rw [ba_len]; omega)]
theorem split2 {cs:List Value} {a b:Nat} (h:cs.length=a+b):cs=(cs.drop 0).take a++(cs.drop a).take b:=by
 rw [List.drop_zero,List.take_of_length_le (l:=cs.drop a) (by simp; omega),List.take_append_drop]
theorem tab_rd {w:World} {name:String} {zs:List Int} {g m:Nat} {y:Nat→W} (h:Lib.TabIs P w name .u32 zs) (hg:P.globalNamed name=some g) (hz:zs.length=m) (hy:∀ j,j<m→zs.getD j 0=((y j).toNat:Int)):RdNP (fun b=>w.heap[b]?) g 0 (wa m y):=by
 intro j v hj
 have hlt:j<m:=by have:=(List.getElem?_eq_some_iff.1 hj).1; rwa [wa_len] at this
 rw [wa_at hlt] at hj
 obtain rfl:=Option.some.inj hj
 have h1:=h.cell hg j (by omega)
 rw [hy j hlt] at h1
 rw [Nat.zero_add]
 exact RdP.heap h1
theorem laid_tail {x:String×DataW Unit} {rest:List (String×DataW Unit)} {W:World} (h:laidMet P (x :: rest) W):laidMet P rest W:=by
 obtain ⟨ps,⟨g',t',cs,fuel,p,q,hg',ht',hvar,hd,hr,he⟩,hn,hb⟩:=h
 subst he
 exact ⟨q,hr,(List.nodup_append.1 hn).2.1,fun b off hm=>hb b off (List.mem_append_right _ hm)⟩
section
variable {dr:Bool} {mc:Md} {P:Program} {n:Nat} {l:List Oper} {K:Env→PM→Mem→Prop} {i:Nat} {σ:List Nat} {ρ:Env} {G:PM} {μ:Mem}
variable {d t:Nat} {p:String} {af:Array Edge} {g:Option (Nat×Bool)} {c:Bool}
theorem apF {T E b o m cap:Nat} {x y:Operand} {u:Value} {xs ys:List Y} (hdf:mc.a=false∨dr=false) (ho:nth l i=some ⟨some d,.call { callee:=.builtin .append,args:=#[x,y],argTypes:=#[T,T] },t,p,af,none⟩)
  (hT:slE P T=some (E,1,1)) (hz:(P.info? E).bind (·.zero)=some (.int .u8 0)) (hx:Ev ρ true x (.slice (some ⟨b,o,none⟩) m cap)) (hy:Ev ρ true y u) (hold:SlR G 1 encY ⟨some ⟨b,o,none⟩,cap⟩ xs) (hm:xs.length=m) (hs:Sc G μ u ys) (h0:0<ys.length) (hg:cap<m+ys.length) (hb:xs.length+ys.length≤140737488355328)
  (h:∀ v' L,v'.oneCell'=true→L=xs++ys→Wo dr mc P n l K σ ((d,true,v') :: ρ) G (rB v' E L :: μ)):Wo dr mc P n l K (i :: σ) ρ G μ:=by
 subst hm
 obtain ⟨oa,cp,rfl,hr⟩:=hs.ex
 clear hs
 obtain ⟨b2,o2,rfl,hrd⟩:=hr h0
 refine .act (μ₁:=[]) (μ₂:=μ) (post:=fun G' μ' v'=>G'=G∧v'.oneCell'=true∧μ'=[rB v' E (xs++ys)]) ho (by rcases hdf with h | h<;>simp [kindOf,h]) .no (.refl _) (fun a w ha hs=>.inl ?_) ?_
 ·obtain ⟨hu,inf,hi,hs1,hb1⟩:=slE_some hT
  have hz':=hz
  rw [hi] at hz'
  simp only [Option.bind_some] at hz'
  have hnews:∀ j u,(ys.map V)[j]? = some u→w.cell? ((⟨b2,o2,none⟩ : Addr).add j)=some u:=fun j u hj=>by rw [add_lit]; exact hrd j u hj w hs
  have holds:∀ j u,(xs.map V)[j]? = some u→w.cell? ((⟨b,o,none⟩ : Addr).add j)=some u:=fun j u hj=>by
   rw [add_lit]
   have h1:=SlR.flat (enc:=encY) (fun _ _=>rfl) hold
   rw [flat_V] at h1
   exact h1 j u hj w hs.sub
  have hrun:=run_append_grow (P:=P) w T t E inf _ hu hi hz' ⟨b,o,none⟩ xs.length cap (xs.map V) (by rw [hs1]; simp) holds ⟨b2,o2,none⟩ ys.length cp (ys.map V) (by rw [hs1]; simp) hnews (by omega) (by omega) (growslice_fits (by omega) (by rw [hb1]; omega))
  have h2:=((Tr.begin (Sat.left (μ:=[]) hs)).drew).alloc (.cells ((xs.map V).toArray++(ys.map V).toArray++Builtin.zeroCells (Value.int .u8 0).cells (grownCap w (xs.length+ys.length) cap E-(xs.length+ys.length))) E)
  have hge:=grownCap_ge w (xs.length+ys.length) cap E
  have h3:=h2.asRow (m:=xs.length+ys.length) (cap:=grownCap w (xs.length+ys.length) cap E) (sz:=1) (xs:=(xs++ys).map V) (by simp) hge (grownCap_le_maxLen w (xs.length+ys.length) cap E (by unfold maxLen; omega)) (by
   simp only [Array.size_append,List.size_toArray,size_zeroCells,List.length_map]
   have:(Value.int .u8 0).cells.size=1:=rfl
   rw [this]; omega) (by rw [Array.toList_append,Array.toList_append,List.map_append]; exact List.take_left' (by simp))
  refine ⟨_,_,G,_,.inl (by simp [execOp,resolve,invoke,builtin,hx.eval ha rfl,hy.eval ha rfl,hrun]; rfl),h3,rfl,rfl,?_⟩
  simp [rB]
 rintro v' G' μ'' _ ⟨rfl,h1,rfl⟩
 exact h v' _ h1 rfl
theorem wk_br {X:Cx} {cd:Code} {k:List KI} {b E:Nat} {cs:List Value} {μ':Mem} (xs:List Y) (m:Nat) (hm:MTake μ (.blk b (cl cs E)) μ') (hx:cs=xs.map V) (hl:xs.length=m) (hb:m≤140737488355328)
  (h:Wk X cd k ρ G (rB (.slice (some ⟨b,0,none⟩) m m) E xs :: μ')):Wk X cd k ρ G μ :=
 ⟨fun a w ha ht=>by
  subst hl; subst hx
  exact h.out a w ha ((ht.perm hm.perm).asRow (sz:=1) (by simp) (Nat.le_refl _) (by unfold maxLen; omega) (by simp) (by rw [Nat.mul_one]; exact List.take_of_length_le (by simp)))⟩
theorem kM {α:Type} {enc:α→List Value} {T e sz by':Nat} {x y z:Operand} {s:Sh} {xs:List α} (hi:Nat) (ho:nth l i=some ⟨some d,.slice T x none (some y) (some z),t,p,af,none⟩) (hT:slE P T=some (e,sz,by')) (hs:SlR G sz enc s xs)
  (hx:Ev ρ true x (s.val xs.length)) (hy:Ev ρ true y (.int .i64 hi)) (hz:Ev ρ true z (.int .i64 hi)) (h1:hi≤xs.length)
  (h:∀ s' L,L=xs.take hi→L.length=hi→SlR G sz enc s' L→Wo dr mc P n l K σ ((d,true,s'.val L.length) :: ρ) G μ):Wo dr mc P n l K (i :: σ) ρ G μ:=by
 have hl:(xs.take hi).length=hi:=by simp; omega
 have htake:SlR G sz enc ⟨s.oa,hi⟩ (xs.take hi):=by
  refine ⟨fun hne=>hs.there (fun e=>hne (by rw [e]; simp)),by rw [hl]; exact Nat.le_refl _,fun j u hj=>?_⟩
  rw [List.getElem?_take] at hj
  split at hj
  ·exact hs.rd j u hj
  cases hj
 have h2:=h _ _ rfl hl htake
 rw [hl] at h2
 refine .pure ho (.inl rfl) .no (fun hc a w ha=>?_) h2
 obtain ⟨hu,inf,hi',rfl,rfl⟩:=slE_some hT
 have hx':=hx.eval ha hc
 simp only [Sh.val] at hx'
 have e3:=hs.le
 have hid:∀ oa:Option Addr,oa.map (fun a=>a.add 0)=oa:=fun oa=>by cases oa<;>simp [add_zero']
 have e4:hi≤s.cap:=by omega
 simp [execOp,hx',hy.eval ha hc,hz.eval ha hc,Instr.sliceAt,run_underlying hu,Instr.slice,Instr.sliceBounds,Instr.sliceBound,asIntOf,e4,sizeOf,typeInfo,hi',Sh.val,hid]
theorem mAq {T T':TypeId} {x y:Operand} {k:IntKind} {a1 a2:Int} (q:Int) (ho:nth l i=some ⟨some d,.call { callee:=.builtin .max,args:=#[x,y],argTypes:=#[T,T'] },t,p,af,none⟩) (hx:Ev ρ true x (.int k a1)) (hy:Ev ρ true y (.int k a2)) (he:(if a2 > a1 then a2 else a1)=q)
  (h:Wo dr mc P n l K σ ((d,true,.int k q) :: ρ) G μ):Wo dr mc P n l K (i :: σ) ρ G μ:=mA ho .no hx hy (by rw [he]; exact h)
theorem Ct.lendK {f:FuncId} {args:Array Value} {b:Nat} {o:Obj} {Q:Mem→Value→Prop} (h:PM.le G (G.add b o)→Ct P f args (G.add b o) μ (fun _ μ' u=>Q μ' u)):Ct P f args G (.blk b o :: μ) (fun _ μ' u=>∃ ν,μ'=.blk b o :: ν∧Q ν u):=by
 intro w hs
 exact Ct.lend (h (PM.le_add (hs.apart b (by simp [keys,Res.keys])))) w hs
theorem Sh.val_inj {s s':Sh} {m:Nat} (h:s.val m=s'.val m):s=s':=by
 cases s; cases s'; simp only [Sh.val,Value.slice.injEq,true_and] at h; rw [h.1,h.2]
end
def polyW:W:=2197175160#32
def halfW (x:W):W:=x >>> 1 ^^^ (polyW &&& -(x &&& 1#32))
def hIt:Nat→W→W
 | 0,x=>x
 | n+1,x=>halfW (hIt n x)
theorem hIt_add (m n:Nat) (x:W):hIt m (hIt n x)=hIt (m+n) x:=by
 induction m with
 | zero=>rw [Nat.zero_add]; rfl
 | succ m ih=>rw [hIt,ih,Nat.succ_add]; rfl
theorem and_one (x:W):x &&& 1#32=0#32∧x%2#32=0#32∨x &&& 1#32=1#32∧x%2#32=1#32:=by
 have e:x &&& 1#32=x%2#32:=by
  apply BitVec.eq_of_toNat_eq
  simp [BitVec.toNat_and,BitVec.toNat_umod,Nat.and_one_is_mod]
 have h2:x.toNat%2=0∨x.toNat%2=1:=by omega
 rcases h2 with h | h
 ·exact .inl ⟨by rw [e]; apply BitVec.eq_of_toNat_eq; simpa [BitVec.toNat_umod] using h,by apply BitVec.eq_of_toNat_eq; simpa [BitVec.toNat_umod] using h⟩
 ·exact .inr ⟨by rw [e]; apply BitVec.eq_of_toNat_eq; simpa [BitVec.toNat_umod] using h,by apply BitVec.eq_of_toNat_eq; simpa [BitVec.toNat_umod] using h⟩
theorem div2 (x:W):x / 2#32=x >>> 1:=by
 apply BitVec.eq_of_toNat_eq
 simp [BitVec.toNat_udiv,BitVec.toNat_ushiftRight,Nat.shiftRight_eq_div_pow]
theorem half_odd {x:W} (h:x%2#32=1#32):x / 2#32 ^^^ 2197175160#32=halfW x:=by
 rcases and_one x with ⟨_,h2⟩ | ⟨h1,_⟩
 ·rw [h] at h2; cases h2
 ·unfold halfW; rw [h1,div2]; rfl
theorem half_even {x:W} (h:¬ x%2#32=1#32):x / 2#32=halfW x:=by
 rcases and_one x with ⟨h1,_⟩ | ⟨_,h2⟩
 ·unfold halfW; rw [h1,div2]; simp
 ·exact absurd h2 h
theorem odd_of {x:W} (c:((x%2#32).toNat:Int)=1):x%2#32=1#32:=BitVec.eq_of_toNat_eq (Int.ofNat.inj c)
theorem odd_to {x:W} (c:x%2#32=1#32):((x%2#32).toNat:Int)=1:=by rw [c]; rfl
def crcB (x:W) (c:Y):W:=hIt 8 (x ^^^ c.setWidth 32)
def crcW (sum:W) (xs:List Y):W := ~~~(xs.foldl crcB (~~~sum))
theorem crc_app (sum:W) (xs ys:List Y):crcW (crcW sum xs) ys=crcW sum (xs++ys):=by
 unfold crcW; rw [BitVec.not_not,List.foldl_append]
theorem crc_nil (sum:W):crcW sum []=sum:=by simp [crcW]
theorem fold_take {xs:List Y} {k:Nat} {x:W} (h:k<xs.length):(xs.take (k+1)).foldl crcB x=crcB ((xs.take k).foldl crcB x) (xs.getD k 0):=by
 rw [List.take_succ_eq_append_getElem h,List.foldl_append]; simp [h]
theorem not_sub (x:W):4294967295#32-x = ~~~x:=by
 rw [show (4294967295#32:W)=BitVec.allOnes 32 from rfl]
 exact BitVec.allOnes_sub_eq_not x
def maskW (x:W):W:=rotl x 17+2726488792#32
theorem mask_eq (x:W):x%32768#32*131072#32+x / 32768#32+2726488792#32=maskW x:=by
 unfold maskW rotl
 congr 1
 have h0:x <<< 17 &&& x >>> 15=0#32:=by
  apply BitVec.eq_of_getLsbD_eq
  intro i hi
  simp only [BitVec.getLsbD_and,BitVec.getLsbD_shiftLeft,BitVec.getLsbD_ushiftRight,BitVec.getLsbD_zero]
  by_cases h8:i<17
  ·simp [h8]
  ·rw [BitVec.getLsbD_of_ge x (15+i) (by omega)]; simp
 rw [show (32-17:Nat)=15 from rfl,←BitVec.add_eq_or_of_and_eq_zero _ _ h0]
 have hx:=x.isLt
 have e1:x%32768#32*131072#32=x <<< 17:=by
  apply BitVec.eq_of_toNat_eq
  simp only [BitVec.toNat_mul,BitVec.toNat_umod,BitVec.toNat_shiftLeft,Nat.shiftLeft_eq,BitVec.toNat_ofNat,Nat.reducePow,Nat.reduceMod]
  omega
 have e2:x / 32768#32=x >>> 15:=by
  apply BitVec.eq_of_toNat_eq
  simp only [BitVec.toNat_udiv,BitVec.toNat_ushiftRight,Nat.shiftRight_eq_div_pow,BitVec.toNat_ofNat]
 rw [e1,e2]
theorem fx0 {L:List Y} {n:BitVec 64} {m:Nat} (e:L=[]++fixL n m):L.length=m:=by rw [e,List.nil_append,fix_len]
theorem fx2 {L A:List Y} {n:BitVec 64} {m:Nat} (e:L=A++fixL n m):L.length=A.length+m:=by rw [e,List.length_append,fix_len]
structure Hd where
 kind:Y
 level:Y
 gen:BitVec 64
 epoch:BitVec 64
 num:BitVec 64
 deriving DecidableEq
def Hd.cells (h:Hd):List Value:=[V h.kind,V h.level,uv .u64 h.gen,uv .u64 h.epoch,uv .u64 h.num]
def Hd.zero:Hd:=⟨0,0,0,0,0⟩
def Hd.right (h:Hd):Bool:=if (h.kind.toNat:Int)=2 then decide ((h.level.toNat:Int)<5) else if (h.kind.toNat:Int)=1∨(h.kind.toNat:Int)=3 then decide ((h.level.toNat:Int)=0)&&decide ((h.gen.toNat:Int)=0) else false
theorem Hd.right2 {h:Hd} (c:(h.kind.toNat:Int)=2):h.right=decide ((h.level.toNat:Int)<5):=by unfold Hd.right; rw [if_pos c]
theorem Hd.right1 {h:Hd} (c:(h.kind.toNat:Int)=1):h.right=(decide ((h.level.toNat:Int)=0)&&decide ((h.gen.toNat:Int)=0)):=by
 unfold Hd.right; rw [if_neg (by omega),if_pos (.inl c)]
theorem Hd.right3 {h:Hd} (c:(h.kind.toNat:Int)=3):h.right=(decide ((h.level.toNat:Int)=0)&&decide ((h.gen.toNat:Int)=0)):=by
 unfold Hd.right; rw [if_neg (by omega),if_pos (.inr c)]
theorem Hd.right0 {h:Hd} (c1:¬ (h.kind.toNat:Int)=1) (c2:¬ (h.kind.toNat:Int)=2) (c3:¬ (h.kind.toNat:Int)=3):h.right=false:=by
 unfold Hd.right; rw [if_neg c2,if_neg (by omega)]
def Hd.three (h:Hd) (k:Nat):BitVec 64:=if k=0 then h.gen else if k=1 then h.epoch else h.num
def Hd.some (h:Hd) (k:Nat):List Y:=[116#8,97#8,110#8,116#8,h.kind,h.level]++(List.range k).flatMap (fun i=>fixL (h.three i) 8)
theorem Hd.some_succ (h:Hd) (k:Nat):h.some (k+1)=h.some k++fixL (h.three k) 8:=by
 unfold Hd.some; rw [List.range_succ,List.flatMap_append,←List.append_assoc]; simp
theorem Hd.three_at {h:Hd} {k:Nat} (hk:k<3) : [uv .u64 h.gen,uv .u64 h.epoch,uv .u64 h.num][k]? = Option.some (uv .u64 (h.three k)):=by
 match k,hk with
 | 0,_=>rfl
 | 1,_=>rfl
 | 2,_=>rfl
def headL (h:Hd):List Y:=[116#8,97#8,110#8,116#8,h.kind,h.level]++fixL h.gen 8++fixL h.epoch 8++fixL h.num 8
theorem Hd.some_all (h:Hd):h.some 3=headL h:=by rw [Hd.some_succ,Hd.some_succ,Hd.some_succ]; simp [Hd.some,headL,Hd.three]
theorem Hd.some_len (h:Hd) (k:Nat):(h.some k).length=6+8*k:=by
 induction k with
 | zero=>rfl
 | succ k ih=>rw [Hd.some_succ,List.length_append,ih,fix_len]; omega
theorem head_len (h:Hd):(headL h).length=30:=by simp [headL,fix_len]
def unfK (xs:List Y):Nat→BitVec 64
 | 0=>0
 | k+1=>unfK xs k ||| (xs.getD k 0).setWidth 64 <<< (8*k)
def nonceF (n:BitVec 64):Nat→Y:=fun i=>if i<8 then (n >>> (8*i)).setWidth 8 else 0#8
theorem nonce_outs (n:BitVec 64) {i:Nat} (h:i<12):outs (nonceF n) 8 i=nonceF n i:=by
 by_cases h8:i<8
 ·exact outs_eq _ h8
 ·have:∀ k,k≤i→outs (nonceF n) k i=0#8:=fun k=>by
   induction k with
   | zero=>intro _; rfl
   | succ k ih=>intro hk; show upd (outs (nonceF n) k) k _ i=_; unfold upd; rw [if_neg (by omega)]; exact ih (by omega)
  rw [this 8 (by omega)]; unfold nonceF; rw [if_neg h8]
theorem fix_nonce {n:BitVec 64} {k:Nat} (h:k<8):(fixL n 8).getD k 0=nonceF n k:=by
 unfold nonceF; rw [if_pos h]; simp [fixL,h]
theorem one6 {a b c d e f:Value} (h1:a.oneCell'=true) (h2:b.oneCell'=true) (h3:c.oneCell'=true) (h4:d.oneCell'=true) (h5:e.oneCell'=true) (h6:f.oneCell'=true):∀ u∈[a,b,c,d,e,f],u.oneCell'=true:=by
 intro u hu
 simp only [List.mem_cons,List.not_mem_nil,or_false] at hu
 rcases hu with rfl|rfl|rfl|rfl|rfl|rfl<;>assumption
def expB (key use:List Y):Nat→List Y
 | 0=>[]
 | k+1=>shaL' key (expB key use k) use k
where shaL' (key last use:List Y) (k:Nat):List Y:=yl 32 (macL key (last++use++[BitVec.ofNat 8 (k+1)]))
def expL (key use:List Y):Nat→List Y
 | 0=>[]
 | k+1=>expL key use k++expB key use (k+1)
theorem expB_len (key use:List Y) (k:Nat):(expB key use (k+1)).length=32:=yl_len _ _
theorem exp_len (key use:List Y) (k:Nat):(expL key use k).length=32*k:=by
 induction k with
 | zero=>rfl
 | succ k ih=>rw [expL,List.length_append,ih,expB_len]; omega
theorem exp_last (key use:List Y) (k:Nat):(expL key use k).drop (32*k-32)=expB key use k:=by
 cases k with
 | zero=>rfl
 | succ k=>rw [expL]; exact List.drop_left' (by rw [exp_len]; omega)
def saltL:List Y:=[116#8,97#8,110#8,116#8,97#8,108#8,117#8,115#8]
def deriveL (root:Nat→Y) (use:List Y):List Y:=expL (yl 32 (macL saltL (yl 32 root))) use 2
def keyEnc (root:Nat→Y) (use:List Y):Nat→Y:=fun i=>(deriveL root use).getD i 0
def keyMac (root:Nat→Y) (use:List Y):Nat→Y:=fun i=>(deriveL root use).getD (32+i) 0
theorem key_cells {root:Nat→Y} {use L A B:List Y} (e:L=deriveL root use) (eA:A=L.take 32) (eB:B=L.drop 32) :
  ba 32 (fun i=>A.getD i 0)++ba 32 (fun i=>B.getD i 0)=ba 32 (keyEnc root use)++ba 32 (keyMac root use):=by
 subst e eA eB
 have e1:ba 32 (fun i=>((deriveL root use).take 32).getD i 0)=ba 32 (keyEnc root use):=ba_congr fun i hi=>by simp only [keyEnc,List.getD_eq_getElem?_getD,List.getElem?_take,if_pos hi]
 have e2:ba 32 (fun i=>((deriveL root use).drop 32).getD i 0)=ba 32 (keyMac root use):=ba_congr fun i _=>by simp only [keyMac,List.getD_eq_getElem?_getD,List.getElem?_drop]
 rw [e1,e2]
theorem key_put {zs:List Value} (hz:zs.length=64) (f g:Nat→Y):put (put zs 0 (ba 32 f)) 32 (ba 32 g)=ba 32 f++ba 32 g:=by
 have e1:put zs 0 (ba 32 f)=ba 32 f++zs.drop 32:=by unfold put; rw [List.take_zero,List.nil_append,ba_len]
 rw [e1]
 unfold put
 rw [List.take_left' (ba_len _ _),ba_len,List.drop_of_length_le (by rw [List.length_append,ba_len,List.length_drop,hz]; exact Nat.le_refl _),List.append_nil]
theorem key_len (f g:Nat→Y):(ba 32 f++ba 32 g).length=64:=by rw [List.length_append,ba_len,ba_len]
theorem key_one (f g:Nat→Y):∀ u∈ba 32 f++ba 32 g,u.oneCell'=true:=one_app (ba_one _ _) (ba_one _ _)
theorem exp_len1 (key use:List Y) (k:Nat):(expB key use k).length≤32:=by
 cases k with
 | zero=>exact Nat.zero_le _
 | succ k=>rw [expB_len]; exact Nat.le_refl _
theorem byte_int (k:Nat):BitVec.ofInt 8 ((k:Nat):Int)=BitVec.ofNat 8 k:=by simp
def keyF (g:Nat→Y) (k:Nat):Nat→Y:=fun i=>if i<k then g i else 0#8
theorem keyF_step {g:Nat→Y} {k:Nat} {y:Y} (h:y=g k):upd (keyF g k) k y=keyF g (k+1):=by
 funext i
 unfold upd keyF
 by_cases h1:i=k
 ·subst h1; rw [if_pos rfl,if_pos (by omega),h]
 ·rw [if_neg h1]
  by_cases h2:i<k
  ·rw [if_pos h2,if_pos (by omega)]
  ·rw [if_neg h2,if_neg (by omega)]
theorem keyF_all {g:Nat→Y}:ba 32 (keyF g 32)=ba 32 g:=ba_congr fun i hi=>by unfold keyF; rw [if_pos hi]
theorem keyF_cells {root:Nat→Y} {use L:List Y} (e:L=deriveL root use):ba 32 (keyF (fun i=>L.getD i 0) 32)++ba 32 (keyF (fun i=>L.getD (32+i) 0) 32)=ba 32 (keyEnc root use)++ba 32 (keyMac root use):=by
 rw [keyF_all,keyF_all,e]; rfl
theorem bap_set1 {n:Nat} {y:Nat→Y} {r:List Value} {j:Int} {z:Y} {o:Nat} (a:Nat) (hj:o+j.toNat*1=a) (h:a<n):(ba n y++r).set (o+j.toNat*1) (V z)=ba n (upd y a z)++r:=by
 rw [hj,List.set_append_left _ _ (by rw [ba_len]; exact h)]; rw [ba_set]
theorem bar_set1 {n m:Nat} {x y:Nat→Y} {j:Int} {z:Y} {o:Nat} (a:Nat) (hj:o+j.toNat*1=n+a):(ba n x++ba m y).set (o+j.toNat*1) (V z)=ba n x++ba m (upd y a z):=by
 rw [hj,List.set_append_right _ _ (by rw [ba_len]; omega),ba_len,Nat.add_sub_cancel_left,ba_set]
theorem exp_stepB (key use:List Y) (j:Nat):yl 32 (macL key (expB key use j++use++[BitVec.ofInt 8 ((j+1:Nat):Int)]))=expB key use (j+1):=by rw [byte_int]; rfl
theorem exp_stepA (key use:List Y) (j:Nat):expL key use j++yl 32 (macL key (expB key use j++use++[BitVec.ofInt 8 ((j+1:Nat):Int)]))=expL key use (j+1):=by rw [exp_stepB]; rfl
def headOf (xs:List Y):Hd:=⟨xs.getD 4 0,xs.getD 5 0,unfK (xs.drop 6) 8,unfK (xs.drop 14) 8,unfK (xs.drop 22) 8⟩
def takeH (xs:List Y):Hd×Int:=if xs.length<30 then (Hd.zero,10) else if xs.take 4=[116#8,97#8,110#8,116#8]∧(headOf xs).right=true then (headOf xs,0) else (Hd.zero,70)
theorem take_short {xs:List Y} (h:xs.length<30):takeH xs=(Hd.zero,10):=by unfold takeH; rw [if_pos h]
theorem take_bad {xs:List Y} (h:¬ xs.length<30) (c:¬ (xs.take 4=[116#8,97#8,110#8,116#8]∧(headOf xs).right=true)):takeH xs=(Hd.zero,70):=by unfold takeH; rw [if_neg h,if_neg c]
theorem take_good {xs:List Y} (h:¬ xs.length<30) (c:xs.take 4=[116#8,97#8,110#8,116#8]∧(headOf xs).right=true):takeH xs=(headOf xs,0):=by unfold takeH; rw [if_neg h,if_pos c]
theorem one5 {a b c d e:Value} (h1:a.oneCell'=true) (h2:b.oneCell'=true) (h3:c.oneCell'=true) (h4:d.oneCell'=true) (h5:e.oneCell'=true):∀ u∈[a,b,c,d,e],u.oneCell'=true:=by
 intro u hu
 simp only [List.mem_cons,List.not_mem_nil,or_false] at hu
 rcases hu with rfl|rfl|rfl|rfl|rfl<;>assumption
theorem unfK_eq {A B:List Y} {k:Nat} (h:∀ i,i<k→A.getD i 0=B.getD i 0):unfK A k=unfK B k:=by
 induction k with
 | zero=>rfl
 | succ k ih=>rw [unfK,unfK,ih (fun i hi=>h i (by omega)),h k (by omega)]
theorem head_at {xs L:List Y} (e:L=(xs.drop 6).take (30-6)):(⟨xs.getD 4 0,xs.getD 5 0,unfK L 8,unfK (L.drop 8) 8,unfK ((L.drop 8).drop 8) 8⟩ : Hd)=headOf xs:=by
 subst e
 unfold headOf
 have e1:unfK ((xs.drop 6).take (30-6)) 8=unfK (xs.drop 6) 8:=unfK_eq fun i hi=>by
  simp only [List.getD_eq_getElem?_getD,List.getElem?_take]; rw [if_pos (by omega)]
 have e2:unfK (((xs.drop 6).take (30-6)).drop 8) 8=unfK (xs.drop 14) 8:=unfK_eq fun i hi=>by
  simp only [List.getD_eq_getElem?_getD,List.getElem?_drop,List.getElem?_take]; rw [if_pos (by omega),show 6+(8+i)=14+i by omega]
 have e3:unfK ((((xs.drop 6).take (30-6)).drop 8).drop 8) 8=unfK (xs.drop 22) 8:=unfK_eq fun i hi=>by
  simp only [List.getD_eq_getElem?_getD,List.getElem?_drop,List.getElem?_take]; rw [if_pos (by omega),show 6+(8+(8+i))=22+i by omega]
 rw [e1,e2,e3]
theorem tant_beq (L:List Y):((bstr L).toList == (⟨#[116,97,110,116]⟩ : ByteArray).toList)=decide (L=[116#8,97#8,110#8,116#8]):=by
 have e:(⟨#[116,97,110,116]⟩ : ByteArray).toList=(bstr [116#8,97#8,110#8,116#8]).toList:=by rw [ByteArray.toList_eq,ByteArray.toList_eq,bstr_data]; rfl
 rw [e,bstr_beq]
theorem take_c2 {xs L:List Y} (eL:L=xs.take 4) (c:(!((bstr L).toList == (⟨#[116,97,110,116]⟩ : ByteArray).toList) || !(headOf xs).right)=true) (h:xs.take 4=[116#8,97#8,110#8,116#8]∧(headOf xs).right=true):False:=by
 rw [tant_beq,eL,h.2,decide_eq_true h.1] at c; cases c
theorem take_c3 {xs L:List Y} (eL:L=xs.take 4) (c:(!((bstr L).toList == (⟨#[116,97,110,116]⟩ : ByteArray).toList) || !(headOf xs).right)=false):xs.take 4=[116#8,97#8,110#8,116#8]∧(headOf xs).right=true:=by
 rw [tant_beq,eL,Bool.or_eq_false_iff,Bool.not_eq_false',Bool.not_eq_false',decide_eq_true_eq] at c
 exact c
end Go.Tan
namespace Go.Proofs.YtdeobooblmjlfaaGreatDoor
open Go.Tan Go.RowKit
namespace Fx
theorem go132:goFn Tryz.prog 132=true:=by kernel_rfl
theorem go110:goFn Tryz.prog 110=true:=by kernel_rfl
theorem go117:goFn Tryz.prog 117=true:=by kernel_rfl
theorem go75:goFn Tryz.prog 75=true:=by kernel_rfl
theorem go74:goFn Tryz.prog 74=true:=by kernel_rfl
theorem cv130_26:cvK Tryz.prog 130 26=some .u64:=by kernel_rfl
end Fx
theorem nibble_ok (x:W) (G:PM):Ct Tryz.prog 132 ([U x]:List Value).toArray G [] (fun _ μ' u=>μ'=[]∧u=U (hIt 4 x)):=by
 refine Ct.of Tryz.func132 rfl Tryz.ntmps132 rfl fun w0 hs0=>?_
 refine .seq (rq1 rfl rfl (aS rfl rfl (.nil (.code (.seq (.seq (rq1 rfl rfl (mV rfl rfl (.nil (.code (.block ?_)))))))))))
 refine Wk.lop (α:=Nat×W) (fun gh=>[(0,true,U gh.2),(3,true,.int .i64 (gh.1:Int))]) (fun _=>[])
  (fun gh Gl=>(gh.1≤4)∧(gh.2=hIt gh.1 x)) (fun gh=>4-gh.1) (0,x) [] []
  (esD rfl (esC rfl (by first|rfl|exact evi (by omega)) eZ))
  mN ?_ ?_
 ·refine ⟨?_,?_⟩
  ·(try dsimp only)<;>(first|omega|rfl|assumption|(simp; done))
  (try dsimp only)<;>(first|omega|rfl|assumption|(simp; done))
 intro gh N0 Gl0 hN0 hGl0 hF0
 obtain ⟨k,y⟩:=gh; dsimp only at hF0 hN0 ⊢
 obtain ⟨hk,ey⟩:=hF0
 refine .seq (rq1 rfl rfl (cp rfl .no (.u rfl) (.u rfl) rfl (.nil (.code (.seq (.cond rfl (fun c1=>?_) (fun c1=>?_)))))))
 ·have c1k:=c1
  try simp only [qcA,qcB] at c1
  refine .skip (.code (.seq (.block (rq8 rfl rfl (mV rfl rfl (rw' (k:=.u32) rfl .no (.u rfl) (.u rfl) (fun _=>by decide) ?_))))))
  refine mV rfl rfl (bw (k:=.u32) (b:=1#32) rfl .no rfl (.u rfl) (.u rfl) rfl (nw (k:=.u32) rfl .no rfl (.u rfl) ?_))
  refine bw (k:=.u32) (a:=2197175160#32) rfl .no rfl (.u rfl) (.u rfl) rfl (bw (k:=.u32) rfl .no rfl (.u rfl) (.u rfl) rfl (aS rfl rfl (.nil (.blk (.code (rq2 rfl rfl (arn (((k+1):Nat):Int) rfl .no (.u rfl) (.u rfl) rfl (fun _=>by omega) (fun _=>wrap_i64 (by omega) (by omega)) ?_)))))))
  refine mV rfl rfl (.nil (We.lpo (k+1,halfW y) ?_ ?_ ?_ ?_ ?_))
  ·exact (esD rfl (esC rfl (by first|rfl|exact evi (by omega)) eZ))
  ·exact mN
  ·first|omega|(dsimp only; omega)
  ·exact hGl0
  refine ⟨?_,?_⟩
  ·(try dsimp only)<;>(first|omega|rfl|assumption|(simp; done))
  (try dsimp only)<;>(rw [ey]; rfl)
 have c1k:=c1
 try simp only [qcA,qcB] at c1
 refine .exit (.xcode (.xlp (.xblk (.code (.seq (rq2 rfl rfl (mV rfl rfl (aS rfl rfl (.nil (.code (.ret (We.fin0 Tryz.results132 (.tmp rfl .nil) ?_))))))))))))
 obtain rfl:k=4:=by omega
 exact ⟨rfl,by rw [ey]; rfl⟩
theorem crcMore_ok (sum:W) (xs:List Y) (h:Sh) (G:PM) (hs:SlR G 1 encY h xs) (hl:xs.length≤9000000000000000000):Ct Tryz.prog 110 ([U sum,h.val xs.length]:List Value).toArray G [] (fun _ μ' u=>μ'=[]∧u=U (crcW sum xs)):=by
 refine Ct.of Tryz.func110 rfl Tryz.ntmps110 rfl fun w0 hs0=>?_
 refine .seq (rq1 rfl rfl (aS rfl rfl (.nil (.code (.seq (rq3 rfl rfl (mV rfl rfl (xw (k:=.u32) rfl .no rfl (.u rfl) ?_))))))))
 refine aS rfl rfl (.nil (.code (.seq (.seq (rq3 rfl rfl (mV rfl rfl (ln rfl .no Fx.sn24 (.u rfl) (mV rfl rfl (.nil (.code (.block ?_)))))))))))
 refine Wk.lop (α:=Nat×W) (fun gh=>[(5,true,U gh.2),(12,true,.int .i64 (gh.1:Int))]) (fun _=>[])
  (fun gh Gl=>(gh.1≤xs.length)∧(gh.2=(xs.take gh.1).foldl crcB (~~~sum))) (fun gh=>xs.length-gh.1) (0, ~~~sum) [(10,true,_),(11,true,_)] []
  (esD rfl (esC rfl (by first|rfl|exact evi (by omega)) (esD rfl (esD rfl eZ))))
  mN ?_ ?_
 ·refine ⟨?_,?_⟩
  ·(try dsimp only)<;>(first|omega|rfl|assumption|(simp; done))
  (try dsimp only)<;>(first|omega|rfl|assumption|(simp; done))
 intro gh N0 Gl0 hN0 hGl0 hF0
 obtain ⟨k,x⟩:=gh; dsimp only at hF0 hN0 ⊢
 obtain ⟨hk,ex⟩:=hF0
 have hs:=hs.mono hGl0
 refine .seq (rq1 rfl rfl (cp rfl .no (.u rfl) (.u rfl) rfl (.nil (.code (.seq (.cond rfl (fun c1=>?_) (fun c1=>?_)))))))
 ·have c1k:=c1
  try simp only [qcA,qcB] at c1
  refine .skip (.code (.seq (.block (.seq (rq3 rfl rfl (ih rfl .no Fx.se24 (.u rfl) (.u rfl) (fun _=>by omega) (fun _=>by omega) (fun _=>hs.nn (k:=k) (by omega)) ?_))))))
  refine ld rfl .no Fx.ag5 (.u rfl) (fun _=>(hs.yat (k) (by omega) (by omega)).rd) ?_
  refine aS rfl rfl (.nil (.code (rq7 rfl rfl (mV rfl rfl (mV rfl rfl (cu (k:=.u8) rfl .no rfl Fx.cv5_130 (.u rfl) ?_))))))
  refine bw (k:=.u32) rfl .no rfl (.u rfl) (.u rfl) rfl (kv rfl .no Fx.go132 (Evc rfl Evn) (fun _=>nibble_ok _ _) ?_)
  refine kv rfl .no Fx.go132 (Evc rfl Evn) (fun _=>nibble_ok _ _) ?_
  refine aS rfl rfl (.nil (.blk (.code (rq2 rfl rfl (arn (((k+1):Nat):Int) rfl .no (.u rfl) (.u rfl) rfl (fun _=>by omega) (fun _=>wrap_i64 (by omega) (by omega)) ?_)))))
  refine mV rfl rfl (.nil (We.lpo (k+1,hIt 4 (hIt 4 (x ^^^ (xs.getD k 0).setWidth 32))) ?_ ?_ ?_ ?_ ?_))
  ·exact (esD rfl (esC rfl (by first|rfl|exact evi (by omega)) (esD rfl (esD rfl eZ))))
  ·exact mN
  ·first|omega|(dsimp only; omega)
  ·exact hGl0
  refine ⟨?_,?_⟩
  ·(try dsimp only)<;>(first|omega|rfl|assumption|(simp; done))
  (try dsimp only)<;>(rw [fold_take (by omega),←ex,hIt_add]; rfl)
 have c1k:=c1
 try simp only [qcA,qcB] at c1
 refine .exit (.xcode (.xlp (.xblk (.code (.seq (rq3 rfl rfl (mV rfl rfl (xw (k:=.u32) rfl .no rfl (.u rfl) ?_))))))))
 refine aS rfl rfl (.nil (.code (.ret (We.fin0 Tryz.results110 (.tmp rfl .nil) ?_))))
 obtain rfl:k=xs.length:=by omega
 exact ⟨rfl,by rw [ex,List.take_length]; rfl⟩
theorem crcSum_ok (ps:List (Sh×List Y)) (h:Sh) (G:PM) (hs:SlP G h ps) (hl:(catL ps).length≤9000000000000000000) (hn:ps.length≤1000):Ct Tryz.prog 75 ([h.val ps.length]:List Value).toArray G [] (fun _ μ' u=>μ'=[]∧u=U (crcW 0#32 (catL ps))):=by
 refine Ct.of Tryz.func75 rfl Tryz.ntmps75 rfl fun w0 hs0=>?_
 refine .seq (rq1 rfl rfl (aS rfl rfl (.nil (.code (.seq (rq1 rfl rfl (aS rfl rfl (.nil (.code (.seq (.seq (rq3 rfl rfl (mV rfl rfl (ln rfl .no Fx.sn54 (.u rfl) (mV rfl rfl (.nil (.code (.block ?_))))))))))))))))))
 refine Wk.lop (α:=Nat×W) (fun gh=>[(3,true,U gh.2),(8,true,.int .i64 (gh.1:Int))]) (fun _=>[])
  (fun gh Gl=>(gh.1≤ps.length)∧(gh.2=crcW 0#32 (catL (ps.take gh.1)))) (fun gh=>ps.length-gh.1) (0,0#32) [(6,true,_),(7,true,_)] []
  (esD rfl (esC rfl (by first|rfl|exact evi (by omega)) (esD rfl (esD rfl eZ))))
  mN ?_ ?_
 ·refine ⟨?_,?_⟩
  ·(try dsimp only)<;>(first|omega|rfl|assumption|(simp; done))
  (try dsimp only)<;>(simp [catL,crc_nil])
 intro gh N0 Gl0 hN0 hGl0 hF0
 obtain ⟨k,x⟩:=gh; dsimp only at hF0 hN0 ⊢
 obtain ⟨hk,ex⟩:=hF0
 have hs:=hs.mono hGl0
 refine .seq (rq1 rfl rfl (cp rfl .no (.u rfl) (.u rfl) rfl (.nil (.code (.seq (.cond rfl (fun c1=>?_) (fun c1=>?_)))))))
 ·have c1k:=c1
  try simp only [qcA,qcB] at c1
  refine .skip (.code (.seq (.block (.seq (rq3 rfl rfl (ih rfl .no Fx.se54 (.u rfl) (.u rfl) (fun _=>by omega) (fun _=>by omega) (fun _=>hs.sl.nn (k:=k) (by omega)) ?_))))))
  obtain ⟨p11,ep11⟩:=getx (k:=k) (xs:=ps) (by omega)
  have hq11:=hs.get ep11
  refine ld rfl .no Fx.ag24 (.u rfl) (fun _=>(hs.at (k) (by omega) ep11).rd) ?_
  refine aS rfl rfl (.nil (.code (rq4 rfl rfl (mV rfl rfl (mV rfl rfl (kv rfl .no Fx.go110 (Evc rfl (Evc rfl Evn)) (fun _=>crcMore_ok _ p11.2 _ _ hq11 (by have:=cat_len ep11; omega)) ?_))))))
  refine aS rfl rfl (.nil (.blk (.code (rq2 rfl rfl (arn (((k+1):Nat):Int) rfl .no (.u rfl) (.u rfl) rfl (fun _=>by omega) (fun _=>wrap_i64 (by omega) (by omega)) ?_)))))
  refine mV rfl rfl (.nil (We.lpo (k+1,crcW x p11.2) ?_ ?_ ?_ ?_ ?_))
  ·exact (esD rfl (esC rfl (by first|rfl|exact evi (by omega)) (esD rfl (esD rfl eZ))))
  ·exact mN
  ·first|omega|(dsimp only; omega)
  ·exact hGl0
  refine ⟨?_,?_⟩
  ·(try dsimp only)<;>(first|omega|rfl|assumption|(simp; done))
  (try dsimp only)<;>(rw [ex,crc_app,cat_take ep11])
 have c1k:=c1
 try simp only [qcA,qcB] at c1
 refine .exit (.xcode (.xlp (.xblk (.code (.seq (rq2 rfl rfl (mV rfl rfl (aS rfl rfl (.nil (.code (.ret (We.fin0 Tryz.results75 (.tmp rfl .nil) ?_))))))))))))
 obtain rfl:k=ps.length:=by omega
 exact ⟨rfl,by rw [ex,List.take_length]; rfl⟩
theorem Mask_ok (x:W) (G:PM):Ct Tryz.prog 74 ([U x]:List Value).toArray G [] (fun _ μ' u=>μ'=[]∧u=U (maskW x)):=by
 refine Ct.of Tryz.func74 rfl Tryz.ntmps74 rfl fun w0 hs0=>?_
 refine .seq (rq1 rfl rfl (aS rfl rfl (.nil (.code (.seq (rq4 rfl rfl (mV rfl rfl (kv rfl .no Fx.go109 (Evc rfl (Evc rfl Evn)) (fun _=>rot_ok _ 17 _) ?_))))))))
 refine bw (k:=.u32) (b:=2726488792#32) rfl .no rfl (.u rfl) (.u rfl) rfl (aS rfl rfl (.nil (.code (.ret (We.fin0 Tryz.results74 (.tmp rfl .nil) ?_)))))
 exact ⟨rfl,rfl⟩
theorem rMask_ok (x:W) (G:PM):Ct Tryz.prog 83 ([U x]:List Value).toArray G [] (fun _ μ' u=>μ'=[]∧u=U (maskW x)):=by
 refine Ct.of Tryz.func83 rfl Tryz.ntmps83 rfl fun w0 hs0=>?_
 refine .seq (rq1 rfl rfl (aS rfl rfl (.nil (.code (.seq (rq8 rfl rfl (mV rfl rfl (mw (k:=.u32) (b:=32768#32) rfl .no (.u rfl) (.u rfl) (fun _=>show (32768#32:BitVec 32)≠0#32 by decide) ?_))))))))
 refine bw (k:=.u32) (b:=131072#32) rfl .no rfl (.u rfl) (.u rfl) rfl (mV rfl rfl (dw (k:=.u32) (b:=32768#32) rfl .no rfl (.u rfl) (.u rfl) (fun _=>show (32768#32:BitVec 32)≠0#32 by decide) ?_))
 refine bw (k:=.u32) rfl .no rfl (.u rfl) (.u rfl) rfl (bw (k:=.u32) (b:=2726488792#32) rfl .no rfl (.u rfl) (.u rfl) rfl (aS rfl rfl (.nil (.code (.ret (We.fin0 Tryz.results83 (.tmp rfl .nil) ?_))))))
 exact ⟨rfl,congrArg (fun z=>tup [uv .u32 z]) (mask_eq x)⟩
theorem rhalf_ok (x:W) (G:PM):Ct Tryz.prog 117 ([U x]:List Value).toArray G [] (fun _ μ' u=>μ'=[]∧u=U (halfW x)):=by
 refine Ct.of Tryz.func117 rfl Tryz.ntmps117 rfl fun w0 hs0=>?_
 refine .seq (rq1 rfl rfl (aS rfl rfl (.nil (.code (.seq (.seq (rq3 rfl rfl (mV rfl rfl (mw (k:=.u32) (b:=2#32) rfl .no (.u rfl) (.u rfl) (fun _=>show (2#32:BitVec 32)≠0#32 by decide) ?_)))))))))
 refine cp rfl .no (.u rfl) (.u rfl) rfl (.nil (.code (.cond rfl (fun c1=>?_) (fun c1=>?_))))
 ·have c1k:=c1
  try simp only [qcA,qcB] at c1
  refine .seq (rq4 rfl rfl (mV rfl rfl (dw (k:=.u32) (b:=2#32) rfl .no rfl (.u rfl) (.u rfl) (fun _=>show (2#32:BitVec 32)≠0#32 by decide) ?_)))
  refine bw (k:=.u32) (b:=2197175160#32) rfl .no rfl (.u rfl) (.u rfl) rfl (aS rfl rfl (.nil (.code (.ret (We.fin0 Tryz.results117 (.tmp rfl .nil) ?_)))))
  exact ⟨rfl,congrArg (fun z=>tup [uv .u32 z]) (half_odd (odd_of c1))⟩
 have c1k:=c1
 try simp only [qcA,qcB] at c1
 refine .skip (.code (.seq (rq3 rfl rfl (mV rfl rfl (dw (k:=.u32) (b:=2#32) rfl .no rfl (.u rfl) (.u rfl) (fun _=>show (2#32:BitVec 32)≠0#32 by decide) ?_)))))
 refine aS rfl rfl (.nil (.code (.ret (We.fin0 Tryz.results117 (.tmp rfl .nil) ?_))))
 exact ⟨rfl,congrArg (fun z=>tup [uv .u32 z]) (half_even (fun e=>c1 (odd_to e)))⟩
theorem rcrcMore_ok (sum:W) (xs:List Y) (h:Sh) (G:PM) (hs:SlR G 1 encY h xs) (hl:xs.length≤9000000000000000000):Ct Tryz.prog 84 ([U sum,h.val xs.length]:List Value).toArray G [] (fun _ μ' u=>μ'=[]∧u=U (crcW sum xs)):=by
 refine Ct.of Tryz.func84 rfl Tryz.ntmps84 rfl fun w0 hs0=>?_
 refine .seq (rq1 rfl rfl (aS rfl rfl (.nil (.code (.seq (rq3 rfl rfl (mV rfl rfl (bw (k:=.u32) (a:=4294967295#32) rfl .no rfl (.u rfl) (.u rfl) rfl (aS rfl rfl (.nil (.code (.seq (.seq (rq1 rfl rfl (aS rfl rfl (.nil (.code (.block ?_))))))))))))))))))
 refine Wk.lop (α:=Nat×W) (fun gh=>[(5,true,U gh.2),(6,true,.int .i64 (gh.1:Int))]) (fun _=>[])
  (fun gh Gl=>(gh.1≤xs.length)∧(gh.2=(xs.take gh.1).foldl crcB (~~~sum))) (fun gh=>xs.length-gh.1) (0,4294967295#32-sum) [(1,true,_)] []
  (esD rfl (esC rfl (by first|rfl|exact evi (by omega)) (esD rfl eZ)))
  mN ?_ ?_
 ·refine ⟨?_,?_⟩
  ·(try dsimp only)<;>(first|omega|rfl|assumption|(simp; done))
  (try dsimp only)<;>(exact not_sub sum)
 intro gh N0 Gl0 hN0 hGl0 hF0
 obtain ⟨k,x⟩:=gh; dsimp only at hF0 hN0 ⊢
 obtain ⟨hk,ex⟩:=hF0
 have hs:=hs.mono hGl0
 refine .seq (.seq (rq4 rfl rfl (mV rfl rfl (mV rfl rfl (ln rfl .no Fx.sn24 (.u rfl) (cp rfl .no (.u rfl) (.u rfl) rfl (.nil (.code (.cond rfl (fun c1=>?_) (fun c1=>?_))))))))))
 ·have c1k:=c1
  try simp only [qcA,qcB] at c1
  refine .skip (.code (.seq (.block (.seq (rq8 rfl rfl (mV rfl rfl (mV rfl rfl (mV rfl rfl (ih rfl .no Fx.se24 (.u rfl) (.u rfl) (fun _=>by omega) (fun _=>by omega) (fun _=>hs.nn (k:=k) (by omega)) ?_)))))))))
  refine ld rfl .no Fx.ag5 (.u rfl) (fun _=>(hs.yat (k) (by omega) (by omega)).rd) ?_
  refine cu (k:=.u8) rfl .no rfl Fx.cv5_130 (.u rfl) ?_
  refine bw (k:=.u32) rfl .no rfl (.u rfl) (.u rfl) rfl (aS rfl rfl (.nil (.code (.seq (rq1 rfl rfl (aS rfl rfl (.nil (.code (.block ?_)))))))))
  refine Wk.lop (α:=Nat×W) (fun gh=>[(5,true,U gh.2),(7,true,.int .i64 (gh.1:Int))]) (fun _=>[])
   (fun gh Gl=>(gh.1≤8)∧(gh.2=hIt gh.1 (x ^^^ (xs.getD k 0).setWidth 32))) (fun gh=>8-gh.1) (0,x ^^^ (xs.getD k 0).setWidth 32) [(1,true,_),(6,true,_)] []
   (esD rfl (esC rfl (by first|rfl|exact evi (by omega)) (esD rfl (esD rfl eZ))))
   mN ?_ ?_
  ·refine ⟨?_,?_⟩
   ·(try dsimp only)<;>(first|omega|rfl|assumption|(simp; done))
   (try dsimp only)<;>(first|omega|rfl|assumption|(simp; done))
  intro gh N1 Gl1 hN1 hGl1 hF1
  obtain ⟨q,z⟩:=gh; dsimp only at hF1 hN1 ⊢
  obtain ⟨hq,ez⟩:=hF1
  refine .seq (.seq (rq2 rfl rfl (mV rfl rfl (cp rfl .no (.u rfl) (.u rfl) rfl (.nil (.code (.cond rfl (fun c2=>?_) (fun c2=>?_))))))))
  ·have c2k:=c2
   try simp only [qcA,qcB] at c2
   refine .skip (.code (.seq (.block (rq3 rfl rfl (mV rfl rfl (kv rfl .no Fx.go117 (Evc rfl Evn) (fun _=>rhalf_ok _ _) ?_))))))
   refine aS rfl rfl (.nil (.blk (.code (rq3 rfl rfl (mV rfl rfl (arn (((q+1):Nat):Int) rfl .no (.u rfl) (.u rfl) rfl (fun _=>by omega) (fun _=>wrap_i64 (by omega) (by omega)) ?_))))))
   refine aS rfl rfl (.nil (We.lpo (q+1,halfW z) ?_ ?_ ?_ ?_ ?_))
   ·exact (esD rfl (esC rfl (by first|rfl|exact evi (by omega)) (esD rfl (esD rfl eZ))))
   ·exact mN
   ·first|omega|(dsimp only; omega)
   ·exact hGl1
   refine ⟨?_,?_⟩
   ·(try dsimp only)<;>(first|omega|rfl|assumption|(simp; done))
   (try dsimp only)<;>(rw [ez]; rfl)
  have c2k:=c2
  try simp only [qcA,qcB] at c2
  refine .exit (.xcode (.xlp (.xblk (.blk (.code (rq3 rfl rfl (mV rfl rfl (arn (((k+1):Nat):Int) rfl .no (.u rfl) (.u rfl) rfl (fun _=>by omega) (fun _=>wrap_i64 (by omega) (by omega)) ?_))))))))
  refine aS rfl rfl (.nil (We.lpo (k+1,z) ?_ ?_ ?_ ?_ ?_))
  ·exact (esD rfl (esC rfl (by first|rfl|exact evi (by omega)) (esD rfl eZ)))
  ·exact mN
  ·first|omega|(dsimp only; omega)
  ·exact (hGl0).trans hGl1
  refine ⟨?_,?_⟩
  ·(try dsimp only)<;>(first|omega|rfl|assumption|(simp; done))
  (try dsimp only)<;>(rw [fold_take (by omega),←ex,ez,show q=8 by omega]; rfl)
 have c1k:=c1
 try simp only [qcA,qcB] at c1
 refine .exit (.xcode (.xlp (.xblk (.code (.seq (rq3 rfl rfl (mV rfl rfl (bw (k:=.u32) (a:=4294967295#32) rfl .no rfl (.u rfl) (.u rfl) rfl (aS rfl rfl (.nil (.code (.ret (We.fin0 Tryz.results84 (.tmp rfl .nil) ?_)))))))))))))
 obtain rfl:k=xs.length:=by omega
 exact ⟨rfl,by rw [ex,List.take_length]; exact congrArg (fun z=>tup [uv .u32 z]) (not_sub _)⟩
theorem crc2_ok {G:PM} {b7 b9 T7 T9:Nat} {kind:Y} {h:Sh} {p:List Y} (hle:PM.le G ((G.add b7 (cl [V kind] T7)).add b9 (cl [.slice (some ⟨b7,0,none⟩) 1 1,h.val p.length] T9))) (hq:PM.le (G.add b7 (cl [V kind] T7)) ((G.add b7 (cl [V kind] T7)).add b9 (cl [.slice (some ⟨b7,0,none⟩) 1 1,h.val p.length] T9))) (hs:SlR G 1 encY h p) (hl:p.length≤1000000000000000) :
  Ct Tryz.prog 75 ([.slice (some ⟨b9,0,none⟩) 2 2]:List Value).toArray ((G.add b7 (cl [V kind] T7)).add b9 (cl [.slice (some ⟨b7,0,none⟩) 1 1,h.val p.length] T9)) [] (fun _ μ' u=>μ'=[]∧u=U (crcW 0#32 ([kind]++p))):=by
 have h1:SlR (G.add b7 (cl [V kind] T7)) 1 encY ⟨some ⟨b7,0,none⟩,1⟩ [kind]:=SlR.ofBlk (T:=T7) (PM.add_same _ _ _) (fun _ _=>rfl) (by simp)
 have hP:SlP ((G.add b7 (cl [V kind] T7)).add b9 (cl [.slice (some ⟨b7,0,none⟩) 1 1,h.val p.length] T9)) ⟨some ⟨b9,0,none⟩,2⟩ [(⟨some ⟨b7,0,none⟩,1⟩,[kind]),(h,p)] :=
  ⟨SlR.ofBlk (T:=T9) (PM.add_same _ _ _) (fun _ _=>rfl) (by simp),fun q hq'=>by
   rcases List.mem_cons.1 hq' with rfl | hq'
   ·exact h1.mono hq
   ·rw [List.mem_singleton.1 hq']; exact hs.mono hle⟩
 have hh:=crcSum_ok _ ⟨some ⟨b9,0,none⟩,2⟩ _ hP (by simp [catL]; omega) (by simp)
 rw [show catL [((⟨some ⟨b7,0,none⟩,1⟩ : Sh),[kind]),(h,p)]=[kind]++p by simp [catL]] at hh
 exact hh
theorem whead_ok (kind:Y) (p:List Y) (h:Sh) (G:PM) (hs:SlR G 1 encY h p) (hl:p.length≤1000000000000000):Ct Tryz.prog 31 ([V kind,h.val p.length]:List Value).toArray G [] (PR 5 (fun L=>L=fixL ((maskW (crcW 0#32 ([kind]++p))).setWidth 64) 4++fixL (BitVec.ofInt 64 (p.length:Int)) 2++[kind])):=by
 refine Ct.of Tryz.func31 rfl Tryz.ntmps31 rfl fun w0 hs0=>?_
 refine .seq (rq1 rfl rfl (aS rfl rfl (.nil (.code (.seq (rq7 rfl rfl (mV rfl rfl ?_)))))))
 refine Go.Tan.b1 rfl Fx.se24 Fx.zv5 (.u rfl) rfl rfl (by decide) ?_; intro b7
 refine mV rfl rfl ?_
 refine Go.Tan.bN rfl Fx.se54 Fx.zv24 (Evp.cons (.u rfl) (Evp.cons (.u rfl) Evp.nil)) rfl (by decide) (by simp [Value.oneCell',Sh.val]) ?_; intro b9
 refine kp rfl .no Fx.go75 (Evc rfl Evn) (Gp.add .here (Gp.add .here Gp.nil)) (fun _ hle hq=>crc2_ok hle hq.1 hs hl) ?_
 refine kv rfl .no Fx.go74 (Evc rfl Evn) (fun _=>Mask_ok _ _) ?_
 refine aS rfl rfl (.nil (.code (.seq (Wk.rg [0,1,2,3,4,5,6,7,8,9,10] rfl rfl (mV rfl rfl (cu (k:=.u32) rfl .no rfl Fx.cv130_26 (.u rfl) ?_))))))
 refine kc rfl Fx.go24 (Evc rfl (Evc rfl (Evc rfl Evn))) (Ct.frzB (Fix_ok [] ⟨none,0⟩ _ 4 _ SlR.nul (by simp) (by decide))) ?_
 rintro _ G14 μ14 hG14 ⟨h14,L14,eL14,rfl,rfl,hs14⟩
 refine mV rfl rfl (ln rfl .no Fx.sn24 (.u rfl) (ci rfl .no rfl Fx.cv3_26 (.u rfl) ?_))
 refine kc rfl Fx.go24 (Evc rfl (Evc rfl (Evc rfl Evn))) (Ct.rowc (Fix_ok L14 h14 _ 2 _ hs14 (by have:=fx0 eL14; omega) (by decide))) ?_
 rintro v18 G18 μ18 hG18 ⟨L18,ov18,eL18,rfl⟩
 refine mV rfl rfl ?_
 refine Go.Tan.b1 rfl Fx.se24 Fx.zv5 (.u rfl) rfl rfl (by decide) ?_; intro b20
 have lL18:L18.length=6:=by have:=fx0 eL14; have:=fx2 eL18; omega
 refine apY rfl Fx.se24 Fx.zv5 (.u rfl) (.u rfl) tk1 (Sc.one .here) (by show _+1≤_; omega) ?_
 intro v21 L21 ov21 eL21
 have lL21:L21.length=L18.length+1:=by rw [eL21,List.length_append]; first|rfl | simp [yl_len]
 refine aS rfl rfl (.nil (.code (.ret (We.fin Tryz.results31 (.tmp rfl .nil) (mS .here rfl mN) ?_))))
 exact ⟨L21,by rw [eL21,eL18,eL14]; rfl,rfl⟩
end Go.Proofs.YtdeobooblmjlfaaGreatDoor
