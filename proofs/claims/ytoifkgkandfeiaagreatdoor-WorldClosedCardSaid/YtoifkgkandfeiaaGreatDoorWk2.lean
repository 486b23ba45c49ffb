/- Lemmas and contracts of functions, joined. -/
import Derived.Test.YtoifkgkandfeiaaGreatDoorWk1
import Derived.Laws.CopyRow
import Derived.Lib.AppendStr
import Derived.Laws.IdiomStrings
import Derived.Control
import Derived.Lib.IndexMore
import Derived.Deep.Draws
import Derived.Sort.Grow
import Derived.Lib.IndexBytes
set_option linter.unusedSimpArgs false
set_option linter.unusedVariables false
set_option linter.unusedSectionVars false
namespace Go.Tan
open Go.RowKit
theorem vB {xs ys:List Value} (h1:∀ u∈xs,u.oneCell'=true) (h2:∀ u∈ys,u.oneCell'=true):∀ u∈xs++ys,u.oneCell'=true:=by
 intro u hu; rcases List.mem_append.1 hu with h | h
 ·exact h1 u h
 ·exact h2 u h
theorem gR {n:Nat} {y:Nat→W} {r:List Value} {j:Int} {o:Nat} (a:Nat) (hj:o+j.toNat*1=a) (h:a<n):(wa n y++r)[o+j.toNat*1]? = some (U (y a)):=by
 rw [hj,List.getElem?_append_left (by rw [cC]; exact h)]; exact aAr h
theorem rL {n:Nat} {y:Nat→W} {r:List Value} {j:Int} {z:W} {o:Nat} (a:Nat) (hj:o+j.toNat*1=a) (h:a<n):(wa n y++r).set (o+j.toNat*1) (U z)=wa n (bG y a z)++r:=by
 rw [hj,List.set_append_left _ _ (by rw [cC]; exact h)]; rw [aKu]
theorem aV {n o:Nat} {y:Nat→W} {r:List Value} {v:Option Value} (h:r[o-n]? = v) (hn:n≤o:=by decide):(wa n y++r)[o]? = v:=by
 rw [List.getElem?_append_right (by rw [cC]; exact hn),cC]; exact h
theorem aKw {n o:Nat} {y:Nat→W} {r r':List Value} {v:Value} (h:r.set (o-n) v=r') (hn:n≤o:=by decide):(wa n y++r).set o v=wa n y++r':=by
 rw [List.set_append_right _ _ (by rw [cC]; exact hn),cC,h]
theorem aRF {xs:List Y} {j:Int} {o:Nat} (a:Nat) (hj:o+j.toNat*1=a) (h:a<xs.length):(xs.map V)[o+j.toNat*1]? = some (V (xs.getD a 0)):=by
 rw [hj]; simp [h]
theorem aVC {n:Nat} {f f':Nat→W} (h:∀ i,i<n→f i=f' i):wa n f=wa n f':=by
 unfold wa
 refine List.map_congr_left fun i hi=>?_
 rw [h i (List.mem_range.1 hi)]
def nP (x:W) (k:Nat):W:=x <<< (32-k) ||| x >>> k
theorem aTY {x:W} {k:Nat} (h:k∈[2,6,7,11,13,17,18,19,22,25]):aJq x (-(k:Int))=nP x k:=by
 simp only [List.mem_cons,List.not_mem_nil,or_false] at h
 rcases h with rfl|rfl|rfl|rfl|rfl|rfl|rfl|rfl|rfl|rfl<;>rfl
def kL:List W:=[0x428a2f98,0x71374491,0xb5c0fbcf,0xe9b5dba5,0x3956c25b,0x59f111f1,0x923f82a4,0xab1c5ed5,0xd807aa98,0x12835b01,0x243185be,0x550c7dc3,0x72be5d74,0x80deb1fe,0x9bdc06a7,0xc19bf174,0xe49b69c1,0xefbe4786,0x0fc19dc6,0x240ca1cc,0x2de92c6f,0x4a7484aa,0x5cb0a9dc,0x76f988da,0x983e5152,0xa831c66d,0xb00327c8,0xbf597fc7,0xc6e00bf3,0xd5a79147,0x06ca6351,0x14292967,0x27b70a85,0x2e1b2138,0x4d2c6dfc,0x53380d13,0x650a7354,0x766a0abb,0x81c2c92e,0x92722c85,0xa2bfe8a1,0xa81a664b,0xc24b8b70,0xc76c51a3,0xd192e819,0xd6990624,0xf40e3585,0x106aa070,0x19a4c116,0x1e376c08,0x2748774c,0x34b0bcb5,0x391c0cb3,0x4ed8aa4a,0x5b9cca4f,0x682e6ff3,0x748f82ee,0x78a5636f,0x84c87814,0x8cc70208,0x90befffa,0xa4506ceb,0xbef9a3f7,0xc67178f2]
def kW:Nat→W:=fun i=>kL.getD i 0
def ivL:List W:=[1779033703,3144134277,1013904242,2773480762,1359893119,2600822924,528734635,1541459225]
def ivW:Nat→W:=fun i=>ivL.getD i 0
def beW (b:Nat→Y) (i:Nat):W:=(b i).setWidth 32 <<< 24 ||| (b (i+1)).setWidth 32 <<< 16 ||| (b (i+2)).setWidth 32 <<< 8 ||| (b (i+3)).setWidth 32
def shB (f:Nat→Y) (i:Nat):Nat→W
 | 0=>0#32
 | c+1=>shB f i c <<< 8 ||| (f (4*i+c)).setWidth 32
theorem aTx (f:Nat→Y) (i:Nat):shB f i 4=beW f (4*i):=by
 simp only [shB,beW,BitVec.shiftLeft_or_distrib,←BitVec.shiftLeft_add,Nat.add_zero]
 simp [BitVec.shiftLeft_or_distrib,←BitVec.shiftLeft_add,BitVec.or_assoc]
def s0W (x:W):W:=nP x 7 ^^^ nP x 18 ^^^ x >>> 3
def s1W (x:W):W:=nP x 17 ^^^ nP x 19 ^^^ x >>> 10
def nT (b:Nat→Y):Nat→Nat→W
 | 0=>fun _=>0#32
 | k+1=>bG (nT b k) k (beW b (4*k))
def nQ (b:Nat→Y):Nat→Nat→W
 | 0=>nT b 16
 | k+1=>bG (nQ b k) (16+k) (nQ b k k+nQ b k (9+k)+s0W (nQ b k (1+k))+s1W (nQ b k (14+k)))
def chW (e f g:W):W:=g ^^^ (e &&& (f ^^^ g))
def aRA (a b c:W):W:=a &&& b ||| c &&& (a ||| b)
def tW (x:Nat→W) (k w:W):W:=x 7+(nP (x 4) 6 ^^^ nP (x 4) 11 ^^^ nP (x 4) 25)+chW (x 4) (x 5) (x 6)+k+w
def uW (x:Nat→W):W:=(nP (x 0) 2 ^^^ nP (x 0) 13 ^^^ nP (x 0) 22)+aRA (x 0) (x 1) (x 2)
def aJo (x:Nat→W) (k w:W):Nat→W:=fun i=>match i with
 | 0=>tW x k w+uW x | 1=>x 0 | 2=>x 1 | 3=>x 2 | 4=>x 3+tW x k w | 5=>x 4 | 6=>x 5 | _=>x 6
def aCZ (w s:Nat→W):Nat→Nat→W
 | 0=>s
 | k+1=>aJo (aCZ w s k) (kW k) (w k)
def rE (s:Nat→W) (b:Nat→Y):Nat→W:=fun i=>s i+aCZ (nQ b 48) s 64 i
def zT (xs:List Y) (k:Nat):Nat→Y:=fun i=>xs.getD (64*k+i) 0
def fK (xs:List Y):Nat→Nat→W
 | 0=>ivW
 | k+1=>rE (fK xs k) (zT xs k)
theorem aKj {b b':Nat→Y} (h:∀ i,i<64→b i=b' i):∀ k,k≤16→nT b k=nT b' k
 | 0,_=>rfl
 | k+1,hk=>by
  rw [nT,nT,aKj h k (by omega)]
  unfold beW
  rw [h _ (by omega),h _ (by omega),h _ (by omega),h _ (by omega)]
theorem aJ0 {b b':Nat→Y} (h:∀ i,i<64→b i=b' i):∀ k,nQ b k=nQ b' k
 | 0=>aKj h 16 (by omega)
 | k+1=>by rw [nQ,nQ,aJ0 h k]
theorem aE6 {s:Nat→W} {b b':Nat→Y} (h:∀ i,i<64→b i=b' i):rE s b=rE s b':=by
 unfold rE; rw [aJ0 h]
theorem aTy {xs ys:List Y} {k:Nat} (h:∀ i,i<64*k→xs.getD i 0=ys.getD i 0):fK xs k=fK ys k:=by
 induction k with
 | zero=>rfl
 | succ k ih =>
  rw [fK,fK,ih (fun i hi=>h i (by omega))]
  exact aE6 fun i hi=>h _ (by omega)
theorem aE8 {xs ys:List Y} {k:Nat} (h:64*k≤xs.length):fK (xs++ys) k=fK xs k :=
 aTy fun i hi=>by simp [List.getD_eq_getElem?_getD,List.getElem?_append_left (show i<xs.length by omega)]
def pU (n:Nat):Nat:=(119-n%64)%64
def aQm (n:Nat):BitVec 64:=BitVec.ofInt 64 (n:Int)*8#64
def aEW (n:Nat) (j:Nat):Y:=(aQm n >>> (56-8*j)).setWidth 8
def tF (n j:Nat):List Y:=(List.range j).map (aEW n)
def aAp (n:Nat):List Y:=128#8 :: List.replicate (pU n) 0#8++tF n 8
def aJG (xs:List Y):List Y:=xs++aAp xs.length
theorem aIU (n j:Nat):(tF n j).length=j:=by simp [tF]
theorem aQo (n j:Nat):tF n (j+1)=tF n j++[aEW n j]:=by simp [tF,List.range_succ]
theorem aUa (n:Nat):(aAp n).length=pU n+9:=by simp [aAp,aIU]
def lH (xs:List Y):Nat→Y:=fun i=>((fK (aJG xs) ((aJG xs).length / 64) (i / 4)) >>> (24-8*(i%4))).setWidth 8
def aE7 (xs:List Y):List Y:=yl 32 (lH xs)
def gQ (xs:List Y) (vp:Value):List Value:=wa 8 (fK xs (xs.length / 64))++[vp,.int .i64 (xs.length:Int)]
def dW (xs:List Y):List Y:=xs.drop (64*(xs.length / 64))
theorem xU (xs:List Y):(dW xs).length=xs.length%64:=by simp [dW]; omega
theorem aKk (b:Nat→Y):∀ (k j:Nat),k≤j→nT b k j=0#32
 | 0,_,_=>rfl
 | k+1,j,h=>by rw [nT,bG,if_neg (by omega)]; exact aKk b k j (by omega)
theorem aUz (b:Nat→Y) {k j:Nat} (h:k≤j):bG (nT b k) j 0#32=nT b k:=by
 have:=aKg (nT b k) j
 rwa [aKk b k j h] at this
theorem aPr {xs:List Y} {lo m c:Nat} (h:c<m):((xs.drop lo).take m).getD c 0=xs.getD (lo+c) 0:=by
 simp [List.getD_eq_getElem?_getD,List.getElem?_take,h,List.getElem?_drop]
theorem aUy {s x:Nat→W} {k:Nat}:bG (fun i=>if i<k then s i+x i else s i) k ((if k<k then s k+x k else s k)+x k)=fun i=>if i<k+1 then s i+x i else s i:=by
 funext i
 unfold bG
 by_cases h:i=k
 ·subst h; simp
 ·rw [if_neg h]
  by_cases h2:i<k
  ·simp [h2,show i<k+1 by omega]
  ·simp [h2,show ¬ i<k+1 by omega]
theorem sW {dr:Bool} {mc:Md} {P:Program} {n:Fm} {l:List Oper} {K:aJ→PM→aG→Prop} {i:Nat} {σ:List Nat} {ρ:aJ} {G:PM} {μ:aG} {t:Nat} {p:String} {af:Array Edge} {T T':TypeId} {x y:Operand} {b:Nat} {v:Value} {cs vs:List Value} {μ':aG} (ho:nth l i=some ⟨none,.store T x y,t,p,af,none⟩) (hx:ev ρ x=some (true,.pointer (some ⟨b,0,none⟩))) (hy:ev ρ y=some (true,v)) (hv:v.cells=vs.toArray) (hz:cE P T=some vs.length) (hm:MTake μ (.blk b (cl cs T')) μ') (h:Wo dr mc P n l K σ ρ G (.blk b (cl vs T') :: μ')) (hl:vs.length=cs.length:=by first | exact qE | exact qL | rfl) (h1:∀ u∈vs,u.oneCell'=true:=by first | exact lX _ _ | exact tO _ _ | exact aAd _ | decide | exact vB (tO _ _) (by simp [Value.oneCell'])):Wo dr mc P n l K (i :: σ) ρ G μ:=sw ho (.u hx) (.u hy) hv hz hm hl h1 h
def dQ (n:BitVec 64) (many:Nat):List Y:=(List.range many).map fun j=>(n >>> (8*j)).setWidth 8
theorem fP (n:BitVec 64) (many:Nat):(dQ n many).length=many:=by simp [dQ]
theorem aPd (n:BitVec 64) (k:Nat):dQ n (k+1)=dQ n k++[(n >>> (8*k)).setWidth 8]:=by simp [dQ,List.range_succ]
def kZ (key nonce:Nat→Y) (count:W) (xs:List Y) (m:Nat):List Y:=yl xs.length fun i=>if i<m then uN key nonce count xs i else xs.getD i 0
theorem aHF (key nonce:Nat→Y) (count:W) (xs:List Y) (m:Nat):(kZ key nonce count xs m).length=xs.length:=cR _ _
theorem aAx {n:Nat} {f f':Nat→Y} (h:∀ i,i<n→f i=f' i):yl n f=yl n f':=by
 unfold yl
 refine List.map_congr_left fun i hi=>?_
 rw [h i (List.mem_range.1 hi)]
theorem aCr (xs:List Y):yl xs.length (fun i=>xs.getD i 0)=xs:=by
 refine List.ext_getElem? fun i=>?_
 by_cases h:i<xs.length
 ·simp [yl,h]
 simp [yl,h]
theorem aVb {n j:Nat} {f:Nat→Y} {z:Y}:(yl n f).set j z=yl n (bG f j z):=by
 refine List.ext_getElem? fun i=>?_
 rw [List.getElem?_set]
 by_cases h:j=i
 ·subst h
  by_cases hj:j<n
  ·simp [yl,bG,hj]
  simp [yl,hj]
 simp only [if_neg h]
 by_cases hi:i<n
 ·simp [yl,bG,hi,show ¬ i=j from fun e=>h e.symm]
 simp [yl,hi]
theorem aOS (key nonce:Nat→Y) (count:W) (xs:List Y):kZ key nonce count xs 0=xs:=by
 unfold kZ
 rw [aAx (f':=fun i=>xs.getD i 0) (fun i _=>by simp),aCr]
theorem aOQ {key nonce:Nat→Y} {count:W} {xs:List Y} {m:Nat} (h:xs.length≤m):kZ key nonce count xs m=jN key nonce count xs:=by
 unfold kZ jN
 exact aAx fun i hi=>by rw [if_pos (by omega)]
theorem aOR {key nonce:Nat→Y} {count:W} {xs:List Y} {j i:Nat} (hi:i<64) (hl:64*j+i<xs.length) :
  (kZ key nonce count xs (64*j+i)).set (64*j+i) ((kZ key nonce count xs (64*j+i)).getD (64*j+i) 0 ^^^ qQ key nonce (count+BitVec.ofNat 32 j) i)=kZ key nonce count xs (64*j+(i+1)):=by
 unfold kZ
 rw [aK8 hl,if_neg (by omega),aVb]
 refine aAx fun q hq=>?_
 unfold bG
 by_cases h:q=64*j+i
 ·rw [if_pos h,if_pos (by omega),h]
  unfold uN
  rw [show (64*j+i) / 64=j by omega,show (64*j+i)%64=i by omega]
 rw [if_neg h]
 show (if q<64*j+i then uN key nonce count xs q else xs.getD q 0)=_
 by_cases h2:q<64*j+i
 ·rw [if_pos h2,if_pos (by omega)]
 rw [if_neg h2,if_neg (by omega)]
def uR (key:List Y):List Y:=if key.length > 64 then aE7 key else key
def eU (key:List Y) (by':Y):Nat→Y:=fun i=>if i<(uR key).length then by' ^^^ (uR key).getD i 0 else by'
def tG (key xs:List Y):Nat→Y:=lH (yl 64 (eU key 92#8)++aE7 (yl 64 (eU key 54#8)++xs))
def aUY (ad nonce crossed:List Y):List Y:=dQ (BitVec.ofInt 64 (ad.length:Int)) 8++ad++nonce++crossed
def vK (mac nonce:Nat→Y) (ad crossed:List Y):Nat→Y:=tG (yl 32 mac) (aUY ad (yl 12 nonce) crossed)
def mH (enc mac nonce:Nat→Y) (ad text:List Y):List Y:=jN enc nonce 1#32 text++yl 16 (vK mac nonce ad (jN enc nonce 1#32 text))
def rA (enc mac nonce:Nat→Y) (ad s:List Y):Option (List Y) :=
 if s.length<16 then none
 else if yl 16 (vK mac nonce ad (s.take (s.length-16)))=s.drop (s.length-16) then some (jN enc nonce 1#32 (s.take (s.length-16))) else none
theorem wX (key nonce:Nat→Y) (count:W) (xs:List Y):(jN key nonce count xs).length=xs.length:=cR _ _
theorem aCb (enc mac nonce:Nat→Y) (ad text:List Y):(mH enc mac nonce ad text).length=text.length+16:=by simp [mH,wX,cR]
theorem aOT {key nonce:Nat→Y} {count:W} {xs:List Y} {j i:Nat} (h:i=min (xs.length-64*j) 64):kZ key nonce count xs (64*j+i)=kZ key nonce count xs (64*(j+1)):=by
 unfold kZ
 refine aAx fun q hq=>?_
 by_cases h1:q<64*j+i
 ·rw [if_pos h1,if_pos (by omega)]
 rw [if_neg h1,if_neg (by omega)]
theorem aOd {b o lo cap:Nat} (h:lo<cap) {q:Nat} (hq:q=o+lo):(Sh.cut ⟨some ⟨b,o,none⟩,cap⟩ lo 1).oa=some ⟨b,q,none⟩:=by
 subst hq
 unfold Sh.cut
 rw [if_neg (by show ¬ cap=lo; omega)]
 simp [jB]
theorem aSR {enc mac nonce:Nat→Y} {ad s:List Y} (h:s.length<16):rA enc mac nonce ad s=none:=by unfold rA; rw [if_pos h]
theorem aSP {enc mac nonce:Nat→Y} {ad s:List Y} (h:16≤s.length) (hn:¬ yl 16 (vK mac nonce ad (s.take (s.length-16)))=s.drop (s.length-16)):rA enc mac nonce ad s=none:=by
 unfold rA; rw [if_neg (by omega),if_neg hn]
theorem aI9 {enc mac nonce:Nat→Y} {ad s:List Y} (h:16≤s.length) (hn:yl 16 (vK mac nonce ad (s.take (s.length-16)))=s.drop (s.length-16)):rA enc mac nonce ad s=some (jN enc nonce 1#32 (s.take (s.length-16))):=by
 unfold rA; rw [if_neg (by omega),if_pos hn]
theorem aOa (key nonce:Nat→Y) (count:W) (xs:List Y):jN key nonce count (jN key nonce count xs)=xs:=by
 conv=>rhs; rw [← aCr xs]
 rw [jN,wX]
 refine aAx fun i hi=>?_
 unfold uN
 rw [show (jN key nonce count xs).getD i 0=uN key nonce count xs i from aK8 hi]
 unfold uN
 rw [BitVec.xor_assoc,BitVec.xor_self,BitVec.xor_zero]
theorem aSQ (enc mac nonce:Nat→Y) (ad text:List Y):rA enc mac nonce ad (mH enc mac nonce ad text)=some text:=by
 have hl:=aCb enc mac nonce ad text
 have hc:=wX enc nonce 1#32 text
 have ht:(mH enc mac nonce ad text).take ((mH enc mac nonce ad text).length-16)=jN enc nonce 1#32 text:=by
  rw [hl,show text.length+16-16=(jN enc nonce 1#32 text).length by omega]; exact List.take_left
 have hd:(mH enc mac nonce ad text).drop ((mH enc mac nonce ad text).length-16)=yl 16 (vK mac nonce ad (jN enc nonce 1#32 text)):=by
  rw [hl,show text.length+16-16=(jN enc nonce 1#32 text).length by omega]; exact List.drop_left
 rw [aI9 (by omega) (by rw [ht,hd]),ht,aOa]
def aNI (o:Option (List Y)) (L:List Y) (e:Int):Prop:=(o=some L∧e=0)∨(o=none∧L=[]∧e=60)
section
variable {dr:Bool} {mc:Md} {P:Program} {n:Fm} {l:List Oper} {K:aJ→PM→aG→Prop} {i:Nat} {σ:List Nat} {ρ:aJ} {G:PM} {μ:aG}
variable {d t:Nat} {p:String} {af:Array Edge} {g:Option (Nat×Bool)} {c:Bool}
theorem apF {T E b o m cap:Nat} {x y:Operand} {u:Value} {xs ys:List Y} (hdf:mc.a=false∨dr=false) (ho:nth l i=some ⟨some d,.call { callee:=.builtin .append,args:=#[x,y],argTypes:=#[T,T] },t,p,af,none⟩)
  (hT:bJ P T=some (E,1,1)) (hz:(P.info? E).bind (·.zero)=some (.int .u8 0)) (hx:Ev ρ true x (.slice (some ⟨b,o,none⟩) m cap)) (hy:Ev ρ true y u) (hold:SlR G 1 aN ⟨some ⟨b,o,none⟩,cap⟩ xs) (hm:xs.length=m) (hs:Sc G μ u ys) (h0:0<ys.length) (hg:cap<m+ys.length) (hb:xs.length+ys.length≤140737488355328)
  (h:∀ v' L,v'.oneCell'=true→L=xs++ys→Wo dr mc P n l K σ ((d,true,v') :: ρ) G (rB v' E L :: μ)):Wo dr mc P n l K (i :: σ) ρ G μ:=by
 subst hm
 obtain ⟨oa,cp,rfl,hr⟩:=hs.ex
 clear hs
 obtain ⟨b2,o2,rfl,hrd⟩:=hr h0
 refine .act (μ₁:=[]) (μ₂:=μ) (post:=fun G' μ' v'=>G'=G∧v'.oneCell'=true∧μ'=[rB v' E (xs++ys)]) ho (by rcases hdf with h | h<;>simp [bI,h]) .no (.refl _) (fun a w ha hs=>.inl ?_) ?_
 ·obtain ⟨hu,inf,hi,hs1,hb1⟩:=fG hT
  have hz':=hz
  rw [hi] at hz'
  simp only [Option.bind_some] at hz'
  have hnews:∀ j u,(ys.map V)[j]? = some u→w.cell? ((⟨b2,o2,none⟩ : Addr).add j)=some u:=fun j u hj=>by rw [jB]; exact hrd j u hj w hs
  have holds:∀ j u,(xs.map V)[j]? = some u→w.cell? ((⟨b,o,none⟩ : Addr).add j)=some u:=fun j u hj=>by
   rw [jB]
   have h1:=SlR.flat (enc:=aN) (fun _ _=>rfl) hold
   rw [sY] at h1
   exact h1 j u hj w hs.sub
  have hrun:=run_append_grow (P:=P) w T t E inf _ hu hi hz' ⟨b,o,none⟩ xs.length cap (xs.map V) (by rw [hs1]; simp) holds ⟨b2,o2,none⟩ ys.length cp (ys.map V) (by rw [hs1]; simp) hnews (by omega) (by omega) (growslice_fits (by omega) (by rw [hb1]; omega))
  have h2:=((eQ (Sat.left (μ:=[]) hs)).drew).alloc (.cells ((xs.map V).toArray++(ys.map V).toArray++Builtin.zeroCells (Value.int .u8 0).cells (grownCap w (xs.length+ys.length) cap E-(xs.length+ys.length))) E)
  have hge:=grownCap_ge w (xs.length+ys.length) cap E
  have h3:=h2.asRow (m:=xs.length+ys.length) (cap:=grownCap w (xs.length+ys.length) cap E) (sz:=1) (xs:=(xs++ys).map V) (by simp) hge (grownCap_le_maxLen w (xs.length+ys.length) cap E (by unfold maxLen; omega)) (by
   simp only [Array.size_append,List.size_toArray,size_zeroCells,List.length_map]
   have:(Value.int .u8 0).cells.size=1:=rfl
   rw [this]; omega) (by rw [Array.toList_append,Array.toList_append,List.map_append]; exact List.take_left' (by simp))
  refine ⟨_,_,G,_,.inl (by simp [execOp,resolve,invoke,builtin,hx.eval ha rfl,hy.eval ha rfl,hrun]; rfl),h3,rfl,rfl,?_⟩
  simp [rB]
 rintro v' G' μ'' _ ⟨rfl,h1,rfl⟩
 exact h v' _ h1 rfl
theorem kM {α:Type} {enc:α→List Value} {T e sz by':Nat} {x y z:Operand} {s:Sh} {xs:List α} (hi:Nat) (ho:nth l i=some ⟨some d,.slice T x none (some y) (some z),t,p,af,none⟩) (hT:bJ P T=some (e,sz,by')) (hs:SlR G sz enc s xs)
  (hx:Ev ρ true x (s.val xs.length)) (hy:Ev ρ true y (.int .i64 hi)) (hz:Ev ρ true z (.int .i64 hi)) (h1:hi≤xs.length)
  (h:∀ s' L,L=xs.take hi→L.length=hi→SlR G sz enc s' L→Wo dr mc P n l K σ ((d,true,s'.val L.length) :: ρ) G μ):Wo dr mc P n l K (i :: σ) ρ G μ:=by
 have hl:(xs.take hi).length=hi:=by simp; omega
 have htake:SlR G sz enc ⟨s.oa,hi⟩ (xs.take hi):=by
  refine ⟨fun hne=>hs.there (fun e=>hne (by rw [e]; simp)),by rw [hl]; exact Nat.le_refl _,fun j u hj=>?_⟩
  rw [List.getElem?_take] at hj
  split at hj
  ·exact hs.rd j u hj
  cases hj
 have h2:=h _ _ rfl hl htake
 rw [hl] at h2
 refine .pure ho (.inl rfl) .no (fun hc a w ha=>?_) h2
 obtain ⟨hu,inf,hi',rfl,rfl⟩:=fG hT
 have hx':=hx.eval ha hc
 simp only [Sh.val] at hx'
 have e3:=hs.le
 have hid:∀ oa:Option Addr,oa.map (fun a=>a.add 0)=oa:=fun oa=>by cases oa<;>simp [aBh]
 have e4:hi≤s.cap:=by omega
 simp [execOp,hx',hy.eval ha hc,hz.eval ha hc,Instr.sliceAt,run_underlying hu,Instr.slice,Instr.sliceBounds,Instr.sliceBound,asIntOf,e4,sizeOf,typeInfo,hi',Sh.val,hid]
theorem mAq {T T':TypeId} {x y:Operand} {k:IntKind} {a1 a2:Int} (q:Int) (ho:nth l i=some ⟨some d,.call { callee:=.builtin .max,args:=#[x,y],argTypes:=#[T,T'] },t,p,af,none⟩) (hx:Ev ρ true x (.int k a1)) (hy:Ev ρ true y (.int k a2)) (he:(if a2 > a1 then a2 else a1)=q)
  (h:Wo dr mc P n l K σ ((d,true,.int k q) :: ρ) G μ):Wo dr mc P n l K (i :: σ) ρ G μ:=mA ho .no hx hy (by rw [he]; exact h)
theorem aFS {f:FuncId} {args:Array Value} {b:Nat} {o:Obj} {Q:aG→Value→Prop} (h:PM.le G (G.add b o)→Ct P f args (G.add b o) μ (fun _ μ' u=>Q μ' u)):Ct P f args G (.blk b o :: μ) (fun _ μ' u=>∃ ν,μ'=.blk b o :: ν∧Q ν u):=by
 intro w hs
 exact rT (h (PM.le_add (hs.apart b (by simp [keys,Res.keys])))) w hs
theorem aNN {s s':Sh} {m:Nat} (h:s.val m=s'.val m):s=s':=by
 cases s; cases s'; simp only [Sh.val,Value.slice.injEq,true_and] at h; rw [h.1,h.2]
end
section
variable {dr:Bool} {mc:Md} {P:Program} {n:Fm} {l:List Oper} {K:aJ→PM→aG→Prop} {i:Nat} {σ:List Nat} {ρ:aJ} {G:PM} {μ:aG}
variable {d t:Nat} {p:String} {af:Array Edge} {g:Option (Nat×Bool)} {c:Bool}
theorem aJu {T m:Nat} {s:Sh} (hT:(bJ P T).isSome=true) (w:World):(Op.equal T (s.val m) (.slice none 0 0)).run P w=.ok s.oa.isNone w:=by
 unfold bJ at hT
 split at hT
 ·rename_i e hu
  unfold Op.equal
  rw [show Op.maxDepth=9999+1 from rfl,Op.equalIn]
  obtain ⟨oa,cap⟩:=s
  cases oa<;>simp [run_underlying hu,Sh.val]
 ·cases hT
theorem rI {T T' m:Nat} {x y:Operand} {s:Sh} (ho:nth l i=some ⟨some d,.binOp .eql T x y T',t,p,af,g⟩) (hg:Gd l ρ g c) (hT:(bJ P T).isSome=true) (hx:Ev ρ c x (s.val m)) (hy:Ev ρ c y (.slice none 0 0)) (h:Wo dr mc P n l K σ ((d,c,.bool s.oa.isNone) :: ρ) G μ):Wo dr mc P n l K (i :: σ) ρ G μ :=
 .pure ho (.inl rfl) hg (fun hc q w ha=>by
  have hq:(eqGuard .eql T x y (s.val m) (.slice none 0 0)).run P w=.ok () w:=by unfold eqGuard; simp [Sh.val]
  have hb:(binOp .eql T (s.val m) (.slice none 0 0)).run P w=.ok (.bool s.oa.isNone) w:=by
   have:=aJu (P:=P) (s:=s) (m:=m) hT w
   simp only [Sh.val] at this ⊢
   simp [binOp,this]
  simp [execOp,hx.eval ha hc,hy.eval ha hc,hq,hb]) h
theorem sn1 {T T' m:Nat} {x y:Operand} {s:Sh} (ho:nth l i=some ⟨some d,.binOp .neq T x y T',t,p,af,g⟩) (hg:Gd l ρ g c) (hT:(bJ P T).isSome=true) (hx:Ev ρ c x (s.val m)) (hy:Ev ρ c y (.slice none 0 0)) (h:Wo dr mc P n l K σ ((d,c,.bool (!s.oa.isNone)) :: ρ) G μ):Wo dr mc P n l K (i :: σ) ρ G μ :=
 .pure ho (.inl rfl) hg (fun hc q w ha=>by
  have hq:(eqGuard .neq T x y (s.val m) (.slice none 0 0)).run P w=.ok () w:=by unfold eqGuard; simp [Sh.val]
  have hb:(binOp .neq T (s.val m) (.slice none 0 0)).run P w=.ok (.bool (!s.oa.isNone)) w:=by
   have:=aJu (P:=P) (s:=s) (m:=m) hT w
   simp only [Sh.val] at this ⊢
   simp [binOp,this]
  simp [execOp,hx.eval ha hc,hy.eval ha hc,hq,hb]) h
theorem or8 {a b:Nat} (h1:a<256) (h2:b<256):BitVec.ofInt 64 (a:Int) ||| BitVec.ofInt 64 ((256*b:Nat):Int)=BitVec.ofNat 64 (a+256*b):=by
 have e1:BitVec.ofInt 64 (a:Int)=BitVec.ofNat 64 a:=by simp
 have e2:BitVec.ofInt 64 ((256*b:Nat):Int)=BitVec.ofNat 64 (256*b):=BitVec.ofInt_natCast ..
 rw [e1,e2]
 apply BitVec.eq_of_toNat_eq
 rw [BitVec.toNat_or,BitVec.toNat_ofNat,BitVec.toNat_ofNat,BitVec.toNat_ofNat,Nat.mod_eq_of_lt (by omega),Nat.mod_eq_of_lt (by omega),Nat.mod_eq_of_lt (by omega)]
 have:=Nat.two_pow_add_eq_or_of_lt (i:=8) (b:=a) (by omega) b
 rw [show (2:Nat)^8=256 from rfl] at this
 rw [show a ||| 256*b=256*b ||| a from Nat.or_comm _ _,←this,Nat.add_comm]
theorem aSW {T T':Nat} {x y:Operand} {a1 a2:Int} (a b:Nat) (ho:nth l i=some ⟨some d,.binOp .or T x y T',t,p,af,g⟩) (hg:Gd l ρ g c) (hx:Ev ρ c x (.int .i64 a1)) (hy:Ev ρ c y (.int .i64 a2)) (e1:c=true→a1=a) (e2:c=true→a2=(256*b:Nat)) (h1:a<256) (h2:b<256)
  (h:Wo dr mc P n l K σ ((d,c,.int .i64 ((a+256*b:Nat):Int)) :: ρ) G μ):Wo dr mc P n l K (i :: σ) ρ G μ :=
 .pure ho (.inl rfl) hg (fun hc q w ha=>by
  have e1':=e1 hc; have e2':=e2 hc
  subst e1'; subst e2'
  have hb:(binOp .or T (.int .i64 (a:Int)) (.int .i64 ((256*b:Nat):Int))).run P w=.ok (.int .i64 ((a+256*b:Nat):Int)) w:=by
   have h3:=or8 h1 h2
   have h4:IntKind.i64.wrap ((BitVec.ofNat 64 (a+256*b)).toNat:Int)=((a+256*b:Nat):Int):=by
    rw [BitVec.toNat_ofNat,Nat.mod_eq_of_lt (by omega)]
    exact eV (by omega) (by omega)
   have h5:(Op.intBits .or .i64 (a:Int) ((256*b:Nat):Int))=pure (.int .i64 (IntKind.i64.wrap ((BitVec.ofInt 64 (a:Int) ||| BitVec.ofInt 64 ((256*b:Nat):Int)).toNat:Int))):=rfl
   have h6:binOp .or T (.int .i64 (a:Int)) (.int .i64 ((256*b:Nat):Int))=Op.intBits .or .i64 (a:Int) ((256*b:Nat):Int):=rfl
   rw [h6,h5,h3,h4]; rfl
  simp only [execOp,hx.eval ha hc,hy.eval ha hc,Sem.run_bind,jD,Result.andThen_ok,hb]; rfl) h
theorem aT9 {A C:List Value} {o m:Nat} (h1:o+C.length≤m) (h2:m≤A.length):(A.take o++C++A.drop (o+C.length)).take m=(A.take m).take o++C++(A.take m).drop (o+C.length):=by
 have hl:(A.take o++C).length=o+C.length:=by rw [List.length_append,List.length_take]; omega
 rw [List.take_append,List.take_of_length_le (by omega),hl,List.take_take,Nat.min_eq_left (by omega),List.drop_take]
theorem sO {T E b o m cap m2 cap2:Nat} {x y:Operand} {u:Value} {xs ys:List Y} {μ':aG} (ho:nth l i=some ⟨some d,.call { callee:=.builtin .copy,args:=#[x,y],argTypes:=#[T,T] },t,p,af,none⟩)
  (hT:bJ P T=some (E,1,1)) (hx:Ev ρ true x (.slice (some ⟨b,o,none⟩) m2 cap2)) (hy:Ev ρ true y u) (hm:MTake μ (rB (.slice (some ⟨b,0,none⟩) m cap) E xs) μ') (hsc:Sc G μ u ys) (ho2:o+m2=xs.length) (hfit:ys.length≤m2)
  (h:∀ L,L=xs.take o++ys++xs.drop (o+ys.length)→L.length=xs.length→Wo dr mc P n l K σ ((d,true,.int .i64 (ys.length:Int)) :: ρ) G (rB (.slice (some ⟨b,0,none⟩) m cap) E L :: μ')):Wo dr mc P n l K (i :: σ) ρ G μ:=by
 obtain ⟨oa,cap3,rfl,hr⟩:=hsc.ex
 refine .act (μ₁:=[rB (.slice (some ⟨b,0,none⟩) m cap) E xs]) (μ₂:=μ') (post:=fun G' μ' v=>G'=G∧μ'=[rB (.slice (some ⟨b,0,none⟩) m cap) E (xs.take o++ys++xs.drop (o+ys.length))]∧v=.int .i64 (ys.length:Int)) ho (.inl rfl) .no hm.perm (fun a w ha hs=>.inl ?_) ?_
 ·have hs':=hs.left
  have hrow:w.ownsRow 0 E 1 (.slice (some ⟨b,0,none⟩) m cap) xs.length (xs.map V):=hs'.own _ (List.mem_singleton.2 rfl)
  obtain ⟨hu,inf,hi,hs1,hb1⟩:=fG hT
  rcases hrow.2 with ⟨e,_⟩ | ⟨g,cap',cur,e,_,hg,hnc,hcm,hcs,htake⟩
  ·cases e
  simp only [Value.slice.injEq,Option.some.injEq,Addr.mk.injEq,and_true,true_and] at e
  obtain ⟨rfl,rfl,rfl⟩:=e
  have hk:keys [rB (.slice (some ⟨b,0,none⟩) xs.length cap) E xs]=[b]:=by simp [keys,Res.keys,Value.ownBlock]
  have hsat:Sat G [.blk b (.cells cur E (0,0))] w:=⟨hs'.sub,fun r hr=>by rw [List.mem_singleton.1 hr]; exact hg,fun c hc=>hs'.apart c (by simpa [keys,Res.keys,Value.ownBlock] using hc),by simp [keys,Res.keys]⟩
  simp only [Nat.mul_one] at hcs htake
  by_cases h0:ys.length=0
  ·obtain rfl:ys=[]:=List.eq_nil_of_length_eq_zero h0
   have e1:xs.take o++[]++xs.drop (o+([]:List Y).length)=xs:=by simp
   rw [e1]
   refine ⟨_,w,G,_,.inl ?_,eQ hs',rfl,rfl,rfl⟩
   have hz:(P.info? E).map (·.size)=some 1:=by rw [hi]; simp [hs1]
   cases oa with
   | none=>simp [execOp,resolve,invoke,builtin,hx.eval ha rfl,hy.eval ha rfl,Builtin.copy_,run_underlying hu,Builtin.lenOf,Builtin.firstCells,sizeOf,typeInfo,hi,storeCells,goInt]
   | some a0=>simp [execOp,resolve,invoke,builtin,hx.eval ha rfl,hy.eval ha rfl,Builtin.copy_,run_underlying hu,Builtin.lenOf,Builtin.firstCells,sizeOf,typeInfo,hi,storeCells,goInt,loadCells,loadCellsFrom]
  obtain ⟨b0,o0,rfl,hrd⟩:=hr (by omega)
  have hsat0:Sat G μ w:=hs.perm hm.perm.symm
  have hrun:=run_copy_row (P:=P) w T T t E b o m2 cap2 ⟨b0,o0,none⟩ ys.length cap3 cur E (ys.map V) hu (by rw [hi]; simp [hs1]) hg (by rw [List.length_map]; exact (Nat.min_eq_left hfit).symm)
   (fun j v hj=>by rw [jB]; exact hrd j v hj w hsat0) (by rw [List.length_map,hcs]; omega) (aAd ys)
  rw [List.length_map] at hrun
  have h2:=(zQ (cs':=(cur.toList.take o++ys.map V++cur.toList.drop (o+ys.length)).toArray) hsat).asRow (m:=xs.length) (cap:=cap) (sz:=1) (xs:=(xs.take o++ys++xs.drop (o+ys.length)).map V) (by simp; omega) hnc hcm ?_ ?_
  ·have hl:(xs.take o++ys++xs.drop (o+ys.length)).length=xs.length:=by simp; omega
   refine ⟨_,w.setRow b (cur.toList.take o++ys.map V++cur.toList.drop (o+ys.length)).toArray,G,[rB (.slice (some ⟨b,0,none⟩) xs.length cap) E (xs.take o++ys++xs.drop (o+ys.length))],.inl ?_,?_,rfl,rfl,rfl⟩
   ·simp only [execOp,resolve,invoke,builtin,hx.eval ha rfl,hy.eval ha rfl]
    simp [hx.eval ha rfl,hy.eval ha rfl,hrun,goInt]
   rw [hk]; simp only [rB,hl]; exact h2
  ·simp; omega
  have hml:(ys.map V).length=ys.length:=List.length_map ..
  have:=aT9 (A:=cur.toList) (C:=ys.map V) (o:=o) (m:=xs.length) (by omega) (by have:cur.toList.length=cur.size:=Array.length_toList ..; omega)
  rw [htake,hml] at this
  simp only [Nat.mul_one,List.map_append,List.map_take,List.map_drop]
  exact this
 rintro v G' μ'' _ ⟨rfl,rfl,rfl⟩
 exact h _ rfl (by simp; omega)
theorem bF {r r':Res} {μ1 ν:aG} (h:MTake μ r' μ1) (e:r'.keys=r.keys) (hs:∀ b∈keys ν,b∈keys μ1):∀ b∈keys (r :: ν),b∈keys μ:=by
 intro b hb
 have h1:b∈r.keys++keys ν:=by simpa [keys] using hb
 refine (xG h.perm).mem_iff.2 ?_
 show b∈keys (r' :: μ1)
 have h2:b∈r'.keys++keys μ1:=by
  rcases List.mem_append.1 h1 with h1 | h1
  ·exact List.mem_append_left _ (by rw [e]; exact h1)
  exact List.mem_append_right _ (hs b h1)
 simpa [keys] using h2
theorem eT:∀ b∈keys [],b∈keys μ:=fun b hb=>by cases hb
abbrev rS {α:Type} (sz:Nat) (enc:α→List Value) (v:Value) (E:Nat) (xs:List α):Res:=.row v E sz xs.length (xs.flatMap enc)
theorem aNk {α:Type} {enc:α→List Value} {sz T E by' b cp:Nat} {x y:Operand} {v z:Value} {xs:List α} {μ' μ2:aG} (a:α) (ho:nth l i=some ⟨some d,.call { callee:=.builtin .append,args:=#[x,y],argTypes:=#[T,T] },t,p,af,g⟩) (hg:Gd l ρ g true)
  (hT:bJ P T=some (E,sz,by')) (hz:(P.info? E).bind (·.zero)=some z) (hzs:z.cells.size=sz) (hx:Ev ρ true x v) (hy:Ev ρ true y (.slice (some ⟨b,0,none⟩) 1 cp)) (hm:MTake μ (rS sz enc v E xs) μ') (hb:MTake μ (.blk b (cl (enc a) E)) μ2) (ha:(enc a).length=sz) (h1:∀ u∈enc a,u.oneCell'=true) (hl:(xs.length+1)*by'≤140737488355328) (hl2:xs.length+1≤maxLen)
  (h:∀ v',v'.oneCell'=true→Wo dr mc P n l K σ ((d,true,v') :: ρ) G (rS sz enc v' E (xs++[a]) :: μ')) (hmc:mc.a=false∨dr=false:=by first|exact .inl rfl|exact .inr rfl):Wo dr mc P n l K (i :: σ) ρ G μ:=by
 refine .act (μ₁:=[rS sz enc v E xs]) (μ₂:=μ') (post:=fun G' μ' v'=>G'=G∧v'.oneCell'=true∧μ'=[rS sz enc v' E (xs++[a])]) ho (by rcases hmc with h | h<;>simp [bI,h]) hg hm.perm (fun q w hq hs=>.inl ?_) ?_
 ·obtain ⟨v',w',hrun,ht⟩:=xX (ty:=t) (cp:=cp) (news:=enc a) (k:=1) (oa:=some ⟨b,0,none⟩) hT hz hzs hs.left (by rw [ha]; omega) (fun _=>⟨b,0,rfl,fun j u hj=>(RdN.own hb) j u hj w (hs.perm hm.perm.symm)⟩) h1 hl hl2
  refine ⟨v',w',G,[rS sz enc v' E (xs++[a])],.inl (by simp [execOp,resolve,invoke,builtin,hx.eval hq rfl,hy.eval hq rfl,hrun]),?_,rfl,ht.sat.rowOne,rfl⟩
  simp only [rS,List.length_append,List.flatMap_append,List.flatMap_cons,List.flatMap_nil,List.append_nil]; exact ht
 rintro v' G' μ'' _ ⟨rfl,h1,rfl⟩
 exact h v' h1
theorem oC {α:Type} {enc:α→List Value} {sz T E by' b cp:Nat} {x y:Operand} {v z:Value} {xs:List α} {μ' μ2:aG} (a:α) (ho:nth l i=some ⟨some d,.call { callee:=.builtin .append,args:=#[x,y],argTypes:=#[T,T] },t,p,af,none⟩)
  (hT:bJ P T=some (E,sz,by')) (hz:(P.info? E).bind (·.zero)=some z) (hzs:z.cells.size=sz) (hx:Ev ρ true x v) (hy:Ev ρ true y (.slice (some ⟨b,0,none⟩) 1 cp)) (hm:MTake μ (rS sz enc v E xs) μ') (hb:MTake μ (.blk b (cl (enc a) E)) μ2) (ha:(enc a).length=sz) (h1:∀ u∈enc a,u.oneCell'=true) (hl:(xs.length+1)*by'≤140737488355328) (hl2:xs.length+1≤maxLen)
  (h:∀ v',v'.oneCell'=true→Wo dr mc P n l K σ ((d,true,v') :: ρ) G (rS sz enc v' E (xs++[a]) :: μ')) (hmc:mc.a=false∨dr=false:=by first|exact .inl rfl|exact .inr rfl):Wo dr mc P n l K (i :: σ) ρ G μ:=aNk a ho .no hT hz hzs hx hy hm hb ha h1 hl hl2 h hmc
theorem Tr.frzS {α:Type} {enc:α→List Value} {sz:Nat} {G0:PM} {K0:List Nat} {w0 w:World} {E:Nat} {v:Value} {xs:List α} (hsz:∀ x∈xs,(enc x).length=sz) (h:Tr G0 K0 w0 G (rS sz enc v E xs :: μ) w) (hK:∀ b∈K0,b∈keys μ) :
  ∃ G' s,PM.le G G'∧v=Sh.val s xs.length∧SlR G' sz enc s xs∧Tr G0 K0 w0 G' μ w:=by
 obtain ⟨G',s,h1,h2,h3,h4,h5,h6⟩:=h.freezeRow hK
 exact ⟨G',s,h1,h2,SlR.ofRow hsz h3 h4 h5,h6⟩
theorem aAu {α:Type} {enc:α→List Value} {sz:Nat} {X:Cx} {e:Exit} {k:List KI} {E:Nat} {v:Value} {xs:List α} {μ':aG} (hm:MTake μ (rS sz enc v E xs) μ') (hsz:∀ x∈xs,(enc x).length=sz) (hK:∀ b∈X.K0,b∈keys μ') (h:∀ G' s,PM.le G G'→v=Sh.val s xs.length→SlR G' sz enc s xs→We X e k ρ G' μ'):We X e k ρ G μ :=
 ⟨fun a w ha ht=>by
  obtain ⟨G',s,h1,h2,h3,h4⟩:=(ht.perm hm.perm).frzS hsz hK
  exact (h G' s h1 h2 h3).out a w ha h4⟩
theorem rN {α:Type} {enc:α→List Value} {sz:Nat} {X:Cx} {cd:Code} {k:List KI} {E:Nat} {v:Value} {xs:List α} {μ':aG} (hm:MTake μ (rS sz enc v E xs) μ') (hsz:∀ x∈xs,(enc x).length=sz) (hK:∀ b∈X.K0,b∈keys μ') (h:∀ G' s,PM.le G G'→v=Sh.val s xs.length→SlR G' sz enc s xs→Wk X cd k ρ G' μ'):Wk X cd k ρ G μ :=
 ⟨fun a w ha ht=>by
  obtain ⟨G',s,h1,h2,h3,h4⟩:=(ht.perm hm.perm).frzS hsz hK
  exact (h G' s h1 h2 h3).out a w ha h4⟩
theorem rO {α:Type} (sz:Nat) (enc:α→List Value) {X:Cx} {cd:Code} {k:List KI} (E:Nat) (h:Wk X cd k ρ G (rS sz enc (.slice none 0 0) E [] :: μ)):Wk X cd k ρ G μ:=aCo E sz h
structure AllS (G:PM) (ps:List (Sh×List Y)):Prop where
 all:∀ p∈ps,SlR G 1 aN p.1 p.2
theorem AllS.mono {G G':PM} {ps:List (Sh×List Y)} (h:AllS G ps) (hle:PM.le G G'):AllS G' ps:=⟨fun p hp=>(h.all p hp).mono hle⟩
theorem AllS.nil {G:PM}:AllS G []:=⟨fun p hp=>by cases hp⟩
theorem aFO {G:PM} {ps:List (Sh×List Y)} {s:Sh} {L:List Y} (h:AllS G ps) (hs:SlR G 1 aN s L):AllS G (ps++[(s,L)]):=⟨fun p hp=>by
 rcases List.mem_append.1 hp with hp | hp
 ·exact h.all p hp
 ·rw [List.mem_singleton.1 hp]; exact hs⟩
theorem SlP.of {G:PM} {s:Sh} {ps:List (Sh×List Y)} (h:SlR G 1 pE s ps) (hA:AllS G ps):SlP G s ps:=⟨h,hA.all⟩
theorem zP {G:PM}:SlP G ⟨Option.none,0⟩ []:=⟨SlR.nul,fun p hp=>by cases hp⟩
theorem slr {T e sz by' b m cap:Nat} {x y:Operand} {k:IntKind} {lo:Int} (q:Nat) (ho:nth l i=some ⟨some d,.slice T x (some y) none none,t,p,af,none⟩) (hT:bJ P T=some (e,sz,by')) (hx:Ev ρ true x (.slice (some ⟨b,0,none⟩) m cap)) (hy:Ev ρ true y (.int k lo))
  (hq:lo=q) (h1:q≤m) (h2:m≤cap) (h3:q<cap) (h:Wo dr mc P n l K σ ((d,true,.slice (some ⟨b,q*sz,none⟩) (m-q) (cap-q)) :: ρ) G μ):Wo dr mc P n l K (i :: σ) ρ G μ :=
 .pure ho (.inl rfl) .no (fun _ a w ha=>by
  obtain ⟨hu,inf,hi,rfl,rfl⟩:=fG hT
  subst hq
  have hx':=hx.eval ha rfl
  have hn:¬ cap=q:=by omega
  simp [execOp,hx',hy.eval ha rfl,Instr.sliceAt,run_underlying hu,Instr.slice,Instr.sliceBounds,Instr.sliceBound,asIntOf,sizeOf,typeInfo,hi,h1,h2,hn,jB]) h
theorem apL {α:Type} {enc:α→List Value} {sz T E by':Nat} {x y:Operand} {v z:Value} {s:Sh} {xs ys:List α} {μ':aG} (ho:nth l i=some ⟨some d,.call { callee:=.builtin .append,args:=#[x,y],argTypes:=#[T,T] },t,p,af,none⟩)
  (hT:bJ P T=some (E,sz,by')) (hz:(P.info? E).bind (·.zero)=some z) (hzs:z.cells.size=sz) (hx:Ev ρ true x v) (hy:Ev ρ true y (s.val ys.length)) (hm:MTake μ (rS sz enc v E xs) μ') (hs:SlR G sz enc s ys) (hsz:∀ a∈ys,(enc a).length=sz) (h1:∀ u∈ys.flatMap enc,u.oneCell'=true) (hl:(xs.length+ys.length)*by'≤140737488355328) (hl2:xs.length+ys.length≤maxLen)
  (h:∀ v',v'.oneCell'=true→Wo dr mc P n l K σ ((d,true,v') :: ρ) G (rS sz enc v' E (xs++ys) :: μ')) (hmc:mc.a=false∨dr=false:=by first|exact .inl rfl|exact .inr rfl):Wo dr mc P n l K (i :: σ) ρ G μ:=by
 refine .act (μ₁:=[rS sz enc v E xs]) (μ₂:=μ') (post:=fun G' μ' v'=>G'=G∧v'.oneCell'=true∧μ'=[rS sz enc v' E (xs++ys)]) ho (by rcases hmc with h | h<;>simp [bI,h]) .no hm.perm (fun q w hq hs'=>.inl ?_) ?_
 ·obtain ⟨v',w',hrun,ht⟩:=xX (ty:=t) (cp:=s.cap) (news:=ys.flatMap enc) (k:=ys.length) (oa:=s.oa) hT hz hzs hs'.left (xD hsz) (fun h0=>⟨s.b,s.o,hs.nn h0,fun j u hj=>((SlR.flat hsz hs).rd (μ:=μ)) j u hj w (hs'.perm hm.perm.symm)⟩) h1 hl hl2
  refine ⟨v',w',G,[rS sz enc v' E (xs++ys)],.inl ?_,?_,rfl,ht.sat.rowOne,rfl⟩
  ·have hy':=hy.eval hq rfl
   simp only [Sh.val] at hy'
   simp [execOp,resolve,invoke,builtin,hx.eval hq rfl,hy',hrun]
  simp only [rS,List.length_append,List.flatMap_append]; exact ht
 rintro v' G' μ'' _ ⟨rfl,h1,rfl⟩
 exact h v' h1
end
theorem aDl (a b:ByteArray):(a == b)=decide (a=b):=by
 rcases a with ⟨a⟩; rcases b with ⟨b⟩
 show (a == b)=_
 by_cases h:a=b
 ·subst h; simp
 ·rw [decide_eq_false (fun q=>h (by cases q; rfl))]
  exact beq_eq_false_iff_ne.2 h
abbrev FE:=ByteArray×Value×Nat
def mE (e:FE):MapEntry:=⟨.string e.1,e.2.1,e.2.2⟩
def mO (es:List FE) (clk:Nat):Obj:=.map (es.map mE).toArray clk
def fJ (k:ByteArray):List FE→Option Value
 | []=>none
 | e :: r=>if e.1=k then some e.2.1 else fJ k r
def oK (k:ByteArray) (v:Value):List FE→List FE
 | []=>[]
 | e :: r=>if e.1=k then (e.1,v,e.2.2) :: r else e :: oK k v r
def qX (k:ByteArray):List FE→List FE
 | []=>[]
 | e :: r=>if e.1=k then r else e :: qX k r
def nB (k:ByteArray):List FE→Nat→Option (Nat×Value)
 | [],_=>none
 | e :: r,i=>if e.1=k then some (i,e.2.1) else nB k r (i+1)
theorem aAH {k:ByteArray}:∀ (es:List FE) (i:Nat),Instr.findNow .string (.string k) (es.map mE) i=some (nB k es i)
 | [],i=>rfl
 | e :: es,i=>by
  rw [List.map_cons,Instr.findNow,nB]
  by_cases h:e.1=k
  ·rw [if_pos h]; simp only [Instr.sameNow,mE,h,aDl,decide_true]
  ·rw [if_neg h]
   have:(k == e.1)=false:=by rw [aDl]; exact decide_eq_false fun q=>h q.symm
   simp only [Instr.sameNow,mE,this]
   exact aAH es (i+1)
theorem aB3 {k:ByteArray}:∀ {es:List FE} {i:Nat},nB k es i=none→fJ k es=none
 | [],_,_=>rfl
 | e :: es,i,h=>by
  unfold nB at h; unfold fJ
  split at h
  ·cases h
  ·rename_i q; rw [if_neg q]; exact aB3 h
theorem aAI {k:ByteArray} {j:Nat} {v:Value}:∀ {es:List FE} {i:Nat},nB k es i=some (j,v)→i≤j∧fJ k es=some v∧(∃ e,es[j-i]? = some e∧e.1=k) ∧
  (∀ u,((es.map mE).modify (j-i) fun e=>{ e with key:=.string k,val:=u })=(oK k u es).map mE)∧((es.map mE).eraseIdx (j-i)=(qX k es).map mE)
 | e :: es,i,h=>by
  unfold nB at h
  split at h
  ·rename_i q
   simp only [Option.some.injEq,Prod.mk.injEq] at h
   obtain ⟨rfl,rfl⟩:=h
   refine ⟨Nat.le_refl _,by rw [fJ,if_pos q],⟨e,by simp,q⟩,fun u=>?_,?_⟩
   ·rw [Nat.sub_self,oK,if_pos q]
    simp [mE,q]
   rw [Nat.sub_self,qX,if_pos q]; simp
  rename_i q
  obtain ⟨h1,h2,⟨e',h3,h4⟩,h5,h6⟩:=aAI h
  have hj:j-i=(j-(i+1))+1:=by omega
  refine ⟨by omega,by rw [fJ,if_neg q]; exact h2,⟨e',by rw [hj]; simpa using h3,h4⟩,fun u=>?_,?_⟩
  ·rw [hj,oK,if_neg q,List.map_cons,List.map_cons,List.modify_succ_cons,h5 u]
  rw [hj,qX,if_neg q,List.map_cons,List.map_cons,List.eraseIdx_cons_succ,h6]
def pL (P:Program) (T:TypeId):Option TypeId :=
 match P.underlying T with
 | some (.map k e)=>match P.underlying k with
  | some .string=>some e
  | _=>none
 | _=>none
theorem aAW {P:Program} {T e:TypeId} (h:pL P T=some e):∃ k,P.underlying T=some (.map k e)∧P.underlying k=some .string:=by
 unfold pL at h
 split at h
 ·rename_i k e' hu
  split at h
  ·rename_i hk
   simp only [Option.some.injEq] at h
   subst h
   exact ⟨k,hu,hk⟩
  ·cases h
 ·cases h
theorem aBl {P:Program} {T:TypeId} (hT:P.underlying T=some .string) (e:Bool) (n:Nat) (k:ByteArray) (w:World):(Instr.checkKey e (n+1) T (.string k)).run P w=.ok () w:=by
 rw [Instr.checkKey]; simp [run_underlying hT]
theorem Tr.setO {G:PM} {w:World} {b:Nat} {o o':Obj} (hs:Sat G [.blk b o] w):Tr G (keys [.blk b o]) w G [.blk b o'] { w with heap:=w.heap.setIfInBounds b o' }:=by
 have h3:w.heap[b]? = some o:=hs.own (.blk b o) (List.mem_singleton.2 rfl)
 have hlt:b<w.heap.size:=(Array.getElem?_eq_some_iff.1 h3).1
 have hG:G b=none:=hs.apart b (by simp [keys,Res.keys])
 refine ⟨⟨fun c o hc=>?_,fun r hr=>?_,fun c hc=>?_,by simp [keys,Res.keys]⟩,rfl,rfl,rfl,by simp,fun c _ hc=>⟨?_,rfl⟩,fun c hc=>.inl hc,fun _ _ _ h=>h⟩
 ·show (w.heap.setIfInBounds b _)[c]? = _
  rw [Array.getElem?_setIfInBounds_ne (fun e=>by subst e; rw [hG] at hc; cases hc)]
  exact hs.sub c o hc
 ·rw [List.mem_singleton.1 hr]
  show (w.heap.setIfInBounds b _)[b]? = _
  simp [hlt]
 ·simp only [keys,Res.keys,List.flatMap_cons,List.flatMap_nil,List.append_nil,List.mem_singleton] at hc
  rw [hc]; exact hG
 show (w.heap.setIfInBounds b _)[c]? = _
 rw [Array.getElem?_setIfInBounds_ne (fun e=>by subst e; exact hc (by simp [keys,Res.keys]))]
theorem Tr.setT {G0 G:PM} {K0:List Nat} {w0 w:World} {b:Nat} {o o':Obj} (ht:Tr G0 K0 w0 G [.blk b o] w) (hb:b∈K0):Tr G0 K0 w0 G [.blk b o'] { w with heap:=w.heap.setIfInBounds b o' }:=by
 have h1:=Tr.setO (o':=o') ht.sat
 refine ⟨h1.sat,h1.os.trans ht.os,h1.tape.trans ht.tape,h1.output.trans ht.output,Nat.le_trans ht.size h1.size,fun c hc hn=>?_,ht.mine,ht.le⟩
 have h2:=ht.old c hc hn
 refine ⟨?_,h2.2⟩
 rw [← h2.1]
 show (w.heap.setIfInBounds b _)[c]? = _
 rw [Array.getElem?_setIfInBounds_ne (fun e=>by subst e; exact hn hb)]
def NxR (es:List FE) (seen:List Nat):Option FE→Prop
 | none=>∀ e∈es,e.2.2∈seen
 | some e=>e∈es∧¬ e.2.2∈seen
def nxT:Option FE→Array Value
 | none=>#[.bool false]
 | some e=>#[.bool true,.string e.1,e.2.1]
def xR (o:Option FE):Value:=.tuple (nxT o)
theorem aSC (o:Option FE):(nxT o).toList[0]? = some (.bool o.isSome):=by cases o<;>rfl
def iR (bm since last:Nat) (seen:List Nat):Obj:=.mapIter (some bm) since seen.toArray last
def nxI (bm since last clk:Nat) (seen:List Nat):Option FE→Obj
 | none=>iR bm since last seen
 | some e=>iR bm since clk (seen++[e.2.2])
theorem aTh {P:Program} {n:Nat} (hn:0<n) (w:World):∃ j w',(choose (.mapNext n)).run P w=.ok j w'∧j<n∧(w'=w∨w' = { w with drawn:=w.drawn+1 }):=by
 by_cases hf:(Question.mapNext n).forced=true
 ·exact ⟨0,w,by simp [choose,Sem.run,hf],hn,.inl rfl⟩
 ·exact ⟨(Question.mapNext n).cut (w.tape w.drawn (.mapNext n)),{ w with drawn:=w.drawn+1 },by simp [choose,Sem.run,hf],Nat.mod_lt _ hn,.inr rfl⟩
section
variable {dr:Bool} {mc:Md} {P:Program} {n:Fm} {l:List Oper} {K:aJ→PM→aG→Prop} {i:Nat} {σ:List Nat} {ρ:aJ} {G:PM} {μ:aG}
variable {d t:Nat} {p:String} {af:Array Edge} {g:Option (Nat×Bool)} {c:Bool}
theorem mkM {T:TypeId} (ho:nth l i=some ⟨some d,.makeMap T none,t,p,af,none⟩) (h:∀ b,Wo dr mc P n l K σ ((d,true,.map (some b)) :: ρ) G (.blk b (mO [] 0) :: μ)):Wo dr mc P n l K (i :: σ) ρ G μ:=by
 refine .act (μ₁:=[]) (μ₂:=μ) (post:=fun G' μ' v=>∃ b,G'=G∧μ'=[.blk b (mO [] 0)]∧v=.map (some b)) ho (.inl rfl) .no (.refl _) (fun a w ha hs=>.inl ?_) ?_
 ·have h0:Tr G (keys []) w G (.blk w.heap.size (.map #[] 0) :: []) (w.alloc (.map #[] 0)):=(eQ (Sat.left (μ:=[]) hs)).alloc _
  exact ⟨.map (some w.heap.size),w.alloc (.map #[] 0),G,[.blk w.heap.size (mO [] 0)],.inl (by simp [execOp,Instr.makeMap]),h0,w.heap.size,rfl,rfl,rfl⟩
 rintro v G' μ'' _ ⟨b,rfl,rfl,rfl⟩
 exact h b
theorem aJy {T e b clk:Nat} {es:List FE} {k:ByteArray} {z:Value} {w:World} {ok:Bool} (hT:pL P T=some e) (hz:(P.info? e).bind (·.zero)=some z) (h3:w.heap[b]? = some (mO es clk)) :
  (Instr.lookup T (.map (some b)) (.string k) ok).run P w=.ok (if ok then .tuple #[(fJ k es).getD z,.bool (fJ k es).isSome] else (fJ k es).getD z) w:=by
 obtain ⟨kt,h1,h2⟩:=aAW hT
 have hzv:(zeroValue e).run P w=.ok z w:=by
  cases hi:P.info? e with
  | none=>rw [hi] at hz; cases hz
  | some inf =>
   rw [hi] at hz
   simp only [Option.bind_some] at hz
   simp [zeroValue,typeInfo,hi,hz]
 have hgo:(getObj b).run P w=.ok (.map (es.map mE).toArray clk) w:=by simp [getObj,Sem.run,h3,mO]
 have h6:=aAH (k:=k) es 0
 simp only [Instr.lookup,Sem.run_bind,run_underlying h1,Result.andThen_ok,hgo,Sem.run_pure,aBl h2,Instr.findKey,run_underlying h2,h6]
 cases hf:nB k es 0 with
 | none=>rw [aB3 hf]; cases ok<;>simp [hzv]
 | some jv =>
  obtain ⟨j,v⟩:=jv
  rw [(aAI hf).2.1]; cases ok<;>simp
theorem lkS {T e b clk:Nat} {x y:Operand} {es:List FE} {k:ByteArray} {z:Value} (ho:nth l i=some ⟨some d,.lookup T x y false,t,p,af,g⟩) (hg:Gd l ρ g c) (hT:pL P T=some e) (hz:(P.info? e).bind (·.zero)=some z) (hx:Ev ρ c x (.map (some b))) (hy:Ev ρ c y (.string k))
  (hmap:∀ w,Sat G μ w→w.heap[b]? = some (mO es clk)) {v:Value} (hv:(fJ k es).getD z=v) (h:Wo dr mc P n l K σ ((d,c,v) :: ρ) G μ):Wo dr mc P n l K (i :: σ) ρ G μ :=
 .read ho (.inl rfl) hg (fun hc a w ha hs=>by
  have h3:w.heap[b]? = some (mO es clk):=hmap w hs
  simp [execOp,hx.eval ha hc,hy.eval ha hc,aJy (ok:=false) hT hz h3,hv]) h
theorem aCD {T e b clk:Nat} {x y:Operand} {es:List FE} {k:ByteArray} {z:Value} (ho:nth l i=some ⟨some d,.lookup T x y true,t,p,af,g⟩) (hg:Gd l ρ g c) (hT:pL P T=some e) (hz:(P.info? e).bind (·.zero)=some z) (hx:Ev ρ c x (.map (some b))) (hy:Ev ρ c y (.string k))
  (hmap:∀ w,Sat G μ w→w.heap[b]? = some (mO es clk)) {v:Value} {q:Bool} (hv:(fJ k es).getD z=v) (hq:(fJ k es).isSome=q) (h:Wo dr mc P n l K σ ((d,c,.tuple #[v,.bool q]) :: ρ) G μ):Wo dr mc P n l K (i :: σ) ρ G μ :=
 .read ho (.inl rfl) hg (fun hc a w ha hs=>by
  have h3:w.heap[b]? = some (mO es clk):=hmap w hs
  simp [execOp,hx.eval ha hc,hy.eval ha hc,aJy (ok:=true) hT hz h3,hv,hq]) h
theorem muS {T e b clk:Nat} {x y z:Operand} {es:List FE} {k:ByteArray} {v:Value} {μ':aG} (ho:nth l i=some ⟨none,.mapUpdate T x y z,t,p,af,none⟩) (hT:pL P T=some e) (hx:Ev ρ true x (.map (some b))) (hy:Ev ρ true y (.string k)) (hz:Ev ρ true z v)
  (hm:MTake μ (.blk b (mO es clk)) μ') (hn:fJ k es=none) (h:Wo dr mc P n l K σ ρ G (.blk b (mO (es++[(k,v,clk)]) (clk+1)) :: μ')):Wo dr mc P n l K (i :: σ) ρ G μ:=by
 refine .act (μ₁:=[.blk b (mO es clk)]) (μ₂:=μ') (post:=fun G' μ' u=>G'=G∧μ'=[.blk b (mO (es++[(k,v,clk)]) (clk+1))]∧u=undef) ho (.inl rfl) .no hm.perm (fun a w ha hs=>.inl ?_) ?_
 ·have h3:w.heap[b]? = some (mO es clk):=hs.left.own (.blk b (mO es clk)) (List.mem_singleton.2 rfl)
  obtain ⟨kt,h1,h2⟩:=aAW hT
  have hgo:(getObj b).run P w=.ok (.map (es.map mE).toArray clk) w:=by simp [getObj,Sem.run,h3,mO]
  have hset:∀ o,(setObj b o).run P w=.ok () { w with heap:=w.heap.setIfInBounds b o }:=fun o=>by simp [setObj,Sem.run,h3,mO]
  have h6:=aAH (k:=k) es 0
  have h7:nB k es 0=none:=by
   cases hf:nB k es 0 with
   | none=>rfl
   | some jv=>rw [(aAI (j:=jv.1) (v:=jv.2) hf).2.1] at hn; cases hn
  refine ⟨undef,_,G,_,.inr ⟨?_,rfl⟩,Tr.setO hs.left,rfl,rfl,rfl⟩
  simp only [execOp,hx.eval ha rfl,hy.eval ha rfl,hz.eval ha rfl,Instr.mapUpdate,Sem.run_bind,run_underlying h1,Result.andThen_ok,hgo,Sem.run_pure,aBl h2,Instr.findKey,run_underlying h2,h6,h7,hset]
  simp [mO,mE]
 rintro u G' μ'' _ ⟨rfl,rfl,rfl⟩
 exact h
theorem muT {T e b clk:Nat} {x y z:Operand} {es:List FE} {k:ByteArray} {v v0:Value} {μ':aG} (ho:nth l i=some ⟨none,.mapUpdate T x y z,t,p,af,none⟩) (hT:pL P T=some e) (hx:Ev ρ true x (.map (some b))) (hy:Ev ρ true y (.string k)) (hz:Ev ρ true z v)
  (hm:MTake μ (.blk b (mO es clk)) μ') (hn:fJ k es=some v0) (h:Wo dr mc P n l K σ ρ G (.blk b (mO (oK k v es) clk) :: μ')):Wo dr mc P n l K (i :: σ) ρ G μ:=by
 refine .act (μ₁:=[.blk b (mO es clk)]) (μ₂:=μ') (post:=fun G' μ' u=>G'=G∧μ'=[.blk b (mO (oK k v es) clk)]∧u=undef) ho (.inl rfl) .no hm.perm (fun a w ha hs=>.inl ?_) ?_
 ·have h3:w.heap[b]? = some (mO es clk):=hs.left.own (.blk b (mO es clk)) (List.mem_singleton.2 rfl)
  obtain ⟨kt,h1,h2⟩:=aAW hT
  have hgo:(getObj b).run P w=.ok (.map (es.map mE).toArray clk) w:=by simp [getObj,Sem.run,h3,mO]
  have hset:∀ o,(setObj b o).run P w=.ok () { w with heap:=w.heap.setIfInBounds b o }:=fun o=>by simp [setObj,Sem.run,h3,mO]
  have h6:=aAH (k:=k) es 0
  cases hf:nB k es 0 with
  | none=>rw [aB3 hf] at hn; cases hn
  | some jv =>
   obtain ⟨j,v1⟩:=jv
   obtain ⟨_,_,⟨e',he1,he2⟩,hm2,_⟩:=aAI hf
   rw [Nat.sub_zero] at hm2 he1
   have he3:((es.map mE).toArray)[j]? = some (mE e'):=by simp [he1]
   have hsb:Instr.sameBits 10000 (.string k) (.string k)=true:=by rw [Instr.sameBits,aDl]; exact decide_eq_true rfl
   refine ⟨undef,_,G,_,.inr ⟨?_,rfl⟩,Tr.setO hs.left,rfl,rfl,rfl⟩
   simp only [execOp,hx.eval ha rfl,hy.eval ha rfl,hz.eval ha rfl,Instr.mapUpdate,Sem.run_bind,run_underlying h1,Result.andThen_ok,hgo,Sem.run_pure,aBl h2,Instr.findKey,run_underlying h2,h6,hf,hset,he3,Option.map_some,Option.getD_some,Instr.keyThatStays]
   have hk:(mE e').key=.string k:=by rw [mE,he2]
   rw [hk,hsb]
   simp only [if_true,Sem.run_pure,Result.andThen_ok,hset]
   have:(es.map mE).toArray.modify j (fun e=>{ e with key:=.string k,val:=v })=((oK k v es).map mE).toArray:=by rw [← hm2 v]; simp
   rw [this]; rfl
 rintro u G' μ'' _ ⟨rfl,rfl,rfl⟩
 exact h
theorem dlS {dd:Option Nat} {T e b clk:Nat} {x y:Operand} {es:List FE} {k:ByteArray} {v0:Value} {μ':aG} {T2:TypeId} (ho:nth l i=some ⟨dd,.call { callee:=.builtin .delete,args:=#[x,y],argTypes:=#[T,T2] },t,p,af,none⟩) (hT:pL P T=some e) (hx:Ev ρ true x (.map (some b))) (hy:Ev ρ true y (.string k))
  (hm:MTake μ (.blk b (mO es clk)) μ') (hn:fJ k es=some v0) (h:Wo dr mc P n l K σ (cS ρ dd true (.tuple #[])) G (.blk b (mO (qX k es) clk) :: μ')):Wo dr mc P n l K (i :: σ) ρ G μ:=by
 refine .act (μ₁:=[.blk b (mO es clk)]) (μ₂:=μ') (post:=fun G' μ' u=>G'=G∧μ'=[.blk b (mO (qX k es) clk)]∧u=.tuple #[]) ho (.inl rfl) .no hm.perm (fun a w ha hs=>.inl ?_) ?_
 ·have h3:w.heap[b]? = some (mO es clk):=hs.left.own (.blk b (mO es clk)) (List.mem_singleton.2 rfl)
  obtain ⟨kt,h1,h2⟩:=aAW hT
  have hgo:(getObj b).run P w=.ok (.map (es.map mE).toArray clk) w:=by simp [getObj,Sem.run,h3,mO]
  have hset:∀ o,(setObj b o).run P w=.ok () { w with heap:=w.heap.setIfInBounds b o }:=fun o=>by simp [setObj,Sem.run,h3,mO]
  have h6:=aAH (k:=k) es 0
  cases hf:nB k es 0 with
  | none=>rw [aB3 hf] at hn; cases hn
  | some jv =>
   obtain ⟨j,v1⟩:=jv
   obtain ⟨_,_,⟨e',he1,he2⟩,_,hm2⟩:=aAI hf
   rw [Nat.sub_zero] at hm2
   have he:((es.map mE).toArray.eraseIdxIfInBounds j)=((qX k es).map mE).toArray:=by
    rw [← hm2]; simp
   refine ⟨.tuple #[],_,G,_,.inl ?_,Tr.setO hs.left,rfl,rfl,rfl⟩
   simp [execOp,resolve,invoke,builtin,hx.eval ha rfl,hy.eval ha rfl,Builtin.delete_,Sem.run_bind,run_underlying h1,hgo,aBl h2,Instr.findKey,run_underlying h2,h6,hf,hset,he,mO]
   rw [hm2]
 rintro u G' μ'' _ ⟨rfl,rfl,rfl⟩
 exact h
theorem uX {b clk:Nat} {es:List FE} {μ':aG} (hm:MTake μ (.blk b (mO es clk)) μ'):∀ w,Sat G μ w→w.heap[b]? = some (mO es clk):=fun w hs=>hs.own (.blk b (mO es clk)) (hm.perm.mem_iff.2 (List.mem_cons_self ..))
theorem aAR {b clk:Nat} {es:List FE} (h:G b=some (mO es clk)):∀ w,Sat G μ w→w.heap[b]? = some (mO es clk):=fun w hs=>hs.sub _ _ h
theorem rgS {T b clk:Nat} {x:Operand} {es:List FE} {e:TypeId} (ho:nth l i=some ⟨some d,.range T x,t,p,af,none⟩) (hT:pL P T=some e) (hx:Ev ρ true x (.map (some b))) (hmap:∀ w,Sat G μ w→w.heap[b]? = some (mO es clk))
  (h:∀ bi,Wo dr mc P n l K σ ((d,true,.pointer (some ⟨bi,0,none⟩)) :: ρ) G (.blk bi (iR b clk clk []) :: μ)):Wo dr mc P n l K (i :: σ) ρ G μ:=by
 refine .act (μ₁:=[]) (μ₂:=μ) (post:=fun G' μ' v=>∃ bi,G'=G∧μ'=[.blk bi (iR b clk clk [])]∧v=.pointer (some ⟨bi,0,none⟩)) ho (.inl rfl) .no (.refl _) (fun a w ha hs=>.inl ?_) ?_
 ·have hsμ:Sat G μ w:=by simpa using hs
  have h3:w.heap[b]? = some (mO es clk):=hmap w hsμ
  obtain ⟨kt,h1,h2⟩:=aAW hT
  have hgo:(getObj b).run P w=.ok (.map (es.map mE).toArray clk) w:=by simp [getObj,Sem.run,h3,mO]
  have h0:Tr G (keys []) w G (.blk w.heap.size (.mapIter (some b) clk #[] clk) :: []) (w.alloc (.mapIter (some b) clk #[] clk)):=(eQ (Sat.left (μ:=[]) hs)).alloc _
  exact ⟨.pointer (some ⟨w.heap.size,0,none⟩),w.alloc (.mapIter (some b) clk #[] clk),G,[_],.inl (by simp [execOp,hx.eval ha rfl,Instr.range,Sem.run_bind,run_underlying h1,hgo]),h0,w.heap.size,rfl,rfl,rfl⟩
 rintro v G' μ'' _ ⟨b,rfl,rfl,rfl⟩
 exact h b
theorem nxS {bi bm since last clk:Nat} {x:Operand} {es:List FE} {seen:List Nat} {μ1:aG} (ho:nth l i=some ⟨some d,.next x false,t,p,af,none⟩) (hx:Ev ρ true x (.pointer (some ⟨bi,0,none⟩))) (hm:MTake μ (.blk bi (iR bm since last seen)) μ1) (hmap:∀ w,Sat G μ w→w.heap[bm]? = some (mO es clk)) (hold:∀ e∈es,e.2.2<since) (hlast:∀ e∈es,e.2.2<last)
  (h:∀ o:Option FE,NxR es seen o→Wo dr mc P n l K σ ((d,true,xR o) :: ρ) G (.blk bi (nxI bm since last clk seen o) :: μ1)):Wo dr mc P n l K (i :: σ) ρ G μ:=by
 refine .act (μ₁:=[.blk bi (iR bm since last seen)]) (μ₂:=μ1) (post:=fun G' μ' v=>∃ o,NxR es seen o∧G'=G∧μ'=[.blk bi (nxI bm since last clk seen o)]∧v=xR o) ho (.inl rfl) .no hm.perm (fun a w ha hs=>.inl ?_) ?_
 ·have hi:w.heap[bi]? = some (iR bm since last seen):=hs.left.own (.blk bi _) (List.mem_singleton.2 rfl)
  have hb:w.heap[bm]? = some (mO es clk):=hmap w (hs.perm hm.perm.symm)
  have hgo:(getObj bm).run P w=.ok (.map (es.map mE).toArray clk) w:=by simp [getObj,Sem.run,hb,mO]
  have hgi:(getObj bi).run P w=.ok (.mapIter (some bm) since seen.toArray last) w:=by simp [getObj,Sem.run,hi,iR]
  have c0:((!seen.toArray.isEmpty && !(es.map mE).toArray.isEmpty)&&(es.map mE).toArray.all (fun e=>decide (e.born≥last)))=false:=by
   cases es with
   | nil=>simp
   | cons e es =>
    have:¬ e.2.2≥last:=by have:=hlast e (List.mem_cons_self ..); omega
    simp [mE,this]
  have e1:((es.map mE).toArray.filter fun e => !seen.toArray.contains e.born)=((es.filter fun e => !seen.contains e.2.2).map mE).toArray:=by
   simp only [List.filter_toArray,List.filter_map,Function.comp_def,mE,List.contains_toArray]
  have e2:(((es.filter fun e => !seen.contains e.2.2).map mE).toArray.filter fun e=>decide (e.born<since))=((es.filter fun e => !seen.contains e.2.2).map mE).toArray:=by
   rw [Array.filter_eq_self.2]
   intro m hm'
   obtain ⟨e,he,rfl⟩:=List.mem_map.1 (List.mem_toArray.1 hm')
   exact decide_eq_true (hold e (List.mem_filter.1 he).1)
  have e3:(((es.filter fun e => !seen.contains e.2.2).map mE).toArray.filter fun e=>decide (e.born≥since)) = #[]:=by
   rw [Array.filter_eq_empty_iff]
   intro m hm'
   obtain ⟨e,he,rfl⟩:=List.mem_map.1 (List.mem_toArray.1 hm')
   have:=hold e (List.mem_filter.1 he).1
   simp [mE]; omega
  generalize hL:(es.filter fun e => !seen.contains e.2.2)=left at e1 e2 e3
  obtain ⟨C,hC⟩ : ∃ C:List (Option MapEntry),C=if left=[] then [none] else left.map fun e=>some (mE e):=⟨_,rfl⟩
  have e4:((if ((left.map mE).toArray).isEmpty then #[none] else #[])++((left.map mE).toArray++#[]).map some:Array (Option MapEntry))=C.toArray:=by
   rw [hC]
   cases left with
   | nil=>simp
   | cons e r=>simp
  have hC0:0<C.toArray.size:=by
   rw [hC]
   split
   ·simp
   rename_i q; simpa using List.length_pos_iff.2 q
  obtain ⟨j,w',hch,hj,hw'⟩:=aTh (P:=P) hC0 w
  have htr:Tr G (keys [.blk bi (iR bm since last seen)]) w G [.blk bi (iR bm since last seen)] w':=by
   rcases hw' with rfl|rfl
   ·exact eQ hs.left
   exact (eQ hs.left).drew
  have hi':w'.heap[bi]? = some (iR bm since last seen):=htr.sat.own (.blk bi _) (List.mem_singleton.2 rfl)
  have hset:∀ o,(setObj bi o).run P w'=.ok () { w' with heap:=w'.heap.setIfInBounds bi o }:=fun o=>by simp [setObj,Sem.run,hi',iR]
  by_cases hl:left=[]
  ·have hCj:C.toArray[j]? = some none:=by
    rw [hC,if_pos hl] at hj ⊢
    simp only [List.size_toArray,List.length_cons,List.length_nil,Nat.zero_add] at hj
    obtain rfl:j=0:=by omega
    rfl
   refine ⟨xR none,w',G,[.blk bi (nxI bm since last clk seen none)],.inl ?_,htr,none,fun e he=>?_,rfl,rfl,rfl⟩
   ·simp only [execOp,hx.eval ha rfl,Instr.next,Sem.run_bind,hgi,hgo,Result.andThen_ok,c0,e1,e2,e3,e4,Bool.false_eq_true,if_false,hch,hCj,Sem.run_pure,xR,nxT]
    try rfl
   have:¬ e∈es.filter fun e => !seen.contains e.2.2:=by rw [hL,hl]; simp
   simpa [List.mem_filter,he] using this
  obtain ⟨e,he⟩ : ∃ e,left[j]? = some e:=by
   rw [hC,if_neg hl] at hj
   exact ⟨_,List.getElem?_eq_getElem (by simpa using hj)⟩
  have hm':e∈es.filter fun e => !seen.contains e.2.2:=by rw [hL]; exact List.mem_of_getElem? he
  have hCj:C.toArray[j]? = some (some (mE e)):=by rw [hC,if_neg hl]; simp [he]
  refine ⟨xR (some e),{ w' with heap:=w'.heap.setIfInBounds bi (iR bm since clk (seen++[e.2.2])) },G,[.blk bi (nxI bm since last clk seen (some e))],.inl ?_,htr.setT (by simp [keys,Res.keys]),some e,?_,rfl,rfl,rfl⟩
  ·have h6:=hset (.mapIter (some bm) since (seen.toArray.push e.2.2) clk)
   simp only [execOp,hx.eval ha rfl,Instr.next,Sem.run_bind,hgi,hgo,Result.andThen_ok,c0,e1,e2,e3,e4,Bool.false_eq_true,if_false,hch,hCj,mE,h6,Sem.run_pure,xR,nxT]
   simp [iR]
  have:=List.mem_filter.1 hm'
  exact ⟨this.1,by simpa using this.2⟩
 rintro v G' μ'' _ ⟨o,h1,rfl,rfl,rfl⟩
 exact h o h1
theorem etS {bi bm since clk stamp:Nat} {x:Operand} {es:List FE} {seen:List Nat} {e:FE} {μ1:aG} (ho:nth l i=some ⟨some d,.entry x,t,p,af,none⟩) (hx:Ev ρ true x (.pointer (some ⟨bi,0,none⟩))) (hm:MTake μ (.blk bi (iR bm since clk (seen++[stamp]))) μ1) (hmap:∀ w,Sat G μ w→w.heap[bm]? = some (mO es clk))
  (hf:es.find? (fun e=>e.2.2 == stamp)=some e) (h:Wo dr mc P n l K σ ((d,true,.tuple #[.string e.1,e.2.1]) :: ρ) G μ):Wo dr mc P n l K (i :: σ) ρ G μ:=by
 refine .act (μ₁:=[]) (μ₂:=μ) (post:=fun G' μ' v=>G'=G∧μ'=[]∧v=.tuple #[.string e.1,e.2.1]) ho (.inl rfl) .no (.refl _) (fun a w ha hs0=>.inl ?_) ?_
 ·have hs:Sat G μ w:=by simpa using hs0
  have hi:w.heap[bi]? = some (iR bm since clk (seen++[stamp])):=hs.own (.blk bi _) (hm.perm.mem_iff.2 (List.mem_cons_self ..))
  have hb:w.heap[bm]? = some (mO es clk):=hmap w hs
  have hgo:(getObj bm).run P w=.ok (.map (es.map mE).toArray clk) w:=by simp [getObj,Sem.run,hb,mO]
  have hgi:(getObj bi).run P w=.ok (.mapIter (some bm) since (seen++[stamp]).toArray clk) w:=by simp [getObj,Sem.run,hi,iR]
  have hfe:((es.map mE).toArray.find? fun e=>e.born == stamp)=some (mE e):=by
   rw [List.find?_toArray,List.find?_map]
   have:((fun e:MapEntry=>e.born == stamp) ∘ mE)=fun e:FE=>e.2.2 == stamp:=rfl
   rw [this,hf]; rfl
  refine ⟨.tuple #[.string e.1,e.2.1],w,G,[],.inl ?_,eQ (Sat.left (μ:=[]) hs0),rfl,rfl,rfl⟩
  have hbk:(seen++[stamp]).toArray.back? = some stamp:=by simp
  simp only [execOp,hx.eval ha rfl,Instr.entry,Sem.run_bind,hgi,Result.andThen_ok,hbk,hgo]
  simp [hfe,mE]
 rintro v G' μ'' _ ⟨rfl,rfl,rfl⟩
 exact h
end
inductive CK where
 | int (k:IntKind)
 | str
 | bool
 deriving DecidableEq
def kH:Value→Lit
 | .int k n=>.int k n
 | .string s=>.string s.data.toList
 | .bool b=>.bool b
 | _=>.bool false
inductive CkOk:CK→Value→Prop where
 | int {k:IntKind} {n:Int} (h1:k.min≤n) (h2:n≤k.max):CkOk (.int k) (.int k n)
 | str {s:ByteArray} (h:s.size≤maxLen):CkOk .str (.string s)
 | bool {b:Bool}:CkOk .bool (.bool b)
inductive Conf:List CK→List Value→Prop where
 | nil:Conf [] []
 | cons {k v ks cs} (h:CkOk k v) (r:Conf ks cs):Conf (k :: ks) (v :: cs)
theorem CkOk.u {k:IntKind} (hk:k.signed=false) (x:BitVec k.bits):CkOk (.int k) (uv k x):=by
 have:=x.isLt
 refine .int ?_ ?_
 ·rw [aIm hk]; omega
 rw [aIk hk]
 have h2:((2^k.bits:Nat):Int)=(2:Int)^k.bits:=by simp
 omega
theorem Conf.len {ks:List CK} {cs:List Value} (h:Conf ks cs):cs.length=ks.length:=by
 induction h with
 | nil=>rfl
 | cons _ _ ih=>simp [ih]
theorem Conf.split {ks ks':List CK}:∀ {cs:List Value},Conf (ks++ks') cs→Conf ks (cs.take ks.length)∧Conf ks' (cs.drop ks.length):=by
 induction ks with
 | nil=>intro cs h; exact ⟨by simpa using Conf.nil,by simpa using h⟩
 | cons k ks ih =>
  intro cs h
  cases h with
  | cons h1 r =>
   obtain ⟨h2,h3⟩:=ih r
   exact ⟨.cons h1 h2,h3⟩
theorem Conf.inj {ks:List CK} {cs cs':List Value} (h:Conf ks cs) (h':Conf ks cs') (e:cs.map kH=cs'.map kH):cs=cs':=by
 induction h generalizing cs' with
 | nil=>cases h'; rfl
 | cons h1 _ ih =>
  cases h' with
  | cons h2 r2 =>
   simp only [List.map_cons,List.cons.injEq] at e
   rw [ih r2 e.2]
   congr 1
   cases h1 with
   | int _ _=>cases h2 with | int _ _=>have:=e.1; simp only [kH,Lit.int.injEq,true_and] at this; rw [this]
   | @str s1 _=>cases h2 with
    | @str s2 _ =>
     have:=e.1
     simp only [kH,Lit.string.injEq] at this
     have h3:s1.data=s2.data:=by
      have:=congrArg List.toArray this
      simpa using this
     obtain ⟨d1⟩:=s1
     obtain ⟨d2⟩:=s2
     simp only at h3
     rw [h3]
   | bool=>cases h2 with | bool=>have:=e.1; simp only [kH,Lit.bool.injEq] at this; rw [this]
def xZ (P:Program) (f:TypeId→Option (List CK)):Nat→List Field→Option (List CK)
 | _,[]=>some []
 | o,fl :: r=>match f fl.type with
  | some ks=>if fl.offset=o∧P.cellsOf fl.type=ks.length then (xZ P f (o+ks.length) r).map (ks++·) else none
  | none=>none
def rF (P:Program):Nat→TypeId→Option (List CK)
 | 0,_=>none
 | d+1,t=>match P.underlying t with
  | some (.int k)=>some [.int k]
  | some .string=>some [.str]
  | some .bool=>some [.bool]
  | some (.array n e)=>match rF P d e with
   | some ks=>if P.cellsOf e=ks.length∧P.cellsOf t=n*ks.length then some (List.replicate n ks).flatten else none
   | none=>none
  | some (.struct fs)=>match xZ P (rF P d) 0 fs.toList with
   | some ks=>if P.cellsOf t=ks.length∧fs.all (·.name != "_")=true then some ks else none
   | none=>none
  | _=>none
theorem aHD {ks:List CK}:∀ {n:Nat} {cs:List Value},Conf (List.replicate n ks).flatten cs→∀ i,i<n→Conf ks ((cs.drop (i*ks.length)).take ks.length)
 | 0,_,_,i,hi=>by omega
 | n+1,cs,h,i,hi=>by
  rw [List.replicate_succ,List.flatten_cons] at h
  obtain ⟨h1,h2⟩:=h.split
  cases i with
  | zero=>simpa using h1
  | succ i =>
   have:=aHD h2 i (by omega)
   rw [List.drop_drop] at this
   rwa [Nat.succ_mul,Nat.add_comm]
theorem aG8 {α:Type} {f:Value→α} {L:Nat}:∀ {n:Nat} {cs:List Value},cs.length=n*L→((List.range n).map fun i=>((cs.drop (i*L)).take L).map f).flatten=cs.map f
 | 0,cs,h=>by
  obtain rfl:cs=[]:=List.eq_nil_of_length_eq_zero (by simpa using h)
  rfl
 | n+1,cs,h=>by
  rw [List.range_succ_eq_map,List.map_cons,List.flatten_cons,List.map_map,Nat.zero_mul,List.drop_zero]
  have h2:=aG8 (f:=f) (L:=L) (n:=n) (cs:=cs.drop L) (by rw [List.length_drop,h,Nat.succ_mul]; omega)
  have e:(List.map ((fun i=>List.map f (List.take L (List.drop (i*L) cs))) ∘ Nat.succ) (List.range n))=(List.range n).map fun i=>(((cs.drop L).drop (i*L)).take L).map f:=by
   apply List.map_congr_left
   intro i _
   simp only [Function.comp,List.drop_drop,Nat.succ_mul,Nat.add_comm]
  rw [e,h2,←List.map_append,List.take_append_drop]
theorem aIi {α β:Type} {f:α→Option β} {g:α→β}:∀ {l:List α},(∀ x∈l,f x=some (g x))→l.mapM f=some (l.map g)
 | [],_=>by simp
 | x :: l,h=>by simp [List.mapM_cons,h x (List.mem_cons_self ..),aIi (l:=l) fun z hz=>h z (List.mem_cons_of_mem _ hz)]
section
variable {P:Program}
theorem aHC {d:Nat} (ih:∀ t ks cs,rF P d t=some ks→Conf ks cs→P.keyLits d t cs=some (cs.map kH)):∀ (fs:List Field) (o:Nat) (ks:List CK) (cs:List Value),xZ P (rF P d) o fs=some ks→Conf ks (cs.drop o) →
  ∃ r,fs.mapM (fun f=>P.keyLits d f.type ((cs.drop f.offset).take (P.cellsOf f.type)))=some r∧r.flatten=(cs.drop o).map kH
 | [],o,ks,cs,h,hc=>by
  simp only [xZ,Option.some.injEq] at h
  subst h
  have:=hc.len
  exact ⟨[],by simp,by rw [List.eq_nil_of_length_eq_zero this]; rfl⟩
 | fl :: r,o,ks,cs,h,hc=>by
  simp only [xZ] at h
  split at h
  ·rename_i ks1 h1
   split at h
   ·rename_i h2
    cases h3:xZ P (rF P d) (o+ks1.length) r with
    | none=>rw [h3] at h; cases h
    | some ks2 =>
     rw [h3] at h
     simp only [Option.map_some,Option.some.injEq] at h
     subst h
     obtain ⟨c1,c2⟩:=hc.split
     rw [List.drop_drop] at c2
     obtain ⟨rr,hr1,hr2⟩:=aHC ih r (o+ks1.length) ks2 cs h3 c2
     have hk:=ih fl.type ks1 _ h1 c1
     refine ⟨((cs.drop o).take ks1.length).map kH :: rr,?_,?_⟩
     ·rw [List.mapM_cons,h2.1,h2.2,hk,hr1]; rfl
     rw [List.flatten_cons,hr2,←List.map_append,←List.drop_drop,List.take_append_drop]
   cases h
  cases h
theorem aBp:∀ (d:Nat) (t:TypeId) (ks:List CK) (cs:List Value),rF P d t=some ks→Conf ks cs→P.keyLits d t cs=some (cs.map kH)
 | 0,_,_,_,h,_=>by cases h
 | d+1,t,ks,cs,h,hc=>by
  simp only [rF] at h
  unfold Program.keyLits
  split at h
  ·rename_i k hu
   simp only [Option.some.injEq] at h
   subst h
   cases hc with
   | cons h1 r=>cases r; cases h1 with | int a b=>simp [hu,Lit.wf,a,b,kH]
  ·rename_i hu
   simp only [Option.some.injEq] at h
   subst h
   cases hc with
   | cons h1 r=>cases r; cases h1 with | str a=>simp [hu,a,kH]
  ·rename_i hu
   simp only [Option.some.injEq] at h
   subst h
   cases hc with
   | cons h1 r=>cases r; cases h1 with | bool=>simp [hu,kH]
  ·rename_i n e hu
   split at h
   ·rename_i ks1 h1
    split at h
    ·rename_i h2
     simp only [Option.some.injEq] at h
     subst h
     have hl:cs.length=n*ks1.length:=by
      rw [hc.len]; simp
     have hm:=aIi (l:=List.range n) (f:=fun i=>P.keyLits d e ((cs.drop (i*P.cellsOf e)).take (P.cellsOf e))) (g:=fun i=>((cs.drop (i*ks1.length)).take ks1.length).map kH)
      (fun i hi=>by rw [h2.1]; exact aBp d e ks1 _ h1 (aHD hc i (List.mem_range.1 hi)))
     rw [hu]
     simp only [hl,h2.2,if_true,hm,Option.map_some,aG8 hl]
    ·cases h
   ·cases h
  ·rename_i fs hu
   split at h
   ·rename_i ks1 h1
    split at h
    ·rename_i h2
     simp only [Option.some.injEq] at h
     subst h
     obtain ⟨r,hr1,hr2⟩:=aHC (aBp d) fs.toList 0 ks1 cs h1 (by simpa using hc)
     rw [hu]
     simp only [hc.len,h2.1,h2.2,and_self,if_true,hr1,Option.map_some,hr2,List.drop_zero]
    ·cases h
   ·cases h
  ·cases h
def eqT (P:Program) (m:Nat) (T:TypeId) (ks:List CK):Bool :=
 (match rF P m T with | some k=>k == ks | none=>false)&&P.keyTypeAt m T && !P.eqGuardType P.depth T&&Nat.ble m 10000&&(match P.underlying T with | some (.struct _) | some (.array _ _)=>Nat.beq (P.cellsOf T) ks.length | _=>false)
theorem aTj {T m:Nat} {ks:List CK} {cs cs':List Value} {r:Bool} (hT:eqT P m T ks=true) (h1:Conf ks cs) (h2:Conf ks cs') (hr:r=true↔cs=cs') (w:World) :
  (Op.equal T (.agg cs.toArray) (.agg cs'.toArray)).run P w=.ok r w∧P.eqGuardType P.depth T=false:=by
 simp only [eqT,Bool.and_eq_true,Bool.not_eq_true'] at hT
 obtain ⟨⟨⟨⟨hs,hk⟩,hg⟩,hm⟩,hf⟩:=hT
 have hs':rF P m T=some ks:=by
  split at hs
  ·rename_i k hk'; rw [hk',beq_iff_eq.1 hs]
  ·cases hs
 have hm:=Nat.le_of_ble_eq_true hm
 have hform:∀ cs:List Value,Conf ks cs→(Value.agg cs.toArray).formed P T=true:=by
  intro cs hc
  have hl:=hc.len
  simp only [Value.formed]
  split at hf<;>rename_i hu<;>first|(rw [hu]; have:=Nat.eq_of_beq_eq_true hf; simp [this,hl]) | cases hf
 obtain ⟨r',hr',hiff⟩:=run_equalIn_deep (10000-m) m T hk w m m (.agg cs.toArray) (.agg cs'.toArray) (cs.map kH) (cs'.map kH) (hform _ h1) (hform _ h2) (by simpa [Value.cells] using aBp m T ks cs hs' h1) (by simpa [Value.cells] using aBp m T ks cs' hs' h2)
 rw [show 10000-m+m=10000 by omega] at hr'
 have e:r'=r:=by
  have h3:r'=true↔r=true:=by
   rw [hiff,hr]
   exact ⟨fun e=>h1.inj h2 e,fun e=>by rw [e]⟩
  cases r<;>cases r'<;>simp_all
 subst e
 exact ⟨hr',hg⟩
variable {dr:Bool} {mc:Md} {n:Fm} {l:List Oper} {K:aJ→PM→aG→Prop} {i:Nat} {σ:List Nat} {ρ:aJ} {G:PM} {μ:aG}
variable {d t:Nat} {p:String} {af:Array Edge} {g:Option (Nat×Bool)} {c:Bool}
theorem eqC {T T' m:Nat} {x y:Operand} {ks:List CK} {cs cs':List Value} (r:Bool) (ho:nth l i=some ⟨some d,.binOp .eql T x y T',t,p,af,g⟩) (hg:Gd l ρ g c) (hT:eqT P m T ks=true) (hx:Ev ρ c x (.agg cs.toArray)) (hy:Ev ρ c y (.agg cs'.toArray))
  (h1:c=true→Conf ks cs) (h2:c=true→Conf ks cs') (hr:c=true→(r=true↔cs=cs')) (h:Wo dr mc P n l K σ ((d,c,.bool r) :: ρ) G μ):Wo dr mc P n l K (i :: σ) ρ G μ :=
 .pure ho (.inl rfl) hg (fun hc a w ha=>by
  obtain ⟨h3,h4⟩:=aTj hT (h1 hc) (h2 hc) (hr hc) w
  simp [execOp,hx.eval ha hc,hy.eval ha hc,aHj h4,binOp,h3]) h
end
theorem Conf.u64 {y:BitVec 64} {ks:List CK} {cs:List Value} (h:Conf ks cs):Conf (.int .u64 :: ks) (uv .u64 y :: cs):=.cons (CkOk.u (k:=.u64) rfl y) h
end Go.Tan
namespace Go.Tan
open Go.RowKit Go.Lib
def yb (s:ByteArray):List Y:=s.toList.map fun x=>BitVec.ofNat 8 x.toNat
theorem pB (s:ByteArray):dH (yb s)=s:=by
 have h:(dH (yb s)).data.toList=s.data.toList:=by
  rw [qP,yb,ByteArray.toList_eq,List.map_map]
  conv=>rhs; rw [← List.map_id s.data.toList]
  refine List.map_congr_left fun x _=>?_
  simp only [Function.comp,id]
  have:=x.toNat_lt
  rw [BitVec.toNat_ofNat,Nat.mod_eq_of_lt (by omega)]
  simp
 have h2:(dH (yb s)).data=s.data:=by
  have:=congrArg List.toArray h
  simpa using this
 obtain ⟨d⟩:=s
 cases hb:dH (yb ⟨d⟩) with
 | mk d'=>rw [hb] at h2; simp only at h2; rw [h2]
theorem iC (s:ByteArray):(yb s).length=s.size:=by rw [yb,List.length_map,ByteArray.toList_eq]; simp
theorem aK7 (s:ByteArray):(yb s).map V=strCells s:=by
 unfold yb strCells
 rw [List.map_map,ByteArray.toList_eq]
 refine List.map_congr_left fun x _=>?_
 have:=x.toNat_lt
 have e:(BitVec.ofNat 8 x.toNat).toNat=x.toNat:=by rw [BitVec.toNat_ofNat,Nat.mod_eq_of_lt (by omega)]
 show Value.int .u8 (((BitVec.ofNat 8 x.toNat).toNat:Nat):Int)=_
 rw [e]
section
variable {dr:Bool} {mc:Md} {P:Program} {n:Fm} {l:List Oper} {K:aJ→PM→aG→Prop} {i:Nat} {σ:List Nat} {ρ:aJ} {G:PM} {μ:aG}
variable {d t:Nat} {p:String} {af:Array Edge} {g:Option (Nat×Bool)} {c:Bool}
theorem aTf {T U E ty:Nat} {v:Value} {xs:List Y} {s:ByteArray} {w:World} (hT:bJ P T=some (E,1,1)) (hU:pS P U=true) (hz:(P.info? E).bind (·.zero)=some (.int .u8 0)) (hs:Sat G [rB v E xs] w) (hb:xs.length+s.size≤140737488355328) :
  ∃ v' w',(Builtin.append_ #[T,U] ty #[v,.string s]).run P w=.ok v' w'∧Tr G (keys [rB v E xs]) w G [rB v' E (xs++yb s)] w':=by
 obtain ⟨hu,inf,hi,hs1,hb1⟩:=fG hT
 have hu2:P.underlying U=some .string:=by
  unfold pS at hU
  split at hU
  ·assumption
  cases hU
 rw [hi] at hz
 simp only [Option.bind_some] at hz
 have hown:w.ownsRow 0 E 1 v xs.length (xs.map V):=hs.own _ (List.mem_singleton.2 rfl)
 have hbegin:=eQ hs
 have hyl:=iC s
 have hyc:=aK7 s
 have hml:(xs.map V).length=xs.length:=List.length_map ..
 have hsl:(strCells s).length=s.size:=strCells_length s
 have hmm:maxLen=9223372036854775807:=rfl
 have eR:rB v E (xs++yb s)=.row v E 1 (xs.length+s.size) (xs.map V++strCells s):=by simp only [rB,List.length_append,List.map_append,hyl,hyc]
 have hlen:(xs.map V++strCells s).length=(xs.length+s.size)*1:=by rw [List.length_append,hml,hsl]; omega
 by_cases hk:s.size=0
 ·have hn:strCells s=[]:=List.eq_nil_of_length_eq_zero (by rw [hsl]; exact hk)
  have hy0:yb s=[]:=List.eq_nil_of_length_eq_zero (by rw [hyl]; exact hk)
  refine ⟨v,w,?_,by rw [hy0,List.append_nil]; exact hbegin⟩
  have hf:=run_firstCells_string (P:=P) w 1 s
  rw [hk,hn] at hf
  rcases hown.2 with ⟨rfl,hm⟩ | ⟨g,cap,cur,rfl,_,hg,hnc,_,_,_⟩
  ·simp [Builtin.append_,run_underlying hu,run_underlying hu2,sizeOf,typeInfo,hi,hs1,Builtin.lenOf,hk,hf]
  simp [Builtin.append_,run_underlying hu,run_underlying hu2,sizeOf,typeInfo,hi,hs1,Builtin.lenOf,hk,hf,hnc,storeCells]
 have fresh:∀ (old:Nat),Tr G (keys [rB v E xs]) w G [.row (.slice (some ⟨w.heap.size,0,none⟩) (xs.length+s.size) (grownCap w (xs.length+s.size) old E)) E 1 (xs.length+s.size) (xs.map V++strCells s)]
   (w.drew.alloc (.cells ((xs.map V).toArray++(strCells s).toArray++Builtin.zeroCells (Value.int .u8 0).cells (grownCap w (xs.length+s.size) old E-(xs.length+s.size))) E)):=by
  intro old
  have h2:=(hbegin.drew).alloc (.cells ((xs.map V).toArray++(strCells s).toArray++Builtin.zeroCells (Value.int .u8 0).cells (grownCap w (xs.length+s.size) old E-(xs.length+s.size))) E)
  have h3:Tr G (keys [rB v E xs]) w G [.blk w.heap.size (.cells ((xs.map V).toArray++(strCells s).toArray++Builtin.zeroCells (Value.int .u8 0).cells (grownCap w (xs.length+s.size) old E-(xs.length+s.size))) E)] _:=Tr.left (ν:=[rB v E xs]) h2
  have hge:=grownCap_ge w (xs.length+s.size) old E
  refine h3.asRow hlen hge (grownCap_le_maxLen w (xs.length+s.size) old E (by rw [hmm]; omega)) ?_ ?_
  ·have hz1:(Value.int IntKind.u8 0).cells.size=1:=rfl
   simp only [Array.size_append,List.size_toArray,size_zeroCells,hz1,hml,hsl]
   omega
  simp only [Array.toList_append,List.append_assoc]
  rw [← List.append_assoc,←hlen]
  exact List.take_left
 rcases hown.2 with ⟨rfl,hm⟩ | ⟨g,cap,cur,rfl,_,hg,hnc,hcm,hcs,htake⟩
 ·have hx:xs=[]:=List.eq_nil_of_length_eq_zero hm
  subst hx
  have hrun:=run_append_nil_string (P:=P) w T U ty E inf (.int .u8 0) hu hu2 hi hz s (by omega) (by omega) (by rw [hb1]; simp only [List.length_nil] at hb; omega)
  have hf:=fresh 0
  have e1:(s.data.map fun b=>Value.int .u8 b.toNat)=(strCells s).toArray:=by
   apply Array.ext'
   simp [strCells]
  rw [e1] at hrun
  simp only [List.length_nil,Nat.zero_add,List.map_nil,List.nil_append,Array.empty_append] at hf
  refine ⟨_,_,hrun,?_⟩
  have eR2:∀ u,rB u E ([]++yb s)=.row u E 1 s.size (strCells s):=fun u=>by simp only [rB,List.nil_append,hyl,hyc]
  rw [eR2]; exact hf
 by_cases hroom:xs.length+s.size≤cap
 ·simp only [Nat.mul_one] at hcs htake
  have hrun:=run_append_room_string (P:=P) w T U ty E inf hu hu2 hi hs1 g xs.length cap cur hg s hroom (by omega)
  have hsat:Sat G [.blk g (.cells cur E (0,0))] w:=⟨hs.sub,fun r hr=>by rw [List.mem_singleton.1 hr]; exact hg,fun c hc=>hs.apart c (by simpa [keys,Res.keys,Value.ownBlock] using hc),by simp [keys,Res.keys]⟩
  refine ⟨_,_,hrun,?_⟩
  have h2:=zQ (cs':=(cur.toList.take xs.length++strCells s++cur.toList.drop (xs.length+s.size)).toArray) hsat
  have h3:=h2.asRow (m:=xs.length+s.size) (cap:=cap) (sz:=1) (xs:=xs.map V++strCells s) hlen hroom hcm ?_ ?_
  ·have zZ:∀ u,rB u E (xs++yb s)=.row u E 1 (xs.length+s.size) (xs.map V++strCells s):=fun u=>by simp only [rB,List.length_append,List.map_append,hyl,hyc]
   rw [zZ]
   simpa [keys,Res.keys,Value.ownBlock] using h3
  ·simp only [List.size_toArray,qlB,Array.length_toList,hsl]
   omega
  rw [htake,←hlen]
  exact List.take_left
 have holds:∀ j u,(xs.map V)[j]? = some u→w.cell? ((⟨g,0,none⟩ : Addr).add j)=some u:=hown.cells (g:=g) rfl
 have hrun:=run_append_grow_string (P:=P) w T U ty E inf (.int .u8 0) hu hu2 hi hz ⟨g,0,none⟩ xs.length cap (xs.map V) (by rw [hml,hs1]; omega) holds s (by omega) (by omega) (growslice_fits (by omega) (by rw [hb1]; omega))
 have zZ:∀ u,rB u E (xs++yb s)=.row u E 1 (xs.length+s.size) (xs.map V++strCells s):=fun u=>by simp only [rB,List.length_append,List.map_append,hyl,hyc]
 refine ⟨_,_,hrun,?_⟩
 rw [zZ]; exact fresh cap
theorem apT {T U E:Nat} {x y:Operand} {v:Value} {s:ByteArray} {xs:List Y} {μ':aG} (ho:nth l i=some ⟨some d,.call { callee:=.builtin .append,args:=#[x,y],argTypes:=#[T,U] },t,p,af,none⟩)
  (hT:bJ P T=some (E,1,1)) (hU:pS P U=true) (hz:(P.info? E).bind (·.zero)=some (.int .u8 0)) (hx:Ev ρ true x v) (hy:Ev ρ true y (.string s)) (hm:MTake μ (rB v E xs) μ') (hb:xs.length+s.size≤140737488355328)
  (h:∀ v' L,v'.oneCell'=true→L=xs++yb s→Wo dr mc P n l K σ ((d,true,v') :: ρ) G (rB v' E L :: μ')) (hmc:mc.a=false∨dr=false:=by first|exact .inl rfl|exact .inr rfl):Wo dr mc P n l K (i :: σ) ρ G μ:=by
 refine .act (μ₁:=[rB v E xs]) (μ₂:=μ') (post:=fun G' μ' v'=>G'=G∧v'.oneCell'=true∧μ'=[rB v' E (xs++yb s)]) ho (by rcases hmc with h | h<;>simp [bI,h]) .no hm.perm (fun a w ha hs=>.inl ?_) ?_
 ·obtain ⟨v',w',hrun,ht⟩:=aTf (ty:=t) (s:=s) hT hU hz hs.left hb
  exact ⟨v',w',G,[rB v' E (xs++yb s)],.inl (by simp [execOp,resolve,invoke,builtin,hx.eval ha rfl,hy.eval ha rfl,hrun]),ht,rfl,ht.sat.rowOne,rfl⟩
 rintro v' G' μ'' _ ⟨rfl,h1,rfl⟩
 exact h v' _ h1 rfl
def sbT (P:Program) (S D:TypeId):Bool:=match P.underlying S,P.underlying D with
 | some .string,some (.slice e)=>match P.underlying e with | some (.int .u8)=>true | _=>false
 | _,_=>false
theorem cvS {S D:TypeId} {x:Operand} {s:ByteArray} (hdf:dr=false) (ho:nth l i=some ⟨some d,.convert S D x,t,p,af,none⟩) (hS:sbT P S D=true) (hx:Ev ρ true x (.string s))
  (h:∀ G' s',PM.le G G'→SlR G' 1 aN s' (yb s)→Wo dr mc P n l K σ ((d,true,s'.val (yb s).length) :: ρ) G' μ):Wo dr mc P n l K (i :: σ) ρ G μ:=by
 refine .act (μ₁:=[]) (μ₂:=μ) (post:=fun G' μ' v=>μ'=[]∧∃ s',v=s'.val (yb s).length∧SlR G' 1 aN s' (yb s)) ho (.inr hdf) .no (.refl _) (fun a w ha hs=>.inl ?_) ?_
 ·unfold sbT at hS
  split at hS
  ·rename_i e h1 h2
   split at hS
   ·rename_i h3
    have hrun:=run_bytes_of_string (P:=P) w S D e s h1 h2 h3
    have hge:=grownCap_ge w s.size 0 e
    have h0:Tr G (keys []) w G [] w:=eQ (Sat.left (μ:=[]) hs)
    have h4:=(h0.drew).alloc (.cells (bytesRow s (grownCap w s.size 0 e)) e ((bytesRow s (grownCap w s.size 0 e)).size,(bytesRow s (grownCap w s.size 0 e)).size+1))
    have h5:=h4.freeze (by simp [keys])
    refine ⟨.slice (some ⟨w.heap.size,0,none⟩) s.size (grownCap w s.size 0 e),_,_,[],.inl (by simp [execOp,hx.eval ha rfl,hrun]),h5,rfl,⟨some ⟨w.heap.size,0,none⟩,grownCap w s.size 0 e⟩,by rw [iC]; rfl,?_⟩
    refine SlR.ofRow (fun _ _=>rfl) (by rw [iC]; exact hge) (fun _=>rfl) (fun j v hj=>?_)
    rw [sY,aK7] at hj
    show RdP _ ⟨w.heap.size,0+j,none⟩ v
    rw [Nat.zero_add]
    refine RdP.blk (cs:=(bytesRow s (grownCap w s.size 0 e)).toList) (by rw [Array.toArray_toList]; exact bU _ _ _) ?_
    have hlt:j<(strCells s).length:=(List.getElem?_eq_some_iff.1 hj).1
    unfold bytesRow
    rw [Array.toList_append,List.getElem?_append_left (by simpa [strCells] using hlt)]
    simpa [strCells] using hj
   cases hS
  cases hS
 rintro v G' μ'' hle ⟨rfl,s',rfl,hs'⟩
 exact h G' s' hle hs'
theorem aHv {α:Type} {enc:α→List Value} {sz:Nat}:∀ {xs:List α} {k:Nat} {x:α},(∀ y∈xs,(enc y).length=sz)→xs[k]? = some x→((xs.flatMap enc).drop (k*sz)).take sz=enc x
 | y :: ys,0,x,hsz,hx=>by
  simp only [List.getElem?_cons_zero,Option.some.injEq] at hx
  subst hx
  rw [Nat.zero_mul,List.drop_zero,List.flatMap_cons,List.take_left' (hsz y (List.mem_cons_self ..))]
 | y :: ys,k+1,x,hsz,hx=>by
  rw [List.flatMap_cons,Nat.succ_mul,Nat.add_comm,←List.drop_drop,List.drop_left' (hsz y (List.mem_cons_self ..))]
  exact aHv (fun z hz=>hsz z (List.mem_cons_of_mem _ hz)) (by simpa using hx)
 | [],_,_,_,hx=>by simp at hx
theorem aDh {α:Type} {enc:α→List Value} {sz b m cap E k:Nat} {xs:List α} {x:α} {μ':aG} (h:MTake μ (rS sz enc (.slice (some ⟨b,0,none⟩) m cap) E xs) μ') (hsz:∀ y∈xs,(enc y).length=sz) (hx:xs[k]? = some x) {q:Nat} (hq:q=k*sz):RdN G μ b q (enc x):=by
 subst hq
 intro j v hj
 refine Rd.row h ?_
 rw [← aHv hsz hx,List.getElem?_take] at hj
 split at hj
 ·rw [List.getElem?_drop] at hj; exact hj
 cases hj
end
theorem aVZ (s:ByteArray):s.data.toList=(yb s).map fun y=>UInt8.ofNat y.toNat:=by
 conv=>lhs; rw [← pB s]
 exact qP _
theorem aN4 {s:ByteArray} {xs:List Y} (h:s.data.toList=xs.map fun y=>UInt8.ofNat y.toNat):s=dH xs :=
 ByteArray.ext (Array.toList_inj.1 (by rw [h,qP]))
theorem aN2 (xs ys:List Y):dH xs++dH ys=dH (xs++ys):=aN4 (by rw [ByteArray.data_append,Array.toList_append,qP,qP,List.map_append])
theorem aN7 {s:ByteArray} {j:Nat} (h:j<s.size):s[j]? = some (UInt8.ofNat ((yb s).getD j 0).toNat):=by
 have h1:s[j]? = s.data.toList[j]?:=by
  rw [getElem?_pos s j h,List.getElem?_eq_getElem (show j<s.data.toList.length by simpa using h)]; rfl
 have h2:j<(yb s).length:=by rw [iC]; exact h
 rw [h1,aVZ,List.getElem?_map,List.getElem?_eq_getElem h2]
 simp [h2]
section
variable {dr:Bool} {mc:Md} {P:Program} {n:Fm} {l:List Oper} {K:aJ→PM→aG→Prop} {i:Nat} {σ:List Nat} {ρ:aJ} {G:PM} {μ:aG}
variable {d t:Nat} {p:String} {af:Array Edge} {g:Option (Nat×Bool)} {c:Bool}
theorem sI {T:TypeId} {x y:Operand} {k:IntKind} {a:Int} {s:ByteArray} (j:Nat) (ho:nth l i=some ⟨some d,.index T x y,t,p,af,g⟩) (hg:Gd l ρ g c) (hT:pS P T=true) (hx:Ev ρ c x (.string s)) (hy:Ev ρ c y (.int k a)) (ha:c=true→a=j) (h1:c=true→j<s.size)
  (h:Wo dr mc P n l K σ ((d,c,V ((yb s).getD j 0)) :: ρ) G μ):Wo dr mc P n l K (i :: σ) ρ G μ :=
 .pure ho (.inl rfl) hg (fun hc a' w hag=>by
  obtain rfl:=ha hc
  have hu:P.underlying T=some .string:=by unfold pS at hT; split at hT<;>first|assumption | cases hT
  have hy':((yb s).getD j 0).toNat<256:=((yb s).getD j 0).isLt
  simp only [execOp,hx.eval hag hc,hy.eval hag hc,Instr.index,asIntOf,Sem.run_bind,Sem.run_pure,Result.andThen_ok,run_underlying hu]
  rw [if_pos (Int.natCast_nonneg j),Int.toNat_natCast,aN7 (h1 hc)]
  dsimp only
  rw [show (UInt8.ofNat ((yb s).getD j 0).toNat).toNat=((yb s).getD j 0).toNat by simp only [UInt8.toNat_ofNat']; exact Nat.mod_eq_of_lt hy']
  rfl) h
theorem sP {T T':TypeId} {x y:Operand} {s1 s2:ByteArray} (ho:nth l i=some ⟨some d,.binOp .add T x y T',t,p,af,g⟩) (hg:Gd l ρ g c) (hx:Ev ρ c x (.string s1)) (hy:Ev ρ c y (.string s2)) (hl:c=true→s1.size+s2.size≤9223372036854775807)
  (h:Wo dr mc P n l K σ ((d,c,.string (dH (yb s1++yb s2))) :: ρ) G μ):Wo dr mc P n l K (i :: σ) ρ G μ :=
 .pure ho (.inl rfl) hg (fun hc a' w hag=>by
  have hl':¬ (((s1.size+s2.size:Nat):Int) > IntKind.i64.max):=by
   have:=hl hc
   simp only [IntKind.max,IntKind.bits,IntKind.signed]; simp; omega
  rw [← aN2,pB,pB]
  have:(eqGuard .add T x y (.string s1) (.string s2)).run P w=.ok () w:=by unfold eqGuard; simp
  simp only [execOp,hx.eval hag hc,hy.eval hag hc]
  simp only [Sem.run_bind,this,Result.andThen_ok,binOp,Op.stringOp,if_neg hl',Sem.run_pure]) h
end
structure Fi where
 nm:ByteArray
 h:Sh
 n:Nat
 safe:Nat
 born:Nat
def Fi.cells (f:Fi):List Value:=[f.h.val f.n,.int .i64 (f.safe:Int)]
def Fi.val (f:Fi):Value:=.agg f.cells.toArray
def Fi.z:Fi:=⟨ByteArray.empty,⟨none,0⟩,0,0,0⟩
theorem Fi.one (f:Fi):∀ u∈f.cells,u.oneCell'=true:=by
 intro u hu
 simp only [Fi.cells,List.mem_cons,List.not_mem_nil,or_false] at hu
 rcases hu with rfl|rfl<;>rfl
def Fi.fe (f:Fi):FE:=(f.nm,f.val,f.born)
def cA:List Fi→Nat
 | []=>0
 | f :: r=>f.n+cA r
def jT (seen:List Nat):List Fi→Nat
 | []=>0
 | f :: r=>(if f.born∈seen then f.n else 0)+jT seen r
def nH (seen:List Nat):List Fi→Nat
 | []=>0
 | f :: r=>(if f.born∈seen then 0 else 1)+nH seen r
theorem aFB {seen:List Nat}:∀ {F:List Fi},jT seen F≤cA F
 | []=>Nat.le_refl _
 | f :: r=>by
  have:=aFB (seen:=seen) (F:=r)
  simp only [jT,cA]; split<;>omega
theorem aKK:∀ {F:List Fi},jT [] F=0
 | []=>rfl
 | f :: r=>by simp [jT,aKK (F:=r)]
theorem aKL {seen:List Nat} {b:Nat}:∀ {F:List Fi},(∀ f∈F,f.born≠b)→jT (seen++[b]) F=jT seen F∧nH (seen++[b]) F=nH seen F
 | [],_=>⟨rfl,rfl⟩
 | f :: r,h=>by
  have h1:=aKL (seen:=seen) (b:=b) (F:=r) fun g hg=>h g (List.mem_cons_of_mem _ hg)
  have h2:f.born≠b:=h f (List.mem_cons_self ..)
  have h3:f.born∈seen++[b]↔f.born∈seen:=by simp [h2]
  simp only [jT,nH,h1.1,h1.2]
  by_cases q:f.born∈seen
  ·rw [if_pos (h3.2 q),if_pos q,if_pos (h3.2 q),if_pos q]; exact ⟨rfl,rfl⟩
  ·rw [if_neg (fun z=>q (h3.1 z)),if_neg q,if_neg (fun z=>q (h3.1 z)),if_neg q]; exact ⟨rfl,rfl⟩
theorem aKJ {seen:List Nat} {e:FE}:∀ {F:List Fi},(F.map Fi.born).Nodup→NxR (F.map Fi.fe) seen (some e)→∃ f∈F,e=f.fe∧jT (seen++[f.born]) F=jT seen F+f.n∧nH (seen++[f.born]) F+1=nH seen F
 | [],_,h=>by cases h.1
 | f :: r,hd,h=>by
  rw [List.map_cons,List.nodup_cons] at hd
  obtain ⟨h1,h2⟩:=h
  rw [List.map_cons] at h1
  rcases List.mem_cons.1 h1 with rfl | h1
  ·refine ⟨f,List.mem_cons_self ..,rfl,?_⟩
   have h4:=aKL (seen:=seen) (b:=f.born) (F:=r) fun g hg hb=>hd.1 (List.mem_map.2 ⟨g,hg,hb⟩)
   have h5:¬ f.born∈seen:=h2
   simp only [jT,nH,h4.1,h4.2]
   rw [if_pos (by simp),if_neg h5,if_pos (by simp),if_neg h5]
   omega
  obtain ⟨g,hg,rfl,h5,h6⟩:=aKJ hd.2 ⟨h1,h2⟩
  refine ⟨g,List.mem_cons_of_mem _ hg,rfl,?_⟩
  have h7:f.born≠g.born:=fun z=>hd.1 (List.mem_map.2 ⟨g,hg,z.symm⟩)
  have h3:f.born∈seen++[g.born]↔f.born∈seen:=by simp [h7]
  simp only [jT,nH,h5]
  by_cases q:f.born∈seen
  ·rw [if_pos (h3.2 q),if_pos q,if_pos (h3.2 q),if_pos q]; omega
  rw [if_neg (fun z=>q (h3.1 z)),if_neg q,if_neg (fun z=>q (h3.1 z)),if_neg q]; omega
theorem aKI {seen:List Nat}:∀ {F:List Fi},NxR (F.map Fi.fe) seen none→jT seen F=cA F
 | [],_=>rfl
 | f :: r,h=>by
  simp only [jT,cA]
  have h0:f.born∈seen:=h f.fe (by simp)
  rw [if_pos h0,aKI fun e he=>h e (by rw [List.map_cons]; exact List.mem_cons_of_mem _ he)]
theorem aHn:∀ {F:List Fi} {f:Fi},(F.map Fi.born).Nodup→f∈F→(F.map Fi.fe).find? (fun e=>e.2.2 == f.born)=some f.fe
 | [],_,_,h=>by cases h
 | g :: r,f,hd,h=>by
  rw [List.map_cons,List.nodup_cons] at hd
  rw [List.map_cons]
  rcases List.mem_cons.1 h with rfl | h
  ·rw [List.find?_cons_of_pos (by simp [Fi.fe])]
  ·have:g.born≠f.born:=fun z=>hd.1 (List.mem_map.2 ⟨f,h,z.symm⟩)
   rw [List.find?_cons_of_neg (by simpa [Fi.fe] using this)]
   exact aHn hd.2 h
structure DkR (F:List Fi) (clk:Nat):Prop where
 nd:(F.map Fi.born).Nodup
 un:(F.map Fi.nm).Nodup
 gn:∀ f∈F,f.nm.size≤100
 cnt:F.length≤1000
 old:∀ f∈F,f.born<clk
 few:cA F≤1000000000
theorem DkR.oldE {F:List Fi} {clk:Nat} (h:DkR F clk):∀ e∈F.map Fi.fe,e.2.2<clk:=fun e he=>by
 obtain ⟨f,hf,rfl⟩:=List.mem_map.1 he; exact h.old f hf
def bK (nm:ByteArray):List Fi→Option Fi
 | []=>none
 | f :: r=>if f.nm=nm then some f else bK nm r
def tC (nm:ByteArray):List Fi→List Fi
 | []=>[]
 | f :: r=>if f.nm=nm then { f with safe:=f.n } :: r else f :: tC nm r
def dN (nm:ByteArray):List Fi→List Fi
 | []=>[]
 | f :: r=>if f.nm=nm then r else f :: dN nm r
theorem aAT {nm:ByteArray}:∀ {F:List Fi},fJ nm (F.map Fi.fe)=(bK nm F).map Fi.val
 | []=>rfl
 | f :: r=>by
  rw [List.map_cons,fJ,bK]
  by_cases h:f.nm=nm
  ·rw [if_pos h,if_pos (show f.fe.1=nm from h)]; rfl
  ·rw [if_neg h,if_neg (show ¬ f.fe.1=nm from h)]; exact aAT
theorem aIW {nm:ByteArray} {F:List Fi}:(fJ nm (F.map Fi.fe)).getD (.agg #[.slice none 0 0,.int .i64 0])=((bK nm F).getD Fi.z).val:=by
 rw [aAT]; cases bK nm F<;>rfl
theorem aIV {nm:ByteArray} {F:List Fi}:(fJ nm (F.map Fi.fe)).isSome=(bK nm F).isSome:=by
 rw [aAT]; cases bK nm F<;>rfl
theorem aAQ {nm:ByteArray} {F:List Fi} (h:bK nm F=none):fJ nm (F.map Fi.fe)=none:=by rw [aAT,h]; rfl
theorem pI {nm:ByteArray} {F:List Fi} {f:Fi} (h:bK nm F=some f):fJ nm (F.map Fi.fe)=some f.val:=by rw [aAT,h]; rfl
theorem aIX {nm:ByteArray} {F:List Fi} (h:bK nm F=none):(fJ nm (F.map Fi.fe)).getD (.agg #[.slice none 0 0,.int .i64 0])=.agg [.slice none 0 0,.int .i64 0].toArray:=by rw [aAQ h]; rfl
theorem aAP {nm:ByteArray} {F:List Fi} {f:Fi} (h:bK nm F=some f):(fJ nm (F.map Fi.fe)).getD (.agg #[.slice none 0 0,.int .i64 0])=.agg f.cells.toArray:=by rw [pI h]; rfl
theorem aQu {nm:ByteArray} {F:List Fi} (h:bK nm F=none):(fJ nm (F.map Fi.fe)).isSome=false:=by rw [aAQ h]; rfl
theorem aIp {nm:ByteArray} {f:Fi}:∀ {F:List Fi},bK nm F=some f→oK nm (.agg [f.h.val f.n,.int .i64 (f.n:Int)].toArray) (F.map Fi.fe)=(tC nm F).map Fi.fe
 | [],h=>by cases h
 | g :: r,h=>by
  rw [List.map_cons,oK,tC]
  rw [bK] at h
  by_cases q:g.nm=nm
  ·rw [if_pos q] at h; rw [if_pos q,if_pos (show g.fe.1=nm from q)]
   cases h; rfl
  ·rw [if_neg q] at h; rw [if_neg q,if_neg (show ¬ g.fe.1=nm from q),aIp h]; rfl
theorem xL {nm:ByteArray}:∀ {F:List Fi},qX nm (F.map Fi.fe)=(dN nm F).map Fi.fe
 | []=>rfl
 | g :: r=>by
  rw [List.map_cons,qX,dN]
  by_cases q:g.nm=nm
  ·rw [if_pos q,if_pos (show g.fe.1=nm from q)]
  ·rw [if_neg q,if_neg (show ¬ g.fe.1=nm from q),xL]; rfl
theorem aHp {nm:ByteArray}:∀ {F:List Fi},bK nm F=none→∀ f∈F,f.nm≠nm
 | [],_,_,h=>by cases h
 | g :: r,h,f,hf=>by
  rw [bK] at h
  by_cases q:g.nm=nm
  ·rw [if_pos q] at h; cases h
  ·rw [if_neg q] at h
   rcases List.mem_cons.1 hf with rfl | hf
   ·exact q
   ·exact aHp h f hf
theorem uO {nm:ByteArray}:∀ {F:List Fi},((dN nm F).map Fi.nm).Sublist (F.map Fi.nm)∧(dN nm F).length≤F.length
 | []=>⟨.slnil,Nat.le_refl _⟩
 | g :: r=>by
  rw [dN]
  by_cases q:g.nm=nm
  ·rw [if_pos q]; exact ⟨List.sublist_cons_self ..,by simp⟩
  ·rw [if_neg q,List.map_cons,List.map_cons]; exact ⟨(uO (F:=r)).1.cons_cons _,by have:=(uO (nm:=nm) (F:=r)).2; simp only [List.length_cons]; omega⟩
theorem sV {nm:ByteArray} {f:Fi}:∀ {F:List Fi},bK nm F=some f→cA (dN nm F)+f.n=cA F∧((F.map Fi.born).Nodup→((dN nm F).map Fi.born).Nodup)∧(∀ g∈dN nm F,g∈F)
 | [],h=>by cases h
 | g :: r,h=>by
  rw [bK] at h; rw [dN]
  by_cases q:g.nm=nm
  ·rw [if_pos q] at h ⊢
   cases h
   exact ⟨by simp only [cA]; omega,fun hd=>(List.nodup_cons.1 hd).2,fun x hx=>List.mem_cons_of_mem _ hx⟩
  rw [if_neg q] at h ⊢
  obtain ⟨h1,h2,h3⟩:=sV h
  refine ⟨by simp only [cA]; omega,fun hd=>?_,fun x hx=>?_⟩
  ·rw [List.map_cons,List.nodup_cons] at hd ⊢
   refine ⟨fun hm=>hd.1 ?_,h2 hd.2⟩
   obtain ⟨y,hy,e⟩:=List.mem_map.1 hm
   exact List.mem_map.2 ⟨y,h3 y hy,e⟩
  rcases List.mem_cons.1 hx with rfl | hx
  ·exact List.mem_cons_self ..
  exact List.mem_cons_of_mem _ (h3 x hx)
theorem yD:∀ {F H:List Fi},cA (F++H)=cA F+cA H
 | [],H=>by simp [cA]
 | f :: r,H=>by simp only [List.cons_append,cA,yD (F:=r)]; omega
theorem aHm {F:List Fi} {f:Fi}:F.map Fi.fe++[f.fe]=(F++[f]).map Fi.fe:=by simp
theorem DkR.app {F:List Fi} {clk:Nat} {f:Fi} (h:DkR F clk) (hb:f.born=clk) (hs:cA F+f.n≤1000000000) (hn:bK f.nm F=none) (hg:f.nm.size≤100) (hc:F.length<1000):DkR (F++[f]) (clk+1):=by
 refine ⟨?_,?_,fun x hx=>?_,by simp; omega,fun x hx=>?_,by rw [yD]; simp only [cA]; omega⟩
 ·rw [List.map_append]
  refine List.nodup_append.2 ⟨h.nd,by simp,fun a ha b hb'=>?_⟩
  obtain ⟨y,hy,rfl⟩:=List.mem_map.1 ha
  simp only [List.map_cons,List.map_nil,List.mem_singleton] at hb'
  have:=h.old y hy
  omega
 ·rw [List.map_append]
  refine List.nodup_append.2 ⟨h.un,by simp,fun a ha b hb'=>?_⟩
  obtain ⟨y,hy,rfl⟩:=List.mem_map.1 ha
  simp only [List.map_cons,List.map_nil,List.mem_singleton] at hb'
  rw [hb']
  exact aHp hn y hy
 ·rcases List.mem_append.1 hx with hx | hx
  ·exact h.gn x hx
  rw [List.mem_singleton.1 hx]; exact hg
 rcases List.mem_append.1 hx with hx | hx
 ·have:=h.old x hx; omega
 rw [List.mem_singleton.1 hx,hb]; omega
theorem DkR.del {F:List Fi} {clk:Nat} {nm:ByteArray} {f:Fi} (h:DkR F clk) (hf:bK nm F=some f):DkR (dN nm F) clk :=
 ⟨(sV hf).2.1 h.nd,h.un.sublist uO.1,fun g hg=>h.gn g ((sV hf).2.2 g hg),Nat.le_trans uO.2 h.cnt,fun g hg=>h.old g ((sV hf).2.2 g hg),by have:=(sV hf).1; have:=h.few; omega⟩
theorem aEA {nm:ByteArray} {f:Fi}:∀ {F:List Fi},bK nm F=none→f.nm=nm→bK nm (F++[f])=some f
 | [],_,e=>by rw [List.nil_append,bK,if_pos e]
 | g :: r,h,e=>by
  rw [List.cons_append,bK]
  rw [bK] at h
  by_cases q:g.nm=nm
  ·rw [if_pos q] at h; cases h
  ·rw [if_neg q] at h ⊢; exact aEA h e
def bH (bm:Nat) (room done:Nat):List Value:=[.map (some bm),.int .i64 (room:Int),.bool false,.int .i64 (-1),.int .i64 (done:Int)]
theorem aKh (a b:BitVec 64):∀ u∈[uv .u64 a,uv .u64 b],u.oneCell'=true:=by
 intro u hu
 simp only [List.mem_cons,List.not_mem_nil,or_false] at hu
 rcases hu with rfl|rfl<;>rfl
theorem aRN {m:BitVec 64} (hm:m.toNat≤1000000) (h:(((m+1#64).toNat:Int) == 0||false||((m+1#64-1#64).toNat:Int) != (m.toNat:Int))=true):False:=by
 have h2:m+1#64-1#64=m:=BitVec.add_sub_cancel m 1#64
 have h3:(m+1#64).toNat=m.toNat+1:=by rw [BitVec.toNat_add]; show (m.toNat+1)%2^64=_; omega
 rw [h2,h3] at h
 simp at h
 omega
theorem aRM {a b c d:BitVec 64} (h : [uv .u64 a,uv .u64 b]=[uv .u64 c,uv .u64 d]):a.toNat=c.toNat:=by
 have h1:=(List.cons.inj h).1
 unfold uv at h1
 have h2:=(Value.int.inj h1).2
 exact Int.ofNat_inj.1 h2
def rH (d:Nat):List Y:=[48#8,48#8,48#8,48#8,48#8,BitVec.ofNat 8 (48+d)]
def wZ (d k:Nat):List Y:=(rH d).drop (6-k)
def pD (n:BitVec 64) (k:Nat):BitVec 64:=if k=0 then n else 0#64
theorem aO0 {d k:Nat} (h:k≤6):(wZ d k).length=k:=by simp [wZ,rH]; omega
theorem aOz {n:BitVec 64} {k:Nat} (h:1≤k):(pD n k).toNat=0:=by unfold pD; rw [if_neg (by omega)]; rfl
theorem aO1 {n:BitVec 64} {k:Nat} (hn:n.toNat<10) (hk:k<6) : [(48#64+pD n k%10#64).setWidth 8]++wZ n.toNat k=wZ n.toNat (k+1):=by
 match k,hk with
 | 0,_ =>
  have h1:(48#64+pD n 0%10#64).setWidth 8=BitVec.ofNat 8 (48+n.toNat):=by
   apply BitVec.eq_of_toNat_eq
   have h2:(pD n 0%10#64).toNat=n.toNat:=by show (n%10#64).toNat=_; rw [BitVec.toNat_umod]; exact Nat.mod_eq_of_lt hn
   simp only [BitVec.toNat_setWidth,BitVec.toNat_add,h2,BitVec.toNat_ofNat]
   omega
  rw [h1]; rfl
 | 1,_=>rfl
 | 2,_=>rfl
 | 3,_=>rfl
 | 4,_=>rfl
 | 5,_=>rfl
theorem aOy {n:BitVec 64} {k:Nat} (hn:n.toNat<10):pD n k / 10#64=pD n (k+1):=by
 unfold pD
 by_cases h:k=0
 ·rw [if_pos h,if_neg (by omega)]
  apply BitVec.eq_of_toNat_eq
  rw [BitVec.toNat_udiv]; exact Nat.div_eq_of_lt hn
 ·rw [if_neg h,if_neg (by omega)]; rfl
def aRn (d:Nat):ByteArray:=dH (yb (dH (rH d))++yb ⟨#[46,116,97,98]⟩)
def aRl (d:Nat):ByteArray:=dH (yb (dH (rH d))++yb ⟨#[46,108,111,103]⟩)
def aRm (d:Nat):ByteArray:=dH (yb ⟨#[109,97,110,105,102,101,115,116,45]⟩++yb (dH (rH d)))
def aRe:ByteArray:=⟨#[99,117,114,114,101,110,116]⟩
def aRo:ByteArray:=⟨#[99,117,114,114,101,110,116,46,116,109,112]⟩
def aO (k d:Nat):ByteArray:=if k=1 then aRl d else if k=2 then aRn d else if k=3 then aRm d else if k=4 then aRe else if k=5 then aRo else ⟨#[]⟩
theorem aRg {k:Nat} {d:Nat} (h:k=1):dH (yb (dH (rH d))++yb ⟨#[46,108,111,103]⟩)=aO k d:=by subst h; rfl
theorem aRh {k:Nat} {d:Nat} (h:k=2):dH (yb (dH (rH d))++yb ⟨#[46,116,97,98]⟩)=aO k d:=by subst h; rfl
theorem aRi {k:Nat} {d:Nat} (h:k=3):dH (yb ⟨#[109,97,110,105,102,101,115,116,45]⟩++yb (dH (rH d)))=aO k d:=by subst h; rfl
theorem aRj {k:Nat} {d:Nat} (h:k=4):(⟨#[99,117,114,114,101,110,116]⟩ : ByteArray)=aO k d:=by subst h; rfl
theorem aRk {k:Nat} {d:Nat} (h:k=5):(⟨#[99,117,114,114,101,110,116,46,116,109,112]⟩ : ByteArray)=aO k d:=by subst h; rfl
theorem aRf {k:Nat} {d:Nat} (h1:k≠1) (h2:k≠2) (h3:k≠3) (h4:k≠4) (h5:k≠5):(⟨#[]⟩ : ByteArray)=aO k d:=by
 unfold aO; rw [if_neg h1,if_neg h2,if_neg h3,if_neg h4,if_neg h5]
theorem aKC {s:ByteArray} (h:s.size≠0):(s.toList == (⟨#[]⟩ : ByteArray).toList)=false:=by
 refine beq_eq_false_iff_ne.2 fun e=>h ?_
 have h1:=iC s
 unfold yb at h1
 rw [e] at h1
 have h2:=iC ⟨#[]⟩
 unfold yb at h2
 rw [← h1,h2]; rfl
def eH (s:ByteArray):Prop:=s.size≠0∧s.size≤100
theorem aEe:eH (aO 4 0):=⟨by decide,by decide⟩
theorem aI0:eH (aO 5 0):=⟨by decide,by decide⟩
def aSp:W:=2197175160#32
def aIC (x:W):W:=x >>> 1 ^^^ (aSp &&& -(x &&& 1#32))
def pG:Nat→W→W
 | 0,x=>x
 | n+1,x=>aIC (pG n x)
theorem aPx (m n:Nat) (x:W):pG m (pG n x)=pG (m+n) x:=by
 induction m with
 | zero=>rw [Nat.zero_add]; rfl
 | succ m ih=>rw [pG,ih,Nat.succ_add]; rfl
def zW (x:W) (c:Y):W:=pG 8 (x ^^^ c.setWidth 32)
def lZ (sum:W) (xs:List Y):W := ~~~(xs.foldl zW (~~~sum))
theorem aOY (sum:W) (xs ys:List Y):lZ (lZ sum xs) ys=lZ sum (xs++ys):=by
 unfold lZ; rw [BitVec.not_not,List.foldl_append]
theorem aOZ (sum:W):lZ sum []=sum:=by simp [lZ]
theorem aPe {xs:List Y} {k:Nat} {x:W} (h:k<xs.length):(xs.take (k+1)).foldl zW x=zW ((xs.take k).foldl zW x) (xs.getD k 0):=by
 rw [List.take_succ_eq_append_getElem h,List.foldl_append]; simp [h]
def aEa (x:W):W:=rD x 17+2726488792#32
theorem fx0 {L:List Y} {n:BitVec 64} {m:Nat} (e:L=[]++dQ n m):L.length=m:=by rw [e,List.nil_append,fP]
theorem fx2 {L A:List Y} {n:BitVec 64} {m:Nat} (e:L=A++dQ n m):L.length=A.length+m:=by rw [e,List.length_append,fP]
structure Hd where
 kind:Y
 level:Y
 gen:BitVec 64
 epoch:BitVec 64
 num:BitVec 64
 deriving DecidableEq
def Hd.cells (h:Hd):List Value:=[V h.kind,V h.level,uv .u64 h.gen,uv .u64 h.epoch,uv .u64 h.num]
def Hd.zero:Hd:=⟨0,0,0,0,0⟩
def Hd.right (h:Hd):Bool:=if (h.kind.toNat:Int)=2 then decide ((h.level.toNat:Int)<5) else if (h.kind.toNat:Int)=1∨(h.kind.toNat:Int)=3 then decide ((h.level.toNat:Int)=0)&&decide ((h.gen.toNat:Int)=0) else false
theorem aNC {h:Hd} (c:(h.kind.toNat:Int)=2):h.right=decide ((h.level.toNat:Int)<5):=by unfold Hd.right; rw [if_pos c]
theorem aNB {h:Hd} (c:(h.kind.toNat:Int)=1):h.right=(decide ((h.level.toNat:Int)=0)&&decide ((h.gen.toNat:Int)=0)):=by
 unfold Hd.right; rw [if_neg (by omega),if_pos (.inl c)]
theorem aND {h:Hd} (c:(h.kind.toNat:Int)=3):h.right=(decide ((h.level.toNat:Int)=0)&&decide ((h.gen.toNat:Int)=0)):=by
 unfold Hd.right; rw [if_neg (by omega),if_pos (.inr c)]
theorem aNA {h:Hd} (c1:¬ (h.kind.toNat:Int)=1) (c2:¬ (h.kind.toNat:Int)=2) (c3:¬ (h.kind.toNat:Int)=3):h.right=false:=by
 unfold Hd.right; rw [if_neg c2,if_neg (by omega)]
def Hd.three (h:Hd) (k:Nat):BitVec 64:=if k=0 then h.gen else if k=1 then h.epoch else h.num
def Hd.some (h:Hd) (k:Nat):List Y:=[116#8,97#8,110#8,116#8,h.kind,h.level]++(List.range k).flatMap (fun i=>dQ (h.three i) 8)
theorem zO (h:Hd) (k:Nat):h.some (k+1)=h.some k++dQ (h.three k) 8:=by
 unfold Hd.some; rw [List.range_succ,List.flatMap_append,←List.append_assoc]; simp
theorem aNF {h:Hd} {k:Nat} (hk:k<3) : [uv .u64 h.gen,uv .u64 h.epoch,uv .u64 h.num][k]? = Option.some (uv .u64 (h.three k)):=by
 match k,hk with
 | 0,_=>rfl
 | 1,_=>rfl
 | 2,_=>rfl
def bA (h:Hd):List Y:=[116#8,97#8,110#8,116#8,h.kind,h.level]++dQ h.gen 8++dQ h.epoch 8++dQ h.num 8
theorem aNE (h:Hd):h.some 3=bA h:=by rw [zO,zO,zO]; simp [Hd.some,bA,Hd.three]
theorem Hd.some_len (h:Hd) (k:Nat):(h.some k).length=6+8*k:=by
 induction k with
 | zero=>rfl
 | succ k ih=>rw [zO,List.length_append,ih,fP]; omega
theorem fE (h:Hd):(bA h).length=30:=by simp [bA,fP]
def fC (xs:List Y):Nat→BitVec 64
 | 0=>0
 | k+1=>fC xs k ||| (xs.getD k 0).setWidth 64 <<< (8*k)
def kK (n:BitVec 64):Nat→Y:=fun i=>if i<8 then (n >>> (8*i)).setWidth 8 else 0#8
theorem aRw (n:BitVec 64) {i:Nat} (h:i<12):gP (kK n) 8 i=kK n i:=by
 by_cases h8:i<8
 ·exact kN _ h8
 ·have:∀ k,k≤i→gP (kK n) k i=0#8:=fun k=>by
   induction k with
   | zero=>intro _; rfl
   | succ k ih=>intro hk; show bG (gP (kK n) k) k _ i=_; unfold bG; rw [if_neg (by omega)]; exact ih (by omega)
  rw [this 8 (by omega)]; unfold kK; rw [if_neg h8]
def aB1 (key use:List Y):Nat→List Y
 | 0=>[]
 | k+1=>shaL' key (aB1 key use k) use k
where shaL' (key last use:List Y) (k:Nat):List Y:=yl 32 (tG key (last++use++[BitVec.ofNat 8 (k+1)]))
def sU (key use:List Y):Nat→List Y
 | 0=>[]
 | k+1=>sU key use k++aB1 key use (k+1)
theorem aPT (key use:List Y) (k:Nat):(aB1 key use (k+1)).length=32:=cR _ _
theorem aB2 (key use:List Y) (k:Nat):(sU key use k).length=32*k:=by
 induction k with
 | zero=>rfl
 | succ k ih=>rw [sU,List.length_append,ih,aPT]; omega
theorem aPU (key use:List Y) (k:Nat):(sU key use k).drop (32*k-32)=aB1 key use k:=by
 cases k with
 | zero=>rfl
 | succ k=>rw [sU]; exact List.drop_left' (by rw [aB2]; omega)
def aE2:List Y:=[116#8,97#8,110#8,116#8,97#8,108#8,117#8,115#8]
def wY (root:Nat→Y) (use:List Y):List Y:=sU (yl 32 (tG aE2 (yl 32 root))) use 2
def fT (root:Nat→Y) (use:List Y):Nat→Y:=fun i=>(wY root use).getD i 0
def fU (root:Nat→Y) (use:List Y):Nat→Y:=fun i=>(wY root use).getD (32+i) 0
theorem aQN {root:Nat→Y} {use L A B:List Y} (e:L=wY root use) (eA:A=L.take 32) (eB:B=L.drop 32) :
  ba 32 (fun i=>A.getD i 0)++ba 32 (fun i=>B.getD i 0)=ba 32 (fT root use)++ba 32 (fU root use):=by
 subst e eA eB
 have e1:ba 32 (fun i=>((wY root use).take 32).getD i 0)=ba 32 (fT root use):=jC fun i hi=>by simp only [fT,List.getD_eq_getElem?_getD,List.getElem?_take,if_pos hi]
 have e2:ba 32 (fun i=>((wY root use).drop 32).getD i 0)=ba 32 (fU root use):=jC fun i _=>by simp only [fU,List.getD_eq_getElem?_getD,List.getElem?_drop]
 rw [e1,e2]
theorem aQP {zs:List Value} (hz:zs.length=64) (f g:Nat→Y):put (put zs 0 (ba 32 f)) 32 (ba 32 g)=ba 32 f++ba 32 g:=by
 have e1:put zs 0 (ba 32 f)=ba 32 f++zs.drop 32:=by unfold put; rw [List.take_zero,List.nil_append,bP]
 rw [e1]
 unfold put
 rw [List.take_left' (bP _ _),bP,List.drop_of_length_le (by rw [List.length_append,bP,List.length_drop,hz]; exact Nat.le_refl _),List.append_nil]
theorem aEQ (f g:Nat→Y):(ba 32 f++ba 32 g).length=64:=by rw [List.length_append,bP,bP]
theorem aER (f g:Nat→Y):∀ u∈ba 32 f++ba 32 g,u.oneCell'=true:=vB (lX _ _) (lX _ _)
def mB (xs:List Y):Hd:=⟨xs.getD 4 0,xs.getD 5 0,fC (xs.drop 6) 8,fC (xs.drop 14) 8,fC (xs.drop 22) 8⟩
def cQ (xs:List Y):Hd×Int:=if xs.length<30 then (Hd.zero,10) else if xs.take 4=[116#8,97#8,110#8,116#8]∧(mB xs).right=true then (mB xs,0) else (Hd.zero,70)
theorem aUl {xs:List Y} (h:xs.length<30):cQ xs=(Hd.zero,10):=by unfold cQ; rw [if_pos h]
theorem aUb {xs:List Y} (h:¬ xs.length<30) (c:¬ (xs.take 4=[116#8,97#8,110#8,116#8]∧(mB xs).right=true)):cQ xs=(Hd.zero,70):=by unfold cQ; rw [if_neg h,if_neg c]
theorem aUg {xs:List Y} (h:¬ xs.length<30) (c:xs.take 4=[116#8,97#8,110#8,116#8]∧(mB xs).right=true):cQ xs=(mB xs,0):=by unfold cQ; rw [if_neg h,if_pos c]
theorem aAc {a b c d e:Value} (h1:a.oneCell'=true) (h2:b.oneCell'=true) (h3:c.oneCell'=true) (h4:d.oneCell'=true) (h5:e.oneCell'=true):∀ u∈[a,b,c,d,e],u.oneCell'=true:=by
 intro u hu
 simp only [List.mem_cons,List.not_mem_nil,or_false] at hu
 rcases hu with rfl|rfl|rfl|rfl|rfl<;>assumption
theorem aFF {A B:List Y} {k:Nat} (h:∀ i,i<k→A.getD i 0=B.getD i 0):fC A k=fC B k:=by
 induction k with
 | zero=>rfl
 | succ k ih=>rw [fC,fC,ih (fun i hi=>h i (by omega)),h k (by omega)]
theorem aEO {xs L:List Y} (e:L=(xs.drop 6).take (30-6)):(⟨xs.getD 4 0,xs.getD 5 0,fC L 8,fC (L.drop 8) 8,fC ((L.drop 8).drop 8) 8⟩ : Hd)=mB xs:=by
 subst e
 unfold mB
 have e1:fC ((xs.drop 6).take (30-6)) 8=fC (xs.drop 6) 8:=aFF fun i hi=>by
  simp only [List.getD_eq_getElem?_getD,List.getElem?_take]; rw [if_pos (by omega)]
 have e2:fC (((xs.drop 6).take (30-6)).drop 8) 8=fC (xs.drop 14) 8:=aFF fun i hi=>by
  simp only [List.getD_eq_getElem?_getD,List.getElem?_drop,List.getElem?_take]; rw [if_pos (by omega),show 6+(8+i)=14+i by omega]
 have e3:fC ((((xs.drop 6).take (30-6)).drop 8).drop 8) 8=fC (xs.drop 22) 8:=aFF fun i hi=>by
  simp only [List.getD_eq_getElem?_getD,List.getElem?_drop,List.getElem?_take]; rw [if_pos (by omega),show 6+(8+(8+i))=22+i by omega]
 rw [e1,e2,e3]
theorem aKV (L:List Y):((dH L).toList == (⟨#[116,97,110,116]⟩ : ByteArray).toList)=decide (L=[116#8,97#8,110#8,116#8]):=by
 have e:(⟨#[116,97,110,116]⟩ : ByteArray).toList=(dH [116#8,97#8,110#8,116#8]).toList:=by rw [ByteArray.toList_eq,ByteArray.toList_eq,qP]; rfl
 rw [e,aN3]
theorem aUc {xs L:List Y} (eL:L=xs.take 4) (c:(!((dH L).toList == (⟨#[116,97,110,116]⟩ : ByteArray).toList) || !(mB xs).right)=true) (h:xs.take 4=[116#8,97#8,110#8,116#8]∧(mB xs).right=true):False:=by
 rw [aKV,eL,h.2,decide_eq_true h.1] at c; cases c
theorem aUd {xs L:List Y} (eL:L=xs.take 4) (c:(!((dH L).toList == (⟨#[116,97,110,116]⟩ : ByteArray).toList) || !(mB xs).right)=false):xs.take 4=[116#8,97#8,110#8,116#8]∧(mB xs).right=true:=by
 rw [aKV,eL,Bool.or_eq_false_iff,Bool.not_eq_false',Bool.not_eq_false',decide_eq_true_eq] at c
 exact c
def cL (n:Nat):List Y:=if h:n<128 then [BitVec.ofNat 8 n] else BitVec.ofNat 8 (n%128+128) :: cL (n / 128)
termination_by n
decreasing_by omega
theorem uZ {n:Nat} (h:n<128):cL n=[BitVec.ofNat 8 n]:=by rw [cL,dif_pos h]
theorem aAb {n:Nat} (h:¬ n<128):cL n=BitVec.ofNat 8 (n%128+128) :: cL (n / 128):=by rw [cL,dif_neg h]
theorem aR7 (n:Nat):0<(cL n).length:=by
 by_cases h:n<128
 ·rw [uZ h]; simp
 ·rw [aAb h]; simp
theorem aI5:∀ (k n:Nat),n<128^k→0<k→(cL n).length≤k
 | 0,_,_,h=>by omega
 | k+1,n,h,_=>by
  by_cases hn:n<128
  ·rw [uZ hn]; simp
  ·rw [aAb hn]
   by_cases hk:k=0
   ·subst hk; omega
   ·have:=aI5 k (n / 128) (by rw [Nat.pow_succ] at h; omega) (by omega)
    simp; omega
theorem hJ {n:Nat} (h:n<18446744073709551616):(cL n).length≤10:=aI5 10 n (by omega) (by decide)
def fQ:Nat→Nat→List Y→Nat×Nat×Int
 | _,_,[]=>(0,0,10)
 | k,acc,x :: r =>
  if k=9∧1<x.toNat then (0,0,11)
  else if x.toNat<128 then (if 0<k∧x.toNat=0 then (0,0,11) else (acc+x.toNat*128^k,k+1,0))
  else fQ (k+1) (acc+(x.toNat-128)*128^k) r
def gB (b:List Y):Nat×Nat×Int:=fQ 0 0 b
theorem toN {n:Nat} (h:n<256):(BitVec.ofNat 8 n).toNat=n:=by rw [BitVec.toNat_ofNat]; omega
theorem aCS:(128:Nat)^9=9223372036854775808:=by decide
theorem aR2:∀ (m n k acc:Nat) (r:List Y),n≤m→acc+n*128^k<18446744073709551616→(k=0∨0<n)→k≤9→fQ k acc (cL n++r)=(acc+n*128^k,k+(cL n).length,0):=by
 intro m
 induction m with
 | zero =>
  intro n k acc r hm h1 h2 h3
  obtain rfl:n=0:=by omega
  rw [uZ (by omega)]
  have hk:k=0:=by omega
  subst hk
  simp [fQ]
 | succ m ih =>
  intro n k acc r hm h1 h2 h3
  by_cases hn:n<128
  ·rw [uZ hn]
   have ht:=toN (n:=n) (by omega)
   have h9:¬ (k=9∧1<(BitVec.ofNat 8 n).toNat):=by
    rintro ⟨rfl,h⟩
    rw [ht] at h
    rw [aCS] at h1
    omega
   simp only [List.cons_append,List.nil_append,fQ]
   rw [if_neg h9,if_pos (by omega),if_neg (by omega),ht]
   rfl
  ·rw [aAb hn]
   have ht:=toN (n:=n%128+128) (by omega)
   have hk:k<9:=by
    rcases Nat.lt_or_ge k 9 with h | h
    ·exact h
    ·have:k=9:=by omega
     subst this
     rw [aCS] at h1
     omega
   simp only [List.cons_append,fQ]
   rw [if_neg (by omega),if_neg (by omega),ht,Nat.add_sub_cancel]
   have e:acc+n%128*128^k+n / 128*128^(k+1)=acc+n*128^k:=by
    rw [Nat.pow_succ,Nat.add_assoc]
    congr 1
    have h5:n / 128*(128^k*128)=(n / 128*128)*128^k:=by rw [Nat.mul_comm (128^k) 128,Nat.mul_assoc]
    rw [h5,←Nat.add_mul]
    congr 1
    omega
   rw [ih (n / 128) (k+1) _ r (by omega) (by rw [e]; exact h1) (.inr (by omega)) (by omega),e,List.length_cons]
   congr 2
   omega
theorem aR3 {n:Nat} (h:n<18446744073709551616) (r:List Y):gB (cL n++r)=(n,(cL n).length,0):=by
 have:=aR2 n n 0 0 r (Nat.le_refl _) (by omega) (.inl rfl) (by omega)
 simpa [gB] using this
theorem aSr {j k:Nat} (h:j≤k):(128:Nat)^j≤128^k:=Nat.pow_le_pow_right (by decide) h
theorem aI3:∀ (b:List Y) (k acc v j:Nat),acc<128^k→k≤9→fQ k acc b=(v,j,0)→∃ n,v=acc+n*128^k∧(0<k→0<n)∧j=k+(cL n).length∧b=cL n++b.drop (cL n).length∧v<18446744073709551616
 | [],k,acc,v,j,_,_,h=>by simp [fQ] at h
 | x :: r,k,acc,v,j,ha,hk,h=>by
  simp only [fQ] at h
  have hx:=x.isLt
  split at h
  ·simp at h
  rename_i h9
  split at h
  ·rename_i hx1
   split at h
   ·simp at h
   rename_i h0
   simp only [Prod.mk.injEq,and_true] at h
   obtain ⟨rfl,rfl⟩:=h
   have hb:BitVec.ofNat 8 x.toNat=x:=by simp
   refine ⟨x.toNat,rfl,fun hk0=>by omega,by rw [uZ hx1]; rfl,by rw [uZ hx1,hb]; rfl,?_⟩
   rcases Nat.lt_or_ge k 9 with hlt | hge
   ·have h1:acc+x.toNat*128^k<128^(k+1):=by
     rw [Nat.pow_succ]
     have:x.toNat*128^k≤127*128^k:=Nat.mul_le_mul_right _ (by omega)
     omega
    have h2:=aSr (show k+1≤9 by omega)
    rw [aCS] at h2
    omega
   obtain rfl:k=9:=by omega
   rw [aCS] at ha ⊢
   omega
  rename_i hx1
  have hk9:k<9:=by omega
  obtain ⟨n,e1,e2,e3,e4,e5⟩:=aI3 r (k+1) (acc+(x.toNat-128)*128^k) v j (by
   rw [Nat.pow_succ]
   have:(x.toNat-128)*128^k≤127*128^k:=Nat.mul_le_mul_right _ (by omega)
   omega) (by omega) h
  have hn:=e2 (by omega)
  have hbig:¬ (n*128+(x.toNat-128))<128:=by omega
  have hnum:cL (n*128+(x.toNat-128))=x :: cL n:=by
   rw [aAb hbig]
   have q1:(n*128+(x.toNat-128))%128+128=x.toNat:=by omega
   have q2:(n*128+(x.toNat-128)) / 128=n:=by omega
   rw [q1,q2]
   simp
  refine ⟨n*128+(x.toNat-128),?_,fun _=>by omega,?_,?_,e5⟩
  ·rw [e1,Nat.pow_succ,Nat.add_mul]
   generalize 128^k=q
   have hq:n*(q*128)=n*128*q:=by rw [Nat.mul_comm q 128,←Nat.mul_assoc]
   rw [hq]
   generalize n*128*q=u
   generalize (x.toNat-128)*q=t
   omega
  ·rw [hnum,e3,List.length_cons]; omega
  rw [hnum,List.length_cons,List.drop_succ_cons,List.cons_append,←e4]
theorem aR4 {b:List Y} {v j:Nat} (h:gB b=(v,j,0)):b=cL v++b.drop j∧v<18446744073709551616∧j=(cL v).length∧j≤b.length:=by
 obtain ⟨n,e1,_,e3,e4,e5⟩:=aI3 b 0 0 v j (by simp) (by omega) h
 have hv:v=n:=by rw [e1]; simp
 subst hv
 have hj:j=(cL v).length:=by omega
 refine ⟨by rw [hj]; exact e4,e5,hj,?_⟩
 rw [hj,e4]; simp
theorem aI4:∀ (b:List Y) (k acc v j:Nat) (e:Int),fQ k acc b=(v,j,e)→e≠0→v=0∧j=0
 | [],k,acc,v,j,e,h,he=>by
  simp only [fQ,Prod.mk.injEq] at h
  exact ⟨h.1.symm,h.2.1.symm⟩
 | x :: r,k,acc,v,j,e,h,he=>by
  simp only [fQ] at h
  split at h
  ·simp only [Prod.mk.injEq] at h; exact ⟨h.1.symm,h.2.1.symm⟩
  ·split at h
   ·split at h
    ·simp only [Prod.mk.injEq] at h; exact ⟨h.1.symm,h.2.1.symm⟩
    ·simp only [Prod.mk.injEq] at h; exact absurd h.2.2.symm he
   ·exact aI4 r _ _ _ _ _ h he
structure Rd' where
 rest:List Y
 bad:Int
def rC (s:Rd'):Nat×Rd':=if s.bad≠0 then (0,s) else ((gB s.rest).1,⟨s.rest.drop (gB s.rest).2.1,(gB s.rest).2.2⟩)
def nR (xs:List Y):List Y:=cL xs.length++xs
noncomputable def B (p:Prop):Bool:=@decide p (Classical.propDecidable p)
theorem aFQ {p:Prop}:B p=true↔p:=by unfold B; exact @decide_eq_true_iff p (Classical.propDecidable p)
theorem aCs {p:Prop} (h:p):B p=true:=aFQ.2 h
theorem aFP {p:Prop} (h:¬ p):B p=false:=by
 cases hb:B p with
 | false=>rfl
 | true=>exact absurd (aFQ.1 hb) h
structure Opts where
 mem:Int
 table:Int
 zero:Int
 base:Int
 block:Int
 every:Int
 bits:Int
def Opts.cells (o:Opts):List Value:=[.int .i64 o.mem,.int .i64 o.table,.int .i64 o.zero,.int .i64 o.base,.int .i64 o.block,.int .i64 o.every,.int .i64 o.bits]
def Opts.val (o:Opts):Value:=.agg o.cells.toArray
def tP (n m:Int):Bool:=decide (0<n)&&decide (n≤m)
def oN (o:Opts):Bool :=
 tP o.mem 1048576&&tP o.table 1048576&&tP o.block 262144&&tP o.zero 64&&tP o.base 1073741824&&tP o.every 1024&&tP o.bits 64
structure Meta where
 level:Int
 gen:Int
 epoch:Int
 number:Int
 size:Int
 count:Int
 min:ByteArray
 max:ByteArray
 root:Nat→Int
def Meta.cells (m:Meta):List Value :=
 [.int .u8 m.level,.int .u64 m.gen,.int .u64 m.epoch,.int .u64 m.number,.int .i64 m.size,.int .i64 m.count,.string m.min,.string m.max]++(List.range 32).map fun i=>.int .u8 (m.root i)
def Meta.val (m:Meta):Value:=.agg m.cells.toArray
def Meta.zero:Meta:=⟨0,0,0,0,0,0,ByteArray.empty,ByteArray.empty,fun _=>0⟩
theorem Meta.len (m:Meta):m.cells.length=40:=rfl
theorem Meta.one (m:Meta):∀ u∈m.cells,u.oneCell'=true:=by
 intro u hu
 simp only [Meta.cells,List.mem_append,List.mem_cons,List.not_mem_nil,or_false,List.mem_map] at hu
 rcases hu with (rfl|rfl|rfl|rfl|rfl|rfl|rfl|rfl) | ⟨i,_,rfl⟩<;>rfl
structure Meta.wf (m:Meta):Prop where
 level:0≤m.level∧m.level<256
 number:0≤m.number∧m.number<18446744073709551616
 size : -9223372036854775808≤m.size∧m.size≤9223372036854775807
 minL:m.min.size≤9223372036854775807
 maxL:m.max.size≤9223372036854775807
 gen:0≤m.gen∧m.gen≤18446744073709551615
 epoch:0≤m.epoch∧m.epoch≤18446744073709551615
 count : -9223372036854775808≤m.count∧m.count≤9223372036854775807
 root:∀ j,j<32→0≤m.root j∧m.root j≤255
structure State where
 lv:Nat→List Meta
 log:Int
 next:Int
 seq:Int
 least:Int
 gens:Nat→Int
def State.cells (s:State) (hd:Nat→Sh):List Value :=
 (List.range 5).map (fun i=>(hd i).val (s.lv i).length)++[.int .u64 s.log,.int .u64 s.next,.int .u64 s.seq,.int .u64 s.least]++(List.range 5).map fun i=>.int .u64 (s.gens i)
def State.val (s:State) (hd:Nat→Sh):Value:=.agg (s.cells hd).toArray
theorem State.cell_lv (s:State) (hd:Nat→Sh) {k:Nat} (h:k<5):(s.cells hd)[0+k*1]? = some ((hd k).val (s.lv k).length):=by
 match k,h with
 | 0,_=>rfl | 1,_=>rfl | 2,_=>rfl | 3,_=>rfl | 4,_=>rfl
theorem State.cell_gen (s:State) (hd:Nat→Sh) {k:Nat} (h:k<5):(s.cells hd)[9+k*1]? = some (.int .u64 (s.gens k)):=by
 match k,h with
 | 0,_=>rfl | 1,_=>rfl | 2,_=>rfl | 3,_=>rfl | 4,_=>rfl
structure StR (G:PM) (s:State) (hd:Nat→Sh):Prop where
 lv:∀ i,i<5→SlR G 40 Meta.cells (hd i) (s.lv i)
 len:∀ i,i<5→(s.lv i).length*112≤140737488351232
 wf:∀ i,i<5→∀ m∈s.lv i,m.wf
theorem StR.mono {G G':PM} {s:State} {hd:Nat→Sh} (h:StR G s hd) (hle:PM.le G G'):StR G' s hd:=⟨fun i hi=>(h.lv i hi).mono hle,h.len,h.wf⟩
theorem SlR.get {G:PM} {h:Sh} {xs:List Meta} (s:SlR G 40 Meta.cells h xs) {k:Nat} (hk:k<xs.length):RdNP G h.b (h.o+k*40) (xs.getD k Meta.zero).cells :=
 s.rd k _ (by simp [hk])
theorem SlR.gat {G:PM} {h:Sh} {xs:List Meta} (s:SlR G 40 Meta.cells h xs) {j:Int} (k:Nat) (hj:j.toNat=k) (hk:k<xs.length):RdNP G h.b (h.o+j.toNat*40) (xs.getD k Meta.zero).cells:=by
 rw [hj]; exact s.get hk
theorem aB6 {xs:List Meta} {k:Nat} (h:k<xs.length):xs.getD k Meta.zero∈xs:=by simp [h]
def lt (a b:ByteArray):Bool:=Op.bytesLess a.toList b.toList
def le (a b:ByteArray):Bool:=Op.bytesLess a.toList b.toList||a.toList == b.toList
def good (s:State) (m:Meta):Bool :=
 decide (m.level<5)&&le m.min m.max&&decide ((m.min.size:Int)≤1024)&&decide ((m.max.size:Int)≤1024)&&decide (m.count≥1)&&decide (m.size≥1)&&decide (m.number<s.next)&&decide (m.gen≤s.gens m.level.toNat)
def tK (level:Int) (a b:Meta):Bool:=if level=0 then decide (b.number<a.number) else lt a.max b.min
theorem aKA (a b:Meta) (h0:0≤a.level):(if (a.level == 0)=true then decide (a.number > b.number) else lt a.max b.min)=tK a.level a b:=by
 unfold tK
 by_cases h:a.level=0
 ·simp [h]
 ·simp [h]
theorem aPb {s:State} {m:Meta} (h1:m.level<5) (h2:(!(Op.bytesLess m.min.toList m.max.toList||m.min.toList == m.max.toList))=false)
  (h3:(if ((m.max.size:Nat):Int) > ((m.min.size:Nat):Int) then ((m.max.size:Nat):Int) else ((m.min.size:Nat):Int))≤1024) (h4:1≤m.count) (h5:1≤m.size) :
  iB [.bool (decide (m.number<s.next)&&decide (m.gen≤s.gens m.level.toNat))]=.bool (good s m):=by
 have h2':le m.min m.max=true:=by unfold le; cases h:(Op.bytesLess m.min.toList m.max.toList||m.min.toList == m.max.toList)<;>simp_all
 have h6:((m.min.size:Nat):Int)≤1024∧((m.max.size:Nat):Int)≤1024:=by split at h3<;>omega
 simp only [iB,good,h2',decide_eq_true h1,decide_eq_true h6.1,decide_eq_true h6.2,decide_eq_true (show m.count≥1 from h4),decide_eq_true (show m.size≥1 from h5),Bool.true_and]
def tot (s:State):Nat→Int
 | 0=>0
 | n+1=>tot s n+(s.lv n).length
theorem aFE (s:State):∀ n,0≤tot s n
 | 0=>Int.le_refl _
 | n+1=>by have:=aFE s n; simp only [tot]; omega
theorem aCj (s:State):∀ {n m:Nat},n≤m→tot s n≤tot s m:=by
 intro n m h
 induction h with
 | refl=>exact Int.le_refl _
 | step _ ih=>simp only [tot]; omega
def iJ (l:List Meta):List Int:=l.map (·.number)
def dD (s:State):Nat→List Meta
 | 0=>[]
 | n+1=>dD s n++s.lv n
theorem aDk (s:State):∀ n,((dD s n).length:Int)=tot s n
 | 0=>rfl
 | n+1=>by simp only [dD,tot,List.length_append,←aDk s n]; omega
def aBd (s:State) (i:Nat) (l:List Meta):Prop :=
 (∀ m∈l,m.level=i∧good s m=true)∧∀ j,j+1<l.length→tK i (l.getD j Meta.zero) (l.getD (j+1) Meta.zero)=true
structure RightP (s:State):Prop where
 seq:s.seq≤72057594037927935
 least:s.least≤72057594037927935
 log:s.log≤s.next
 few:tot s 5≤1024
 lv:∀ i,i<5→aBd s i (s.lv i)
 apart:∀ a b,a<(dD s 5).length→b<a→((dD s 5).getD a Meta.zero).number≠((dD s 5).getD b Meta.zero).number
noncomputable def vF (s:State):Bool:=B (RightP s)
theorem aEw {s:State} (h:RightP s):vF s=true:=aCs h
theorem aTP {s:State} (h:¬ RightP s):vF s=false:=aFP h
theorem aCI (l:List Meta):∀ x∈l,x.cells.length=40:=fun x _=>x.len
theorem aRH (l:List Meta):∀ u∈l.flatMap Meta.cells,u.oneCell'=true:=fun u hu=>by
 obtain ⟨m,_,hm⟩:=List.mem_flatMap.1 hu
 exact m.one u hm
theorem aEE {s:State} (h:¬ RightP s):iB [.bool false]=.bool (vF s):=by rw [aTP h]; rfl
theorem aPY {s:State} (h:RightP s):iB [.bool true]=.bool (vF s):=by rw [aEw h]; rfl
theorem aJr {s:State} {i k:Nat} (hi:i<5) (hk:k<(s.lv i).length) (h:(((s.lv i).getD k Meta.zero).level != (i:Int))=true∨good s ((s.lv i).getD k Meta.zero)=false):¬ RightP s:=by
 intro hr
 have:=(hr.lv i hi).1 _ (aB6 hk)
 rcases h with h | h
 ·rw [this.1] at h; simp at h
 ·rw [this.2] at h; cases h
theorem State.arr_lv (s:State) (hd:Nat→Sh) {k:Nat} (h:k<5):(((s.cells hd).drop 0).take 5)[k]? = some ((hd k).val (s.lv k).length):=by
 match k,h with
 | 0,_=>rfl | 1,_=>rfl | 2,_=>rfl | 3,_=>rfl | 4,_=>rfl
theorem RdNP.add {G:PM} {b:Nat} {cs:List Value} {T:TypeId}:RdNP (G.add b (cl cs T)) b 0 cs:=fun j v hj=>by
 rw [Nat.zero_add]; exact RdP.blk (bU G b _) hj
def cnt (L:List Int) (x:Int):Int:=if x∈L then 1 else 0
def lY (L:List Int) (x:Int):Option Value:=if x∈L then some (.int .i64 1) else none
theorem aOF (L:List Int) (x:Int):(lY L x).getD (.int .i64 0)=.int .i64 (cnt L x):=by unfold lY cnt; split<;>rfl
theorem aOE (L:List Int) (x:Int):0≤cnt L x∧cnt L x≤1:=by unfold cnt; split<;>omega
theorem aOL (m:Int→Option Value) (x:Int) (u z:Value):((fun j=>if j=x then some u else m j) x).getD z=u:=by simp
theorem aOJ {L:List Int} {x:Int} (h:x∉L):(fun j=>if j=x then some (Value.int .i64 (cnt L x+1)) else lY L j)=lY (L++[x]):=by
 funext j
 unfold lY cnt
 by_cases hj:j=x
 ·subst hj; simp [h]
 ·simp [hj]
theorem aOI {L:List Int} {x:Int} (h:cnt L x+1≤1):x∉L:=by intro hm; simp [cnt,hm] at h
theorem aOG {L:List Int} {x:Int} (h:1<cnt L x+1):x∈L:=by
 by_cases hm:x∈L
 ·exact hm
 ·simp [cnt,hm] at h
def rU (l:List Meta):Prop:=∀ a b,a<l.length→b<a→(l.getD a Meta.zero).number≠(l.getD b Meta.zero).number
theorem aB5 {l r:List Meta} {k:Nat} (h:k<l.length):(l++r).getD k Meta.zero=l.getD k Meta.zero:=by
 simp [List.getElem?_append_left h]
theorem aH5 {l r:List Meta} {m:Meta}:(l++m :: r).getD l.length Meta.zero=m:=by simp
theorem aO5:rU []:=fun a b h=>by simp at h
theorem aO6 {l:List Meta} {m:Meta} (h:rU l) (hm:m.number∉iJ l):rU (l++[m]):=by
 intro a b ha hb
 simp only [List.length_append,List.length_singleton] at ha
 by_cases e:a=l.length
 ·subst e
  rw [aH5,aB5 hb]
  intro e
  exact hm (List.mem_map.2 ⟨_,aB6 hb,e.symm⟩)
 ·rw [aB5 (by omega),aB5 (by omega)]
  exact h a b (by omega) hb
theorem aGp (s:State) {i:Nat}:∀ {n:Nat},i<n→∃ r,dD s n=dD s i++s.lv i++r
 | 0,h=>by omega
 | n+1,h=>by
  by_cases e:i=n
  ·subst e; exact ⟨[],by simp [dD]⟩
  ·obtain ⟨r,hr⟩:=aGp s (i:=i) (n:=n) (by omega)
   exact ⟨r++s.lv n,by simp [dD,hr]⟩
theorem aAq {l:List Meta} {k:Nat} (h:k<l.length):l.take (k+1)=l.take k++[l.getD k Meta.zero]:=by
 rw [List.take_succ_eq_append_getElem h]; simp [h]
theorem aTa {s:State} {i k:Nat} (hi:i<5) (hk:k<(s.lv i).length) (h:((s.lv i).getD k Meta.zero).number∈iJ (dD s i++(s.lv i).take k)):¬ RightP s:=by
 intro hr
 obtain ⟨r,hr5⟩:=aGp s hi
 have hsplit:dD s 5=(dD s i++(s.lv i).take k)++((s.lv i).getD k Meta.zero) :: ((s.lv i).drop (k+1)++r):=by
  rw [hr5]
  have:s.lv i=(s.lv i).take k++(s.lv i).getD k Meta.zero :: (s.lv i).drop (k+1):=by
   have h1:=List.take_append_drop (k+1) (s.lv i)
   rw [aAq hk] at h1
   simpa using h1.symm
  generalize hm:(s.lv i).getD k Meta.zero=m at this
  rw [show dD s i++s.lv i++r=dD s i++(s.lv i)++r from rfl]
  conv=>lhs; rw [this]
  simp
 obtain ⟨m,hm,hmn⟩:=List.mem_map.1 h
 obtain ⟨b,hb,rfl⟩:=List.getElem_of_mem hm
 have:=hr.apart (dD s i++(s.lv i).take k).length b (by rw [hsplit]; simp) hb
 rw [hsplit,aH5,aB5 hb] at this
 apply this
 rw [← hmn,List.getD_eq_getElem?_getD,List.getElem?_eq_getElem hb]
 rfl
theorem aOM (s:State) (i b:Nat):Res.mp b .u64 (lY (iJ (dD s i)))=Res.mp b .u64 (lY (iJ (dD s i++(s.lv i).take 0))):=by simp
theorem aOH {s:State} {i k b:Nat} (h:(s.lv i).length≤k):Res.mp b .u64 (lY (iJ (dD s i++(s.lv i).take k)))=Res.mp b .u64 (lY (iJ (dD s (i+1)))):=by
 rw [List.take_of_length_le h]; rfl
theorem aOK {s:State} {i k b:Nat} (hk:k<(s.lv i).length) (h:((s.lv i).getD k Meta.zero).number∉iJ (dD s i++(s.lv i).take k)) :
  Res.mp b .u64 (fun j=>if j=((s.lv i).getD k Meta.zero).number then some (Value.int .i64 (cnt (iJ (dD s i++(s.lv i).take k)) ((s.lv i).getD k Meta.zero).number+1)) else lY (iJ (dD s i++(s.lv i).take k)) j) =
   Res.mp b .u64 (lY (iJ (dD s i++(s.lv i).take (k+1)))):=by
 rw [aOJ h,aAq hk]
 simp [iJ]
structure Part (s:State) (i k:Nat):Prop where
 le:k≤(s.lv i).length
 good:∀ j,j<k→((s.lv i).getD j Meta.zero).level=i∧good s ((s.lv i).getD j Meta.zero)=true
 pair:∀ j,j+1<k→tK i ((s.lv i).getD j Meta.zero) ((s.lv i).getD (j+1) Meta.zero)=true
 dist:rU (dD s i++(s.lv i).take k)
theorem Part.zero {s:State} {i:Nat} (h:rU (dD s i)):Part s i 0:=⟨Nat.zero_le _,fun j hj=>by omega,fun j hj=>by omega,by simpa using h⟩
theorem Part.step {s:State} {i k:Nat} (h:Part s i k) (hk:k<(s.lv i).length) (h1:((s.lv i).getD k Meta.zero).level=i∧Go.Tan.good s ((s.lv i).getD k Meta.zero)=true)
  (h2:((s.lv i).getD k Meta.zero).number∉iJ (dD s i++(s.lv i).take k)) (h3:0<k→tK i ((s.lv i).getD (k-1) Meta.zero) ((s.lv i).getD k Meta.zero)=true):Part s i (k+1):=by
 refine ⟨by omega,fun j hj=>?_,fun j hj=>?_,?_⟩
 ·by_cases e:j=k
  ·subst e; exact h1
  exact h.good j (by omega)
 ·by_cases e:j+1=k
  ·subst e; have:=h3 (by omega); simpa using this
  exact h.pair j (by omega)
 rw [aAq hk,←List.append_assoc]; exact aO6 h.dist h2
theorem Part.lvOk {s:State} {i k:Nat} (h:Part s i k) (hk:(s.lv i).length≤k):aBd s i (s.lv i) :=
 ⟨fun m hm=>by
  obtain ⟨q,hq,rfl⟩:=List.getElem_of_mem hm
  have:=h.good q (by omega)
  simpa [hq] using this,fun j hj=>h.pair j (by omega)⟩
theorem Part.next {s:State} {i k:Nat} (h:Part s i k) (hk:(s.lv i).length≤k):rU (dD s (i+1)):=by
 have:=h.dist; rw [List.take_of_length_le hk] at this; exact this
theorem aTb {s:State} {i:Nat} (hi:i<5) (h:1024-tot s i<(s.lv i).length):¬ RightP s:=by
 intro hr
 have h1:=aCj s (show i+1≤5 by omega)
 rw [show tot s (i+1)=tot s i+(s.lv i).length from rfl] at h1
 have:=hr.few
 omega
theorem aTc {s:State} (h:72057594037927935<(if s.least > s.seq then s.least else s.seq)∨s.next<s.log):¬ RightP s:=by
 intro hr
 have h1:=hr.seq; have h2:=hr.least; have h3:=hr.log
 rcases h with h | h
 ·split at h<;>omega
 ·omega
theorem aTZ {s:State} {i:Nat} (h1:(if s.least > s.seq then s.least else s.seq)≤72057594037927935∧s.log≤s.next) (hi:i=5) (ht:tot s i≤1024) (hall:∀ j,j<i→aBd s j (s.lv j)) (hd:rU (dD s i)):RightP s:=by
 subst hi
 refine ⟨?_,?_,h1.2,ht,hall,hd⟩
 ·have:=h1.1; split at this<;>omega
 have:=h1.1; split at this<;>omega
theorem aTd {s:State} {i k:Nat} (hi:i<5) (hk:k<(s.lv i).length) (hp:Part s i k)
  (h:((((s.lv i).getD k Meta.zero).level != (i:Int)) || !good s ((s.lv i).getD k Meta.zero)||decide (cnt (iJ (dD s i++(s.lv i).take k)) ((s.lv i).getD k Meta.zero).number+1 > 1) ||
   (decide ((k:Int) > 0) && !tK ((s.lv i).getD (k-1) Meta.zero).level ((s.lv i).getD (k-1) Meta.zero) ((s.lv i).getD k Meta.zero)))=true):¬ RightP s:=by
 simp only [Bool.or_eq_true,Bool.and_eq_true,decide_eq_true_eq,Bool.not_eq_true'] at h
 rcases h with ((h | h) | h) | ⟨h1,h2⟩
 ·exact aJr hi hk (.inl h)
 ·exact aJr hi hk (.inr h)
 ·exact aTa hi hk (aOG (by omega))
 ·intro hr
  have h3:=(hr.lv i hi).2 (k-1) (by omega)
  rw [show k-1+1=k by omega] at h3
  rw [(hp.good (k-1) (by omega)).1,h3] at h2
  cases h2
theorem aTe {s:State} {i k:Nat} (hk:k<(s.lv i).length) (hp:Part s i k)
  (h:((((s.lv i).getD k Meta.zero).level != (i:Int)) || !good s ((s.lv i).getD k Meta.zero)||decide (cnt (iJ (dD s i++(s.lv i).take k)) ((s.lv i).getD k Meta.zero).number+1 > 1) ||
   (decide ((k:Int) > 0) && !tK ((s.lv i).getD (k-1) Meta.zero).level ((s.lv i).getD (k-1) Meta.zero) ((s.lv i).getD k Meta.zero)))=false) :
  Part s i (k+1)∧((s.lv i).getD k Meta.zero).number∉iJ (dD s i++(s.lv i).take k):=by
 simp only [Bool.or_eq_false_iff,Bool.and_eq_false_iff,decide_eq_false_iff_not,Bool.not_eq_false',bne_eq_false_iff_eq] at h
 obtain ⟨⟨⟨h1,h2⟩,h3⟩,h4⟩:=h
 have hn:=aOI (show cnt (iJ (dD s i++(s.lv i).take k)) ((s.lv i).getD k Meta.zero).number+1≤1 by omega)
 refine ⟨hp.step hk ⟨h1,h2⟩ hn fun h0=>?_,hn⟩
 rcases h4 with h4 | h4
 ·omega
 rw [(hp.good (k-1) (by omega)).1] at h4; exact h4
def kO (lo hi:ByteArray) (m:Meta):Bool := !lt m.max lo&&le m.min hi
def nO (s:State) (level:Int) (lo hi:ByteArray):List Meta:=if 0≤level∧level<5 then (s.lv level.toNat).filter (kO lo hi) else []
theorem aJD {s:State} {level:Int} {lo hi:ByteArray} (h:0≤level∧level<5):nO s level lo hi=(s.lv level.toNat).filter (kO lo hi):=by rw [nO,if_pos h]
theorem aJE {s:State} {level:Int} {lo hi:ByteArray} (h:level<0∨5≤level):nO s level lo hi=[]:=by rw [nO,if_neg (by omega)]
theorem aPW (l:List Meta) (p:Meta→Bool) (k:Nat):((l.take k).filter p).length≤l.length:=Nat.le_trans (List.length_filter_le _ _) (by simp only [List.length_take]; omega)
theorem aSa {l:List Meta} {lo hi:ByteArray} {k E:Nat} {v:Value} (hk:k<l.length) (h:kO lo hi (l.getD k Meta.zero)=true) :
  Res.row v E 40 (((l.take k).filter (kO lo hi)).length+1) (((l.take k).filter (kO lo hi)).flatMap Meta.cells++(l.getD k Meta.zero).cells)=Res.row v E 40 ((l.take (k+1)).filter (kO lo hi)).length (((l.take (k+1)).filter (kO lo hi)).flatMap Meta.cells):=by
 generalize hm:l.getD k Meta.zero=m at h ⊢
 rw [aAq hk,hm,List.filter_append,List.filter_cons_of_pos h]
 simp
theorem aSZ {l:List Meta} {lo hi:ByteArray} {k E:Nat} {v:Value} (hk:k<l.length) (h:kO lo hi (l.getD k Meta.zero)=false) :
  Res.row v E 40 ((l.take k).filter (kO lo hi)).length (((l.take k).filter (kO lo hi)).flatMap Meta.cells)=Res.row v E 40 ((l.take (k+1)).filter (kO lo hi)).length (((l.take (k+1)).filter (kO lo hi)).flatMap Meta.cells):=by
 generalize hm:l.getD k Meta.zero=m at h
 rw [aAq hk,hm,List.filter_append,List.filter_cons_of_neg (by simp [h])]
 simp
def State.zero:State:=⟨fun _=>[],0,0,0,0,fun _=>0⟩
def dE:Nat→Sh:=fun _=>⟨none,0⟩
theorem aUM {G:PM}:StR G State.zero dE:=⟨fun _ _=>SlR.nul,fun _ _=>Nat.zero_le _,fun _ _ m hm=>nomatch hm⟩
theorem aTR:vF State.zero=true:=by
 refine aEw ⟨by decide,by decide,by decide,by decide,fun i _=>⟨fun m hm=>(nomatch hm),fun j hj=>absurd hj (Nat.not_lt_zero _)⟩,fun a b ha=>absurd ha (Nat.not_lt_zero _)⟩
structure Gone where
 level:Int
 number:Int
def Gone.cells (g:Gone):List Value:=[.int .u8 g.level,.int .u64 g.number]
structure Gone.wf (g:Gone):Prop where
 level:0≤g.level∧g.level<256
 number:0≤g.number∧g.number<18446744073709551616
structure Edit where
 log:Int
 next:Int
 seq:Int
 least:Int
 gens:Nat→Int
 add:List Meta
 drop:List Gone
def Edit.cells (e:Edit) (ha hd:Sh):List Value :=
 [.int .u64 e.log,.int .u64 e.next,.int .u64 e.seq,.int .u64 e.least]++(List.range 5).map (fun i=>.int .u64 (e.gens i))++[ha.val e.add.length,hd.val e.drop.length]
def Edit.val (e:Edit) (ha hd:Sh):Value:=.agg (e.cells ha hd).toArray
def u64 (x:Int):Prop:=0≤x∧x<18446744073709551616
structure Edit.wf (e:Edit):Prop where
 log:u64 e.log
 next:u64 e.next
 seq:u64 e.seq
 least:u64 e.least
 gens:∀ i,i<5→u64 (e.gens i)
 add:∀ m∈e.add,m.wf
 drop:∀ g∈e.drop,g.wf
structure EdR (G:PM) (e:Edit) (ha hd:Sh):Prop where
 add:SlR G 40 Meta.cells ha e.add
 drop:SlR G 2 Gone.cells hd e.drop
 wf:e.wf
theorem EdR.mono {G G':PM} {e:Edit} {ha hd:Sh} (h:EdR G e ha hd) (hle:PM.le G G'):EdR G' e ha hd:=⟨h.add.mono hle,h.drop.mono hle,h.wf⟩
def yE (x:Int):Nat:=(x%18446744073709551616).toNat
theorem aKa (x:Int):yE x<18446744073709551616:=by unfold yE; omega
def eF (m:Meta):List Y :=
 cL m.level.toNat++cL m.gen.toNat++cL m.epoch.toNat++cL m.number.toNat++cL (yE m.size)++cL (yE m.count)++nR (yb m.min)++nR (yb m.max)++(List.range 32).map fun i=>BitVec.ofInt 8 (m.root i)
def gL (g:Gone):List Y:=cL g.level.toNat++cL g.number.toNat
def dC (l:List Int):List Y:=l.flatMap fun x=>cL x.toNat
def kC (e:Edit):List Y :=
 cL e.log.toNat++cL e.next.toNat++cL e.seq.toNat++cL e.least.toNat++((List.range 5).flatMap fun i=>cL (e.gens i).toNat)++cL e.add.length++e.add.flatMap eF++cL e.drop.length++e.drop.flatMap gL
theorem aSU (x:Y):(x ||| 128#8).toNat=x.toNat%128+128:=by
 have h:=x.isLt
 have hd:∀ y:Y,(y ||| 128#8).toNat=y.toNat%128+128:=by decide
 exact hd x
theorem aNe (x:Y):(x &&& 127#8).toNat=x.toNat%128:=by
 have hd:∀ y:Y,(y &&& 127#8).toNat=y.toNat%128:=by decide
 exact hd x
theorem aR6 {m:BitVec 64} (h:¬ m.toNat<128):cL m.toNat=(m.setWidth 8 ||| 128#8) :: cL (m >>> 7).toNat:=by
 rw [aAb h]
 have e1:BitVec.ofNat 8 (m.toNat%128+128)=m.setWidth 8 ||| 128#8:=by
  apply BitVec.eq_of_toNat_eq
  rw [aSU,BitVec.toNat_ofNat,BitVec.toNat_setWidth]
  omega
 have e2:(m >>> 7).toNat=m.toNat / 128:=by rw [BitVec.toNat_ushiftRight,Nat.shiftRight_eq_div_pow]
 rw [e1,e2]
theorem aR5 {m:BitVec 64} (h:m.toNat<128):cL m.toNat=[m.setWidth 8]:=by
 rw [uZ h]
 rfl
theorem aT0 (m:BitVec 64):(m >>> 7).toNat=m.toNat / 128:=by rw [BitVec.toNat_ushiftRight,Nat.shiftRight_eq_div_pow]
theorem uvI {x:Int} (h:u64 x):Value.int .u64 x=uv .u64 (BitVec.ofInt 64 x):=by
 unfold u64 at h
 show Value.int .u64 x=Value.int .u64 (((BitVec.ofInt 64 x).toNat:Nat):Int)
 congr 1
 rw [BitVec.toNat_ofInt]
 omega
theorem ofI {x:Int} (h:u64 x):(BitVec.ofInt 64 x).toNat=x.toNat:=by
 unfold u64 at h
 rw [BitVec.toNat_ofInt]; omega
theorem aJL (k:Nat):(128:Nat)^k=2^(7*k):=by rw [Nat.pow_mul]
theorem aGm {w:BitVec 64} {x:Y} {k:Nat} (hw:w.toNat<128^k) (hk:k≤9) (hx:k=9→x.toNat≤1):(w ||| (x &&& 127#8).setWidth 64 <<< (7*k)).toNat=w.toNat+(x.toNat%128)*128^k:=by
 have hxl:=x.isLt
 have h1:((x &&& 127#8).setWidth 64 <<< (7*k)).toNat=2^(7*k)*(x.toNat%128):=by
  rw [BitVec.toNat_shiftLeft,BitVec.toNat_setWidth,aNe,Nat.mod_eq_of_lt (a:=x.toNat%128) (by omega),Nat.shiftLeft_eq,Nat.mul_comm]
  refine Nat.mod_eq_of_lt ?_
  rcases Nat.lt_or_ge k 9 with h | h
  ·have h2:(2:Nat)^(7*k)≤2^56:=Nat.pow_le_pow_right (by decide) (by omega)
   have h3:2^(7*k)*(x.toNat%128)≤2^56*127:=Nat.mul_le_mul h2 (by omega)
   have h4:(2:Nat)^56*127<2^64:=by decide
   omega
  obtain rfl:k=9:=by omega
  have:=hx rfl
  have h3:(2:Nat)^(7*9)*(x.toNat%128)≤2^(7*9)*1:=Nat.mul_le_mul_left _ (by omega)
  have h4:(2:Nat)^(7*9)*1<2^64:=by decide
  omega
 rw [BitVec.toNat_or,h1]
 have h5:=Nat.two_pow_add_eq_or_of_lt (i:=7*k) (b:=w.toNat) (by rw [← aJL]; exact hw) (x.toNat%128)
 rw [show w.toNat ||| 2^(7*k)*(x.toNat%128)=2^(7*k)*(x.toNat%128) ||| w.toNat from Nat.or_comm _ _,←h5,←aJL,Nat.mul_comm]
 omega
theorem aBt {xs:List Y} {k:Nat} (h:k<xs.length):xs.drop k=xs.getD k 0 :: xs.drop (k+1):=by
 rw [List.drop_eq_getElem_cons h]; simp [h]
section
variable {xs:List Y} {k:Nat} {w:BitVec 64}
theorem aRy (e:gB xs=fQ k w.toNat (xs.drop k)) (h:k<xs.length) (hk:k=9) (hx:1<(xs.getD k 0).toNat):gB xs=(0,0,11):=by
 rw [e,aBt h,fQ,if_pos ⟨hk,hx⟩]
theorem aR0 (e:gB xs=fQ k w.toNat (xs.drop k)) (h:k<xs.length) (hk:0<k) (hx:(xs.getD k 0).toNat=0):gB xs=(0,0,11):=by
 rw [e,aBt h,fQ,if_neg (by omega),if_pos (by omega),if_pos ⟨hk,hx⟩]
theorem aRx (e:gB xs=fQ k w.toNat (xs.drop k)) (hw:w.toNat<128^k) (h9:k≤9) (h:k<xs.length) (hf:¬ (k=9∧1<(xs.getD k 0).toNat)) (hx:(xs.getD k 0).toNat<128) (hz:¬ (0<k∧(xs.getD k 0).toNat=0)) :
  gB xs=((w ||| (xs.getD k 0 &&& 127#8).setWidth 64 <<< (7*k)).toNat,k+1,0):=by
 rw [e,aBt h,fQ,if_neg hf,if_pos hx,if_neg hz,aGm hw h9 (by omega),Nat.mod_eq_of_lt hx]
theorem aEf (e:gB xs=fQ k w.toNat (xs.drop k)) (hw:w.toNat<128^k) (h9:k≤9) (h:k<xs.length) (hf:¬ (k=9∧1<(xs.getD k 0).toNat)) (hx:¬ (xs.getD k 0).toNat<128) :
  gB xs=fQ (k+1) (w ||| (xs.getD k 0 &&& 127#8).setWidth 64 <<< (7*k)).toNat (xs.drop (k+1))∧(w ||| (xs.getD k 0 &&& 127#8).setWidth 64 <<< (7*k)).toNat<128^(k+1)∧k+1≤9:=by
 have hxl:=(xs.getD k 0).isLt
 have hm:(xs.getD k 0).toNat%128=(xs.getD k 0).toNat-128:=by omega
 rw [aGm hw h9 (by omega),hm]
 refine ⟨by rw [e,aBt h,fQ,if_neg hf,if_neg hx],?_,by omega⟩
 rw [Nat.pow_succ]
 have:((xs.getD k 0).toNat-128)*128^k≤127*128^k:=Nat.mul_le_mul_right _ (by omega)
 omega
theorem aRz (e:gB xs=fQ k w.toNat (xs.drop k)) (h:xs.length≤k):gB xs=(0,0,10):=by
 rw [e,List.drop_of_length_le h,fQ]
end
structure NumR (xs:List Y) (n k:Nat) (e:Int):Prop where
 eq:gB xs=(n,k,e)
 lt:n<18446744073709551616
 le:k≤xs.length
theorem NumR.of {xs:List Y} {n k:Nat} {e:Int} (h:gB xs=(n,k,e)):NumR xs n k e:=by
 by_cases he:e=0
 ·subst he
  obtain ⟨_,h2,_,h4⟩:=aR4 h
  exact ⟨h,h2,h4⟩
 ·obtain ⟨rfl,rfl⟩:=aI4 xs 0 0 n k e h he
  exact ⟨h,by decide,Nat.zero_le _⟩
theorem aS6 {xs:List Y} {e:Int} (h:¬ e=0):rC ⟨xs,e⟩=(0,⟨xs,e⟩):=by unfold rC; rw [if_pos h]
theorem aS7 {xs L:List Y} {e e':Int} {n k:Nat} (h:e=0) (hN:NumR xs n k e') (eL:L=xs.drop k):rC ⟨xs,e⟩=(n,⟨L,e'⟩):=by
 unfold rC; rw [if_neg (by simp [h])]; simp only [hN.eq,eL]
def aD8 (xs:List Y) (e:Int):Int:=if e=0∧0<xs.length then 12 else e
section
variable {P:Program} {G:PM} {μ:aG}
theorem pV {f:FuncId} {args:Array Value} {b:Nat} {o:Obj} {post:PM→aG→Value→Prop} (h:PM.le G (G.add b o)→Ct P f args (G.add b o) μ post):Ct P f args G (.blk b o :: μ) post:=by
 intro w hs
 have hk:keys (.blk b o :: μ)=b :: keys μ:=by simp [keys,Res.keys]
 have hnd:=hs.nodup
 rw [hk] at hnd
 have hbμ:=(List.nodup_cons.1 hnd).1
 have hbo:w.heap[b]? = some o:=hs.own _ (List.mem_cons_self ..)
 have hs2:Sat (G.add b o) μ w:=by
  refine ⟨fun c u hc=>?_,fun r hr=>hs.own r (List.mem_cons_of_mem _ hr),fun c hc=>?_,(List.nodup_cons.1 hnd).2⟩
  ·unfold PM.add at hc
   split at hc
   ·rename_i e; subst e; cases hc; exact hbo
   exact hs.sub c u hc
  unfold PM.add
  rw [if_neg (fun (e:c=b)=>hbμ (e▸hc))]
  exact hs.apart c (by rw [hk]; exact List.mem_cons_of_mem _ hc)
 refine (h (PM.le_add (hs.apart b (by simp [keys,Res.keys]))) w hs2).mono ?_
 rintro e w' ⟨v,G',μ',rfl,ht,hQ⟩
 refine ⟨v,G',μ',rfl,⟨ht.sat,ht.os,ht.tape,ht.output,ht.size,fun c hc hK=>?_,fun c hc=>?_,fun c u hK hc=>?_⟩,hQ⟩
 ·rw [hk] at hK
  have hne:c≠b:=fun e=>hK (by rw [e]; exact List.mem_cons_self ..)
  have h1:=ht.old c hc (fun hm=>hK (List.mem_cons_of_mem _ hm))
  refine ⟨h1.1,?_⟩
  rw [h1.2]
  unfold PM.add
  rw [if_neg hne]
 ·rw [hk]
  rcases ht.mine c hc with h1 | h1
  ·exact .inl (List.mem_cons_of_mem _ h1)
  exact .inr h1
 rw [hk] at hK
 have hne:c≠b:=fun e=>hK (by rw [e]; exact List.mem_cons_self ..)
 exact ht.le c u (fun hm=>hK (List.mem_cons_of_mem _ hm)) (by unfold PM.add; rw [if_neg hne]; exact hc)
end
def nA (x:Int):List Value:=[.int .u64 x]
theorem aHd:∀ ns:List Int,ns.flatMap nA=ns.map (Value.int .u64)
 | []=>rfl
 | x :: ns=>by rw [List.flatMap_cons,aHd ns]; rfl
theorem SlR.u1 {G:PM} {s:Sh} {xs:List Int} (h:SlR G 1 nA s xs) {j:Int} (k:Nat) {x:Int} (hj:j.toNat=k) (hx:xs[k]? = some x):RdP G ⟨s.b,s.o+j.toNat*1,none⟩ (.int .u64 x):=by
 have:=(h.nth k hj hx) 0 _ rfl
 simpa using this
theorem SlR.part {G:PM} {b o cap:Nat} {ns:List Int} {cs:List Value} (hp:RdNP G b 0 cs) (hc:(cs.drop o).take ns.length=ns.flatMap nA) (h:ns.length≤cap):SlR G 1 nA ⟨some ⟨b,o,none⟩,cap⟩ ns:=by
 refine ⟨fun _=>rfl,h,fun i x hx j v hj=>?_⟩
 have h0:j=0∧v=.int .u64 x:=by
  cases j with
  | zero=>simp [nA] at hj; exact ⟨rfl,hj.symm⟩
  | succ j=>simp [nA] at hj
 obtain ⟨rfl,rfl⟩:=h0
 have hi:i<ns.length:=by
  rcases Nat.lt_or_ge i ns.length with h | h
  ·exact h
  rw [List.getElem?_eq_none h] at hx; cases hx
 have hg:cs[o+i]? = some (.int .u64 x):=by
  have:=congrArg (fun l=>l[i]?) hc
  simp only [aHd,List.getElem?_map,hx,List.getElem?_take,if_pos hi,List.getElem?_drop] at this
  exact this
 have:=hp (o+i) (.int .u64 x) hg
 simpa [Sh.b,Sh.o] using this
theorem aR9 {ns:List Int} {k:Nat} {x:Int} (h:ns[k]? = some x):dC (ns.take (k+1))=dC (ns.take k)++cL x.toNat:=by
 rw [List.take_add_one,h]; simp [dC]
theorem gD:∀ {ns:List Int},(∀ x∈ns,u64 x)→(dC ns).length≤10*ns.length
 | [],_=>by simp [dC]
 | x :: ns,h=>by
  have h1:=h x (List.mem_cons_self ..)
  unfold u64 at h1
  have h2:=hJ (n:=x.toNat) (by omega)
  have h3:=gD (ns:=ns) (fun y hy=>h y (List.mem_cons_of_mem _ hy))
  have:dC (x :: ns)=cL x.toNat++dC ns:=by simp [dC]
  rw [this,List.length_append,List.length_cons]; omega
theorem aSA {ns:List Int} (h:∀ x∈ns,u64 x) (k:Nat):(dC (ns.take k)).length≤10*ns.length:=by
 have h1:=gD (ns:=ns.take k) (fun x hx=>h x (List.mem_of_mem_take hx))
 rw [List.length_take] at h1; omega
theorem aUx {bad:Bool} {n most:Nat} {e:Int}:((bad||decide ((most:Int)<(n:Int))) || !decide (e=0))=(bad||(decide (most<n) || !decide (e=0))):=by
 rw [Bool.or_assoc,decide_eq_decide.2 (show ((most:Int)<(n:Int))↔most<n by omega)]
def kI (s:State) (u:ByteArray):Nat→List Meta
 | 0=>[]
 | n+1=>kI s u n++nO s (n:Int) u u
theorem aJF (s:State) (k:Nat) (u:ByteArray):(nO s (k:Int) u u).length≤(s.lv k).length:=by
 unfold nO
 split
 ·exact List.length_filter_le _ _
 ·simp
theorem aIZ (s:State) (u:ByteArray):∀ n,((kI s u n).length:Int)≤tot s n
 | 0=>by simp [kI,tot]
 | n+1=>by
  have h1:=aIZ s u n
  have h2:=aJF s n u
  simp only [kI,tot,List.length_append]; omega
theorem aQz (s:State) (u:ByteArray) (k:Nat) (v:Value) (E:Nat):Res.row v E 40 ((kI s u k).length+(nO s (k:Int) u u).length) ((kI s u k).flatMap Meta.cells++(nO s (k:Int) u u).flatMap Meta.cells)=Res.row v E 40 (kI s u (k+1)).length ((kI s u (k+1)).flatMap Meta.cells):=by
 simp only [kI,List.length_append,List.flatMap_append]
def iS (g:Nat→Int):List Value:=(List.range 9).map fun i=>.int .u64 (g i)
theorem xP (g:Nat→Int):(iS g).length=9:=by simp [iS]
theorem aRc {g:Nat→Int} {k:Nat} {x:Int} {v w:Value} (hk:k<9):(iS g++[v,w]).set k (.int .u64 x)=iS (bG g k x)++[v,w]:=by
 rw [List.set_append_left _ _ (by rw [xP]; exact hk)]
 congr 1
 refine List.ext_getElem? fun i=>?_
 rw [List.getElem?_set,xP]
 unfold iS bG
 by_cases h:k=i
 ·subst h; simp [hk]
 rw [if_neg h,List.getElem?_map,List.getElem?_map]
 by_cases hi:i<9
 ·rw [List.getElem?_range hi]; simp [Ne.symm h]
 rw [List.getElem?_eq_none (by simp; omega)]; rfl
instance {g:Nat→Int}:QLen (iS g) 9:=⟨xP g⟩
theorem qY {g:Nat→Int} {a b:Value}:(iS g++[a,b]).length=11:=by rw [List.length_append,xP]; rfl
theorem aRb {g:Nat→Int} {a b:Value} (ha:a.oneCell'=true) (hb:b.oneCell'=true):∀ u∈iS g++[a,b],u.oneCell'=true:=by
 intro u hu
 rcases List.mem_append.1 hu with hu | hu
 ·unfold iS at hu
  obtain ⟨j,_,rfl⟩:=List.mem_map.1 hu
  rfl
 ·simp only [List.mem_cons,List.not_mem_nil,or_false] at hu
  rcases hu with rfl|rfl<;>assumption
theorem aIy {g:Nat→Int} {k m:Nat} {x:Int} {v w:Value} (hm:m=k) (hk:k<9):(iS g++[v,w]).set m (.int .u64 x)=iS (bG g k x)++[v,w]:=by subst hm; exact aRc hk
theorem aPf {b k:Nat} {j:Int} (hj:j=k) (hk:k<4):([.pointer (some ⟨b,0,none⟩),.pointer (some ⟨b,1,none⟩),.pointer (some ⟨b,2,none⟩),.pointer (some ⟨b,3,none⟩)]:List Value)[0+j.toNat*1]? = some (.pointer (some ⟨b,k,none⟩)):=by
 subst hj
 rcases (show k=0∨k=1∨k=2∨k=3 by omega) with rfl|rfl|rfl|rfl<;>rfl
theorem aH9 {g:Gone}:∀ u∈g.cells,u.oneCell'=true:=by
 intro u hu
 simp only [Gone.cells,List.mem_cons,List.not_mem_nil,or_false] at hu
 rcases hu with rfl|rfl<;>rfl
section
variable {P:Program} {n:Fm} {l:List Oper} {K K':aJ→PM→aG→Prop} {dr:Bool} {mc:Md}
theorem Wo.bind1 {i:Nat} {σ:List Nat} {ρ:aJ} {G:PM} {μ:aG} (hm:∀ ρ G μ,K ρ G μ→Wo dr mc P n l K' σ ρ G μ) (H:Wo dr mc P n l K [i] ρ G μ):Wo dr mc P n l K' (i :: σ) ρ G μ:=by
 have h0:∀ {ρ G μ},Wo dr mc P n l K [] ρ G μ→Wo dr mc P n l K' σ ρ G μ:=fun h=>by cases h with | nil h=>exact hm _ _ _ h
 cases H with
 | pure ho hk hg hr h=>exact .pure ho hk hg hr (h0 h)
 | read ho hk hg hr h=>exact .read ho hk hg hr (h0 h)
 | make ho hk hg hr h=>exact .make ho hk hg hr fun b=>h0 (h b)
 | box ho hk hg hr h=>exact .box ho hk hg hr fun b=>h0 (h b)
 | callv ho hk hg hr hf h=>exact .callv ho hk hg hr hf (h0 h)
 | call ho hk hg hr hf h=>exact .call ho hk hg hr hf fun v G' μ' a b=>h0 (h v G' μ' a b)
 | callg hd ho hg hr hf h=>exact .callg hd ho hg hr hf fun v G' μ' a b=>h0 (h v G' μ' a b)
 | callp hd ho hg hp hr hf hx h=>exact .callp hd ho hg hp hr hf hx fun v G' μ' a b=>h0 (h v G' μ' a b)
 | pan hd ho hg hr hx=>exact .pan hd ho hg hr hx
 | fresh ho hk hg hp hr hw h=>exact .fresh ho hk hg hp hr hw fun v G' μa μb a b=>h0 (h v G' μa μb a b)
 | act ho hk hg hp hr h=>exact .act ho hk hg hp hr fun v G' μ' a b=>h0 (h v G' μ' a b)
theorem Wo.cut1 {j:Nat} {σ:List Nat} {ρ:aJ} {G:PM} {μ:aG} (H:Wo dr mc P n l K (j :: σ) ρ G μ):Wo dr mc P n l (fun ρ G μ=>Wo dr mc P n l K σ ρ G μ) [j] ρ G μ:=by
 cases H with
 | pure ho hk hg hr h=>exact .pure ho hk hg hr (.nil h)
 | read ho hk hg hr h=>exact .read ho hk hg hr (.nil h)
 | make ho hk hg hr h=>exact .make ho hk hg hr fun b=>.nil (h b)
 | box ho hk hg hr h=>exact .box ho hk hg hr fun b=>.nil (h b)
 | callv ho hk hg hr hf h=>exact .callv ho hk hg hr hf (.nil h)
 | call ho hk hg hr hf h=>exact .call ho hk hg hr hf fun v G' μ' a b=>.nil (h v G' μ' a b)
 | callg hd ho hg hr hf h=>exact .callg hd ho hg hr hf fun v G' μ' a b=>.nil (h v G' μ' a b)
 | callp hd ho hg hp hr hf hx h=>exact .callp hd ho hg hp hr hf hx fun v G' μ' a b=>.nil (h v G' μ' a b)
 | pan hd ho hg hr hx=>exact .pan hd ho hg hr hx
 | fresh ho hk hg hp hr hw h=>exact .fresh ho hk hg hp hr hw fun v G' μa μb a b=>.nil (h v G' μa μb a b)
 | act ho hk hg hp hr h=>exact .act ho hk hg hp hr fun v G' μ' a b=>.nil (h v G' μ' a b)
def mD (mc:Md) (l:List Oper) (listed:Array Bool) (i:Nat):Bool :=
 (cG l listed).contains i&&match nth l i with
 | some oi=>(bI mc oi.op == .pure||bI mc oi.op == .read)&&(List.range l.length).all fun j=>listed.getD j true||j == i||match nth l j with
  | some oj=>pC l l.length j i||(oi.apart l.toArray oj&&(bI mc oi.op == .pure||bI mc oj.op != .act))
  | none=>false
 | none=>false
def Wt (mc:Md) (P:Program) (n:Fm) (l:List Oper) (K:aJ→PM→aG→Prop):Nat→Array Bool→aJ→PM→aG→Prop
 | 0,listed,ρ,G,μ=>cG l listed=[]∧K ρ G μ
 | m+1,listed,ρ,G,μ=>(∃ i,mD mc l listed i=true∧Wo true mc P n l (fun ρ' G' μ'=>Wt mc P n l K m (listed.setIfInBounds i true) ρ' G' μ') [i] ρ G μ) ∨
   (cG l listed≠[]∧∀ j∈cG l listed,Wo true mc P n l (fun ρ' G' μ'=>Wt mc P n l K m (listed.setIfInBounds j true) ρ' G' μ') [j] ρ G μ)
theorem zR (hK:jL K):∀ (m:Nat) (listed:Array Bool),jL (fun ρ G μ=>Wt mc P n l K m listed ρ G μ)
 | 0,listed=>⟨fun ρ ρ' G μ e h=>⟨h.1,hK.1 _ _ _ _ e h.2⟩,fun ρ G μ μ' p h=>⟨h.1,hK.2 _ _ _ _ p h.2⟩⟩
 | m+1,listed=>by
  refine ⟨fun ρ ρ' G μ e h=>?_,fun ρ G μ μ' p h=>?_⟩
  ·rcases h with ⟨i,h1,h2⟩ | ⟨h1,h2⟩
   ·exact .inl ⟨i,h1,h2.congr (zR hK m _) e⟩
   exact .inr ⟨h1,fun j hj=>(h2 j hj).congr (zR hK m _) e⟩
  rcases h with ⟨i,h1,h2⟩ | ⟨h1,h2⟩
  ·exact .inl ⟨i,h1,h2.perm (zR hK m _) p⟩
  exact .inr ⟨h1,fun j hj=>(h2 j hj).perm (zR hK m _) p⟩
def nS (listed:Array Bool):Nat:=listed.toList.count false
theorem yF {listed:Array Bool} {i:Nat} (h:listed.getD i true=false):nS (listed.setIfInBounds i true)+1=nS listed:=by
 rcases Nat.lt_or_ge i listed.size with h' | h'
 ·have h2:listed.toList[i]'(by simpa using h')=false:=by simpa [h'] using h
  unfold nS
  rw [Array.toList_setIfInBounds,List.count_set (by simpa using h')]
  have hp:0<listed.toList.count false:=List.count_pos_iff.2 (by rw [← h2]; exact List.getElem_mem _)
  rw [if_pos (by rw [h2]; rfl),if_neg (by decide)]
  omega
 ·simp [h'] at h
theorem aFG {listed:Array Bool} {i:Nat} (h:listed.getD i true=false):0<nS listed:=by
 have:=yF h; omega
theorem aI8 {listed:Array Bool} {i j:Nat} (hne:i≠j) (h:mD mc l listed i=true):mD mc l (listed.setIfInBounds j true) i=true:=by
 unfold mD at h ⊢
 simp only [Bool.and_eq_true] at h ⊢
 obtain ⟨h1,h2⟩:=h
 refine ⟨by simpa using tM (by simpa using h1) hne,?_⟩
 cases hi:nth l i with
 | none=>rw [hi] at h2; cases h2
 | some oi =>
  simp only [hi,Bool.and_eq_true] at h2 ⊢
  refine ⟨h2.1,List.all_eq_true.2 fun k hk=>?_⟩
  have h3:=List.all_eq_true.1 h2.2 k hk
  by_cases e:j=k
  ·subst e
   have:(listed.setIfInBounds j true).getD j true=true:=by
    rcases Nat.lt_or_ge j listed.size with h' | h'<;>simp [h']
   rw [this]; rfl
  rw [getD_set_ne true e]; exact h3
theorem Wt.front (hK:jL K) (hs:Region.noSelect l.toArray=true) (hmk:∀ j oj,nth l j=some oj→bI mc oj.op=.make→sH P oj) (hds:∀ j oj,nth l j=some oj→iH n oj.dst) :
  ∀ (m:Nat) (listed:Array Bool) (j:Nat) (ρ:aJ) (G:PM) (μ:aG),nS listed=m+1→Closed l listed→j∈cG l listed→Wt mc P n l K (m+1) listed ρ G μ→Wo true mc P n l (fun ρ' G' μ'=>Wt mc P n l K m (listed.setIfInBounds j true) ρ' G' μ') [j] ρ G μ
 | m,listed,j,ρ,G,μ,hu,hcl,hj,H=>by
  rcases H with ⟨i,h1,h2⟩ | ⟨_,h2⟩
  ·by_cases e:j=i
   ·subst e; exact h2
   have hi:i∈cG l listed:=by unfold mD at h1; simp only [Bool.and_eq_true] at h1; simpa using h1.1
   have hj':=tM hj e
   have hiun:=(iK.1 hi).1
   have hjun:=(iK.1 hj).1
   have hu1:=yF hiun
   have hjun':(listed.setIfInBounds i true).getD j true=false:=by rw [getD_set_ne true (Ne.symm e)]; exact hjun
   have hp:=aFG hjun'
   obtain ⟨m',rfl⟩ : ∃ m',m=m'+1:=⟨m-1,by omega⟩
   obtain ⟨_,oi,hoi,_⟩:=iK.1 hi
   obtain ⟨_,oj,hoj,_⟩:=iK.1 hj
   have h3:Wo true mc P n l (fun ρ' G' μ'=>Wt mc P n l K m' ((listed.setIfInBounds i true).setIfInBounds j true) ρ' G' μ') (i :: [j]) ρ G μ :=
    h2.bind1 fun ρ' G' μ' h=>Wt.front hK hs hmk hds m' (listed.setIfInBounds i true) j ρ' G' μ' (by omega) (hcl.set hi) hj' h
   have hnoe:=aAa hcl hiun hj l.length
   have hjl:j<l.length:=by
    have:=(iT l j).trans hoj
    exact (by simpa using (Array.getElem?_eq_some_iff.1 this).1)
   have h1':=h1
   unfold mD at h1'
   simp only [Bool.and_eq_true,hoi] at h1'
   obtain ⟨_,hki,hall⟩:=h1'
   have h4:=List.all_eq_true.1 hall j (List.mem_range.2 hjl)
   simp only [hjun,hoj,hnoe,Bool.false_or,Bool.or_eq_true,beq_iff_eq,e,false_or,Bool.and_eq_true,bne_iff_ne] at h4
   simp only [Bool.or_eq_true,beq_iff_eq] at hki
   have hkk:bI mc oi.op=.pure∨(bI mc oi.op=.read∧bI mc oj.op≠.act)∨bI mc oj.op=.make:=by
    rcases hki with h5 | h5
    ·exact .inl h5
    rcases h4.2 with h6 | h6
    ·exact .inl h6
    exact .inr (.inl ⟨h5,h6⟩)
   have h5:=Wo.swap (zR hK m' _) rfl hoi hoj (wR hs hoi hoj h4.1) hds (hmk j oj hoj) hkk h3
   refine h5.cut1.bind1 fun ρ' G' μ' h=>.nil (.inl ⟨i,aI8 (Ne.symm e) h1,?_⟩)
   rw [Array.setIfInBounds_comm _ _ e]
   exact h
  exact h2 j hj
theorem Wt.any {Q:Exit→Act→World→Prop} {G0:PM} {K0:List Nat} {w0:World} (hK:jL K) (hs:Region.noSelect l.toArray=true) (hmk:∀ j oj,nth l j=some oj→bI mc oj.op=.make→sH P oj) (hds:∀ j oj,nth l j=some oj→iH n oj.dst)
  (hQ:∀ ρ G μ,K ρ G μ→∀ a w,Ag n ρ a→Tr G0 K0 w0 G μ w→Q .normal a w) :
  ∀ (m:Nat) (listed:Array Bool) (ρ:aJ) (G:PM) (μ:aG) (a:Act) (w:World),nS listed=m→Closed l listed→Wt mc P n l K m listed ρ G μ→Ag n ρ a→Tr G0 K0 w0 G μ w→wpAny P .any l.toArray Q m listed a w
 | 0,listed,ρ,G,μ,a,w,_,_,H,ha,ht=>⟨H.1,hQ _ _ _ H.2 a w ha ht⟩
 | m+1,listed,ρ,G,μ,a,w,hu,hcl,H,ha,ht=>by
  refine ⟨fun h0=>?_,fun j hj=>?_⟩
  ·rcases H with ⟨i,h1,_⟩ | ⟨h1,_⟩
   ·have hi:i∈cG l listed:=by unfold mD at h1; simp only [Bool.and_eq_true] at h1; simpa using h1.1
    unfold cG at hi
    rw [h0] at hi; cases hi
   exact absurd h0 h1
  have hj':j∈cG l listed:=hj
  have hu1:=yF (iK.1 hj').1
  obtain ⟨o,ho,h⟩:=(Wt.front hK hs hmk hds m listed j ρ G μ hu hcl hj' H).head ha ht (next:=wpAny P .any l.toArray Q m (listed.setIfInBounds j true)) (Q:=Q) hds (fun hdr'=>by first|(rw [hdr] at hdr'; cases hdr') | cases hdr')
   (fun ρ' G' μ' a' w' H' ha' ht'=>by cases H' with | nil h=>exact Wt.any hK hs hmk hds hQ m _ ρ' G' μ' a' w' (by omega) (hcl.set hj') h ha' ht')
  simp only [wpOp,iT,ho]
  split
  ·rename_i hw; rw [if_pos hw] at h; exact .inl h
  rename_i hw; rw [if_neg hw] at h; exact h
def aCJ (P:Program) (n:Nat) (l:List Oper):Bool:=Region.noSelect l.toArray&&(l.all fun o=>match o.dst with | some d=>decide (d<n) | none=>true)&&aGq P l
theorem Wk.mix {X:Cx} {k:List KI} {id:Nat} {ρ:aJ} {G:PM} {μ:aG} (mc:Md) (hm:X.P.follows .mixedOrders=true) (hok:aCJ X.P X.n.n l=true)
  (h:Wt mc X.P X.n l (fun ρ G μ=>We X .normal k ρ G μ) l.length (Array.replicate l.length false) ρ G μ):Wk X (.region id l.toArray true) k ρ G μ:=by
 simp only [aCJ,Bool.and_eq_true] at hok
 obtain ⟨⟨h1,h2⟩,h3⟩:=hok
 refine ⟨fun a w ha ht=>wp_region_any hm ?_⟩
 have hu:nS (Array.replicate l.length false)=l.length:=by simp [nS]
 have:=Wt.any (Q:=fO X k) (aDj .normal) h1 (fun j oj hj hk=>aEZ hk (List.all_eq_true.1 h3 oj (xM hj)))
  (fun j oj hj=>by
   have:=List.all_eq_true.1 h2 oj (xM hj)
   cases hd:oj.dst with
   | none=>trivial
   | some d=>rw [hd] at this; show d<X.n.n; exact of_decide_eq_true this) (fun _ _ _ h a w ha ht=>h.out a w ha ht) l.length _ ρ G μ a _ hu (Closed.none l.length) h ha ht.drew
 simpa using this
variable {ρ:aJ} {G:PM} {μ:aG} {m:Nat} {listed:Array Bool}
theorem Wt.last (hr:cG l listed=[]) (h:K ρ G μ):Wt mc P n l K 0 listed ρ G μ:=⟨hr,h⟩
theorem Wt.one (i:Nat) (hc:mD mc l listed i=true) (h:Wo true mc P n l (fun ρ' G' μ'=>Wt mc P n l K m (listed.setIfInBounds i true) ρ' G' μ') [i] ρ G μ):Wt mc P n l K (m+1) listed ρ G μ:=.inl ⟨i,hc,h⟩
theorem Wt.b1 (j:Nat) (hr:cG l listed=[j]) (h:Wo true mc P n l (fun ρ' G' μ'=>Wt mc P n l K m (listed.setIfInBounds j true) ρ' G' μ') [j] ρ G μ):Wt mc P n l K (m+1) listed ρ G μ :=
 .inr ⟨by rw [hr]; simp,fun j' hj'=>by rw [hr] at hj'; obtain rfl:=List.mem_singleton.1 hj'; exact h⟩
theorem Wt.b2 (j j2:Nat) (hr:cG l listed=[j,j2]) (h:Wo true mc P n l (fun ρ' G' μ'=>Wt mc P n l K m (listed.setIfInBounds j true) ρ' G' μ') [j] ρ G μ)
  (h2:Wo true mc P n l (fun ρ' G' μ'=>Wt mc P n l K m (listed.setIfInBounds j2 true) ρ' G' μ') [j2] ρ G μ):Wt mc P n l K (m+1) listed ρ G μ :=
 .inr ⟨by rw [hr]; simp,fun j' hj'=>by
  rw [hr] at hj'
  rcases List.mem_cons.1 hj' with rfl | hj'
  ·exact h
  ·obtain rfl:=List.mem_singleton.1 hj'; exact h2⟩
end
section
variable {dr:Bool} {mc:Md} {P:Program} {n:Fm} {l:List Oper} {K:aJ→PM→aG→Prop} {i:Nat} {σ:List Nat} {ρ:aJ} {G:PM} {μ:aG}
variable {d t:Nat} {p:String} {af:Array Edge} {g:Option (Nat×Bool)} {c:Bool}
theorem bSf {T E sz by' len:Nat} {ps:List (Nat×Operand)} {vs:List (Nat×Value)} {cs:List Value} (ho:nth l i=some ⟨some d,.buildSlice T len ps.toArray,t,p,af,none⟩) (hT:bJ P T=some (E,sz,by')) (hv:∀ a,Ag n ρ a→true=true→ps.map (fun q=>(q.1,a.eval q.2))=vs) (hb:sL P T len vs=some cs)
  (h:∀ b G',PM.le G G'→PB G' b (cl cs E)→Wo dr mc P n l K σ ((d,true,.slice (some ⟨b,0,none⟩) len len) :: ρ) G' μ):Wo dr mc P n l K (i :: σ) ρ G μ:=by
 refine .fresh (μ₁:=[]) (μ₂:=μ) (post:=fun G' μa μb v=>μa=[]∧μb=[]∧∃ b,v=.slice (some ⟨b,0,none⟩) len len∧PB G' b (cl cs E)) ho (.inl rfl) rfl (List.Perm.refl _) (fun a w ha hs=>?_) ?_ ?_
 ·have hrun:(execOp a.eval ⟨some d,.buildSlice T len ps.toArray,t,p,af,none⟩).run P w=.ok (.value (.slice (some ⟨w.heap.size,0,none⟩) len len)) (w.alloc (cl cs E)):=by
   obtain ⟨hu,inf,hi,hs1,_⟩:=fG hT
   have h1:=hv a ha rfl
   simp only [sL,hu,hi] at hb
   cases hz:inf.zero with
   | none=>rw [hz] at hb; cases hb
   | some z =>
    rw [hz] at hb
    simp only at hb
    split at hb
    ·cases hb
    rename_i hle
    simp only [not_or] at hle
    obtain ⟨hle,h0⟩:=hle
    cases hf:Instr.fill (fun j=>some (j*inf.size,inf.size)) ((Array.range (len*inf.size)).map (z.cells[·%z.cells.size]!)) vs with
    | none=>rw [hf] at hb; cases hb
    | some r =>
     rw [hf] at hb
     simp only [Option.map_some,Option.some.injEq] at hb
     subst hb
     simp [execOp,Instr.buildSlice,run_underlying hu,sizeOf,typeInfo,hi,h0,hle,zeroValue,hz,hf,h1,newRow,cl]
  have hs0:Sat G [] w:=⟨hs.sub,by simp,by simp [keys],by simp [keys]⟩
  have ht:=((eQ hs0).alloc (cl cs E)).freeze (by simp [keys])
  exact ⟨_,_,_,[],[],hrun,ht,rfl,rfl,_,rfl,⟨bU _ _ _⟩⟩
 ·rintro v G' μa μb ⟨rfl,rfl,_⟩
  exact ⟨(fun w _ r hr=>by cases hr),(fun b hb=>by cases hb),by simp [keys]⟩
 rintro v G' μa μb hle ⟨rfl,rfl,b,rfl,hb⟩
 have:=h b G' hle hb
 simp only [List.nil_append,List.append_nil]
 exact this
theorem PB.slq {b cap:Nat} {ns:List Int} {T:TypeId} (h:PB G b (cl (ns.map (Value.int .u64)) T)) (hc:ns.length≤cap):SlR G 1 nA ⟨some ⟨b,0,none⟩,cap⟩ ns:=by
 refine ⟨fun _=>rfl,hc,fun i x hx j v hj=>?_⟩
 have h0:j=0∧v=.int .u64 x:=by
  cases j with
  | zero=>simp [nA] at hj; exact ⟨rfl,hj.symm⟩
  | succ j=>simp [nA] at hj
 obtain ⟨rfl,rfl⟩:=h0
 have:=h.rd (o:=i) (v:=.int .u64 x) (by rw [List.getElem?_map,hx]; rfl)
 simpa [Sh.b,Sh.o] using this
theorem bQ {T E by' len:Nat} {ps:List (Nat×Operand)} {us:List Value} {z:Value} (ns:List Int) (ho:nth l i=some ⟨some d,.buildSlice T len ps.toArray,t,p,af,none⟩) (hT:bJ P T=some (E,1,by')) (hz:(P.info? E).bind (·.zero)=some z) (hv:∀ a,Ag n ρ a→true=true→ps.map (fun q=>(q.1,a.eval q.2))=parts 0 us) (hus:us=ns.map (Value.int .u64)) (hl:ns.length=len) (h0:0<len∧len≤16777216)
  (h:∀ G' s,PM.le G G'→SlR G' 1 nA s ns→Wo dr mc P n l K σ ((d,true,s.val ns.length) :: ρ) G' μ):Wo dr mc P n l K (i :: σ) ρ G μ:=by
 subst hus
 refine bSf (vs:=parts 0 (ns.map (Value.int .u64))) (cs:=ns.map (Value.int .u64)) ho hT hv ?_ (fun b G' hle hb=>?_)
 ·obtain ⟨hu,inf,hi,hs1,_⟩:=fG hT
  rw [hi] at hz
  simp only [Option.bind_some] at hz
  simp only [sL,hu,hi,hz,hs1]
  rw [if_neg (by omega)]
  generalize ha:(Array.range (len*1)).map (z.cells[·%z.cells.size]!)=arr
  have hs:arr.toList.length=len:=by rw [← ha]; simp
  have h2:=aEB (ns.map (Value.int .u64)) 0 arr.toList (fun u hu=>by obtain ⟨x,_,rfl⟩:=List.mem_map.1 hu; rfl) (by rw [List.length_map]; omega)
  simp only [Array.toArray_toList] at h2
  rw [h2]
  have h3:arr.toList.drop (0+(ns.map (Value.int .u64)).length)=[]:=List.drop_of_length_le (by rw [List.length_map]; omega)
  rw [h3]
  simp
 have:=h G' ⟨some ⟨b,0,none⟩,len⟩ hle (hb.slq (by omega))
 rw [Sh.val,hl] at this
 exact this
end
theorem q1 {a:Int} (h:u64 a):∀ x∈[a],u64 x:=by intro x hx; rw [List.mem_singleton.1 hx]; exact h
theorem q2 {a b:Int} (h:u64 a) (h2:u64 b):∀ x∈[a,b],u64 x:=by
 intro x hx; simp only [List.mem_cons,List.not_mem_nil,or_false] at hx; rcases hx with rfl|rfl<;>assumption
theorem q4 {a b c d:Int} (h:u64 a) (h2:u64 b) (h3:u64 c) (h4:u64 d):∀ x∈[a,b,c,d],u64 x:=by
 intro x hx; simp only [List.mem_cons,List.not_mem_nil,or_false] at hx; rcases hx with rfl|rfl|rfl|rfl<;>assumption
theorem q6 {a b c d e f:Int} (h:u64 a) (h2:u64 b) (h3:u64 c) (h4:u64 d) (h5:u64 e) (h6:u64 f):∀ x∈[a,b,c,d,e,f],u64 x:=by
 intro x hx; simp only [List.mem_cons,List.not_mem_nil,or_false] at hx; rcases hx with rfl|rfl|rfl|rfl|rfl|rfl<;>assumption
theorem jU {n:Nat} (h:n<18446744073709551616):u64 (n:Int):=⟨by omega,by omega⟩
theorem aVS (x:Int):(IntKind.u64.wrap x).toNat=yE x:=by
 unfold yE IntKind.wrap
 simp [IntKind.signed,IntKind.bits]
theorem aKd (x:Int):u64 (IntKind.u64.wrap x):=by
 unfold u64 IntKind.wrap
 simp [IntKind.signed,IntKind.bits]; omega
theorem aKb {m:Meta} (h:m.wf):∀ x∈[m.level,m.gen,m.epoch,m.number,IntKind.u64.wrap m.size,IntKind.u64.wrap m.count],u64 x:=by
 have l1:=h.level; have l2:=h.gen; have l3:=h.epoch; have l4:=h.number
 exact q6 ⟨by omega,by omega⟩ ⟨by omega,by omega⟩ ⟨by omega,by omega⟩ ⟨by omega,by omega⟩ (aKd _) (aKd _)
def gM (e:Edit):List Int:=(List.range 5).map e.gens
theorem qT {e:Edit} (h:e.wf):∀ x∈gM e,u64 x:=by
 intro x hx
 obtain ⟨i,hi,rfl⟩:=List.mem_map.1 hx
 exact h.gens i (List.mem_range.1 hi)
theorem aH4 {G:PM} {e:Edit} {ha hd:Sh} {b:Nat} {T:TypeId} (h:PB G b (cl (e.cells ha hd) T)):SlR G 1 nA ⟨some ⟨b,4,none⟩,5⟩ (gM e):=by
 refine SlR.part (cs:=e.cells ha hd) (fun j v hj=>?_) rfl (Nat.le_refl 5)
 have:=h.rd hj
 simpa using this
theorem aIl {m:Meta} (h:m.wf):(m.cells.drop 8).take 32=ba 32 (fun i=>BitVec.ofInt 8 (m.root i)):=by
 have e:m.cells.drop 8=(List.range 32).map fun i=>.int .u8 (m.root i):=rfl
 rw [e,List.take_of_length_le (by simp)]
 unfold ba
 refine List.map_congr_left fun i hi=>?_
 have hr:=h.root i (List.mem_range.1 hi)
 show Value.int .u8 (m.root i)=V (BitVec.ofInt 8 (m.root i))
 have e2:(((BitVec.ofInt 8 (m.root i)).toNat:Nat):Int)=m.root i:=by rw [BitVec.toNat_ofInt]; omega
 show Value.int .u8 (m.root i)=Value.int .u8 (((BitVec.ofInt 8 (m.root i)).toNat:Nat):Int)
 rw [e2]
theorem aEg:dC []=[]:=rfl
theorem aCO (x:Int) (ns:List Int):dC (x :: ns)=cL x.toNat++dC ns:=by simp [dC]
theorem aHb (m:Meta) (A:List Y):A++dC [m.level,m.gen,m.epoch,m.number,IntKind.u64.wrap m.size,IntKind.u64.wrap m.count]++nR (yb m.min)++nR (yb m.max)++yl 32 (fun i=>BitVec.ofInt 8 (m.root i))=A++eF m:=by
 unfold eF
 simp only [aCO,aEg,aVS,List.append_assoc,List.append_nil]
 rfl
theorem aHa (g:Gone) (A:List Y):A++dC [g.level,g.number]=A++gL g:=by
 unfold gL
 simp only [aCO,aEg,List.append_nil]
theorem aBx (e:Edit):dC [e.log,e.next,e.seq,e.least]++dC (gM e)++dC [(e.add.length:Int)]++e.add.flatMap eF++dC [(e.drop.length:Int)]++e.drop.flatMap gL=kC e:=by
 have h:dC (gM e)=(List.range 5).flatMap fun i=>cL (e.gens i).toNat:=by unfold dC gM; rw [List.flatMap_map]
 unfold kC
 rw [h]
 simp only [aCO,aEg,List.append_assoc,List.append_nil,Int.toNat_natCast]
theorem aAJ {α β:Type} {f:α→List β} {xs:List α} {k:Nat} {x:α} (h:xs[k]? = some x):(xs.take (k+1)).flatMap f=(xs.take k).flatMap f++f x:=by
 rw [List.take_add_one,h]; simp
theorem aB4 {α β:Type} {f:α→List β} {xs:List α} {k:Nat} {x:α} (h:xs[k]? = some x):((xs.take k).flatMap f).length+(f x).length≤(xs.flatMap f).length:=by
 have h1:xs.flatMap f=(xs.take (k+1)).flatMap f++(xs.drop (k+1)).flatMap f:=by rw [← List.flatMap_append,List.take_append_drop]
 rw [h1,aAJ h]; simp only [List.length_append]; omega
theorem sZ {α β:Type} {f:α→List β} {xs:List α} (k:Nat):((xs.take k).flatMap f).length≤(xs.flatMap f).length:=by
 have h1:xs.flatMap f=(xs.take k).flatMap f++(xs.drop k).flatMap f:=by rw [← List.flatMap_append,List.take_append_drop]
 rw [h1]; simp only [List.length_append]; omega
theorem yC {xs:List Y} (h:xs.length<18446744073709551616):(nR xs).length≤xs.length+10:=by
 have:=hJ h
 unfold nR; rw [List.length_append]; omega
theorem aKB (xs:List Y):xs.length≤(nR xs).length:=by unfold nR; rw [List.length_append]; omega
theorem aHc (m:Meta):m.min.size+m.max.size≤(eF m).length:=by
 have h1:=aKB (yb m.min); have h2:=aKB (yb m.max)
 rw [iC] at h1 h2
 unfold eF
 simp only [List.length_append]; omega
theorem aPL {g:Gone} (h:g.wf):(gL g).length≤20:=by
 have h1:=h.level; have h2:=h.number
 have n1:=hJ (n:=g.level.toNat) (by omega); have n2:=hJ (n:=g.number.toNat) (by omega)
 unfold gL; rw [List.length_append]; omega
theorem aAL {gs:List Gone} (h:∀ g∈gs,g.wf):(gs.flatMap gL).length≤20*gs.length:=by
 induction gs with
 | nil=>simp
 | cons g gs ih =>
  have h1:=aPL (h g (List.mem_cons_self ..))
  have h2:=ih fun x hx=>h x (List.mem_cons_of_mem _ hx)
  rw [List.flatMap_cons,List.length_append,List.length_cons]; omega
def wT (s:State) (e:Edit):Bool:=((List.range 5).any fun i=>decide (e.gens i<s.gens i))||(((decide (e.log<s.log)||decide (e.next<s.next))||decide (e.seq<s.seq))||decide (e.least<s.least))
theorem aNz {s:State} {e:Edit} {i:Nat} (hi:i<5) (h:e.gens i<s.gens i):wT s e=true:=by
 unfold wT
 rw [List.any_eq_true.2 ⟨i,List.mem_range.2 hi,by simpa using h⟩]; rfl
theorem aG0 {s:State} {e:Edit} (h:∀ i,i<5→¬ e.gens i<s.gens i):wT s e=(((decide (e.log<s.log)||decide (e.next<s.next))||decide (e.seq<s.seq))||decide (e.least<s.least)):=by
 unfold wT
 rw [show ((List.range 5).any fun i=>decide (e.gens i<s.gens i))=false from List.any_eq_false.2 (fun i hi=>by simpa using h i (List.mem_range.1 hi)),Bool.false_or]
theorem State.len {s:State} {hd:Nat→Sh}:(s.cells hd).length=14:=by simp [State.cells]
theorem oB {s:State} {hd:Nat→Sh}:∀ u∈s.cells hd,u.oneCell'=true:=by
 intro u hu
 simp only [State.cells,List.mem_append,List.mem_map,List.mem_cons,List.not_mem_nil,or_false] at hu
 rcases hu with (⟨i,_,rfl⟩ | (rfl|rfl|rfl|rfl)) | ⟨i,_,rfl⟩<;>rfl
theorem Edit.len {e:Edit} {ha hd:Sh}:(e.cells ha hd).length=11:=by simp [Edit.cells]
theorem aCu {e:Edit} {ha hd:Sh}:∀ u∈e.cells ha hd,u.oneCell'=true:=by
 intro u hu
 simp only [Edit.cells,List.mem_append,List.mem_map,List.mem_cons,List.not_mem_nil,or_false] at hu
 rcases hu with ((rfl|rfl|rfl|rfl) | ⟨i,_,rfl⟩) | (rfl|rfl)<;>rfl
theorem aPq {e:Edit} {j:Int} {k:Nat} (hj:j.toNat=k) (h:k<5):((List.range 5).map (fun i=>Value.int .u64 (e.gens i)))[j.toNat]? = some (.int .u64 (e.gens k)):=by
 subst hj
 simp [h]
instance {s:State} {hd:Nat→Sh}:QLen (s.cells hd) 14:=⟨State.len⟩
instance {e:Edit} {ha hd:Sh}:QLen (e.cells ha hd) 11:=⟨Edit.len⟩
theorem aCk {a b:UInt8}:(a<b)↔a.toNat<b.toNat:=UInt8.lt_iff_toNat_lt
theorem aG1:∀ (x:List UInt8),Op.bytesLess x x=false
 | []=>rfl
 | a :: x=>by
  have h:¬ a<a:=by rw [aCk]; omega
  simp [Op.bytesLess,h,aG1 x]
theorem aG2:∀ {x y z:List UInt8},Op.bytesLess x y=true→Op.bytesLess y z=true→Op.bytesLess x z=true
 | [],[],_,h,_=>by simp [Op.bytesLess] at h
 | [],_ :: _,[],_,h=>by simp [Op.bytesLess] at h
 | [],_ :: _,_ :: _,_,_=>by simp [Op.bytesLess]
 | _ :: _,[],_,h,_=>by simp [Op.bytesLess] at h
 | _ :: _,_ :: _,[],_,h=>by simp [Op.bytesLess] at h
 | a :: x,b :: y,c :: z,h,h'=>by
  simp only [Op.bytesLess,Bool.or_eq_true,Bool.and_eq_true,decide_eq_true_eq,beq_iff_eq] at h h' ⊢
  rcases h with h | ⟨rfl,h⟩
  ·rcases h' with h' | ⟨rfl,_⟩
   ·left; rw [aCk] at *; omega
   ·exact .inl h
  ·rcases h' with h' | ⟨rfl,h'⟩
   ·exact .inl h'
   ·exact .inr ⟨rfl,aG2 h h'⟩
theorem aG3:∀ (x y:List UInt8),Op.bytesLess x y=true∨x=y∨Op.bytesLess y x=true
 | [],[]=>.inr (.inl rfl)
 | [],_ :: _=>.inl (by simp [Op.bytesLess])
 | _ :: _,[]=>.inr (.inr (by simp [Op.bytesLess]))
 | a :: x,b :: y=>by
  simp only [Op.bytesLess,Bool.or_eq_true,Bool.and_eq_true,decide_eq_true_eq,beq_iff_eq,List.cons.injEq]
  have hab:a.toNat<b.toNat∨a=b∨b.toNat<a.toNat:=by
   rcases Nat.lt_trichotomy a.toNat b.toNat with h | h | h
   ·exact .inl h
   ·exact .inr (.inl (UInt8.toNat_inj.1 h))
   ·exact .inr (.inr h)
  rcases hab with h|rfl | h
  ·exact .inl (.inl (aCk.2 h))
  ·rcases aG3 x y with h|rfl | h
   ·exact .inl (.inr ⟨rfl,h⟩)
   ·exact .inr (.inl ⟨rfl,rfl⟩)
   ·exact .inr (.inr (.inr ⟨rfl,h⟩))
  ·exact .inr (.inr (.inl (aCk.2 h)))
theorem aDu {a b:ByteArray} (h:a.toList=b.toList):a=b:=by
 rw [ByteArray.toList_eq,ByteArray.toList_eq] at h
 cases a with | mk a=>cases b with | mk b =>
 congr 1
 exact Array.toList_inj.1 h
theorem xJ (a:ByteArray):lt a a=false:=aG1 _
theorem aQ1 {a b c:ByteArray} (h:lt a b=true) (h':lt b c=true):lt a c=true:=aG2 h h'
theorem aIc (a b:ByteArray):lt a b=true∨a=b∨lt b a=true:=by
 rcases aG3 a.toList b.toList with h | h | h
 ·exact .inl h
 ·exact .inr (.inl (aDu h))
 ·exact .inr (.inr h)
theorem aCG {a b:ByteArray} (h:lt a b=true):lt b a=false:=by
 cases h':lt b a with
 | false=>rfl
 | true=>have:=aQ1 h h'; rw [xJ] at this; cases this
theorem aQd (a b:ByteArray):le a b = !lt b a:=by
 have e:le a b=(lt a b||a.toList == b.toList):=rfl
 rw [e]
 rcases aIc a b with h|rfl | h
 ·rw [h,aCG h]; rfl
 ·rw [xJ]; simp
 ·rw [h,aCG h]
  have hne:(a.toList == b.toList)=false:=by
   rw [beq_eq_false_iff_ne]
   intro e
   rw [aDu e,xJ] at h; cases h
  rw [hne]; rfl
structure Ent where
 user:ByteArray
 seq:BitVec 64
 kind:Y
 value:ByteArray
def Ent.cells (e:Ent):List Value:=[.string e.user,uv .u64 e.seq,V e.kind,.string e.value]
def Ent.val (e:Ent):Value:=.agg e.cells.toArray
def Ent.zero:Ent:=⟨ByteArray.empty,0,0,ByteArray.empty⟩
theorem Ent.len (e:Ent):e.cells.length=4:=rfl
theorem Ent.one (e:Ent):∀ u∈e.cells,u.oneCell'=true:=by
 intro u hu
 simp only [Ent.cells,List.mem_cons,List.not_mem_nil,or_false] at hu
 rcases hu with rfl|rfl|rfl|rfl<;>rfl
def jS (e:Ent):Bool:=(decide ((e.user.size:Int)≤1024)&&decide ((e.value.size:Int)≤65536))&&decide (e.seq.toNat≤72057594037927935)&&(if e.kind=0#8 then e.value.toList == [] else decide (e.kind=1#8))
def oZ (a b:Ent):Bool:=lt a.user b.user||(a.user.toList == b.user.toList&&decide (b.seq.toNat<a.seq.toNat))
noncomputable def aAh (l:List Ent):Bool:=B (∀ i,i+1<l.length→oZ (l.getD i Ent.zero) (l.getD (i+1) Ent.zero)=true)
theorem aTS {l:List Ent} {i:Nat} (h:i+1<l.length) (ha:oZ (l.getD i Ent.zero) (l.getD (i+1) Ent.zero)=false):aAh l=false:=aFP fun hB=>by rw [hB i h] at ha; cases ha
theorem aHx {α:Type} {enc:α→List Value} {sz:Nat}:∀ {xs:List α} {q:Nat},(∀ y∈xs,(enc y).length=sz)→(xs.take q).flatMap enc=(xs.flatMap enc).take (q*sz)
 | [],q,_=>by simp
 | x :: xs,0,_=>by simp
 | x :: xs,q+1,h=>by
  have hx:=h x (List.mem_cons_self ..)
  rw [List.take_succ_cons,List.flatMap_cons,List.flatMap_cons,show (q+1)*sz=(enc x).length+q*sz by rw [hx,Nat.succ_mul]; omega,List.take_length_add_append,aHx (fun y hy=>h y (List.mem_cons_of_mem _ hy))]
section
variable {dr:Bool} {mc:Md} {P:Program} {n:Fm} {l:List Oper} {K:aJ→PM→aG→Prop} {i:Nat} {σ:List Nat} {ρ:aJ} {G:PM} {μ:aG}
variable {d t:Nat} {p:String} {af:Array Edge} {g:Option (Nat×Bool)} {c:Bool}
theorem sr1 {T T':TypeId} {x y:Operand} {k k':IntKind} {a1 a2:Int} (A:Nat) (ho:nth l i=some ⟨some d,.binOp .shr T x y T',t,p,af,g⟩) (hg:Gd l ρ g c) (hx:Ev ρ c x (.int k a1)) (hy:Ev ρ c y (.int k' a2)) (e1:a1=A) (e2:a2=1) (hk:1≤k.bits)
  (h:Wo dr mc P n l K σ ((d,c,.int k ((A / 2:Nat):Int)) :: ρ) G μ):Wo dr mc P n l K (i :: σ) ρ G μ:=by
 subst e1; subst e2
 refine sr ho hg hx hy (fun _=>by decide) ?_
 have e:(A:Int).fdiv (2^(min (1:Int).toNat k.bits))=((A / 2:Nat):Int):=by
  have:min (1:Int).toNat k.bits=1:=by show min 1 k.bits=1; omega
  rw [this,Int.pow_one,Int.fdiv_eq_ediv_of_nonneg _ (by decide)]
  rfl
 rw [e]; exact h
theorem srh {T e sz by':Nat} {x z:Operand} {b m cap:Nat} {k:IntKind} {hi:Int} (q:Nat) (ho:nth l i=some ⟨some d,.slice T x none (some z) none,t,p,af,none⟩) (hT:bJ P T=some (e,sz,by')) (hx:Ev ρ true x (.slice (some ⟨b,0,none⟩) m cap)) (hz:Ev ρ true z (.int k hi))
  (hq:hi=q) (h1:q≤cap) (h:Wo dr mc P n l K σ ((d,true,.slice (some ⟨b,0,none⟩) q cap) :: ρ) G μ):Wo dr mc P n l K (i :: σ) ρ G μ:=by
 subst hq
 exact se (s:=⟨some ⟨b,0,none⟩,cap⟩) (m:=m) ho .no hT hx hz (by omega) (fun _=>by show (q:Int)≤cap; omega) (by rw [Int.toNat_natCast]; exact h)
end
theorem aCt {α:Type} {enc:α→List Value} {sz:Nat} {P:Program} {G:PM} {μ:aG} {f:FuncId} {args:Array Value} {E:Nat} {v:Value} {xs:List α} {Q:aG→Value→Prop} (hsz:∀ x∈xs,(enc x).length=sz)
  (h:∀ (s:Sh) (G2:PM),PM.le G G2→v=s.val xs.length→SlR G2 sz enc s xs→Ct P f args G2 μ (fun _ μ' u=>Q μ' u)):Ct P f args G (rS sz enc v E xs :: μ) (fun _ μ' u=>∃ ν,μ'=rS sz enc v E xs :: ν∧Q ν u):=by
 intro w hs
 have hrow:w.ownsRow 0 E sz v xs.length (xs.flatMap enc):=hs.own _ (List.mem_cons_self ..)
 have hnd:=hs.nodup
 rcases hrow.2 with ⟨rfl,h0⟩ | ⟨g,cap,cur,rfl,_,hg,hnc,hcm,hcs,htake⟩
 ·have hx:xs=[]:=List.eq_nil_of_length_eq_zero h0
  subst hx
  have hk:keys (rS sz enc (.slice none 0 0) E ([]:List α) :: μ)=keys μ:=by simp [keys,Res.keys,Value.ownBlock]
  have hs2:Sat G μ w:=⟨hs.sub,fun r hr=>hs.own r (List.mem_cons_of_mem _ hr),by rw [← hk]; exact hs.apart,by rw [← hk]; exact hs.nodup⟩
  refine (h ⟨none,0⟩ G (PM.le.refl G) rfl SlR.nul w hs2).mono ?_
  rintro e w' ⟨u,G',μ',rfl,ht,hQ⟩
  refine ⟨u,G',_,rfl,?_,μ',rfl,hQ⟩
  rw [hk]; exact ht.nilRow
 have hk:keys (rS sz enc (.slice (some ⟨g,0,none⟩) xs.length cap) E xs :: μ)=keys (.blk g (.cells cur E (0,0)) :: μ):=by simp [keys,Res.keys,Value.ownBlock]
 have hs2:Sat G (.blk g (.cells cur E (0,0)) :: μ) w:=by
  refine ⟨hs.sub,fun r hr=>?_,by rw [← hk]; exact hs.apart,by rw [← hk]; exact hs.nodup⟩
  rcases List.mem_cons.1 hr with rfl | hr
  ·exact hg
  exact hs.own r (List.mem_cons_of_mem _ hr)
 have hGg:G g=none:=hs2.apart g (by simp [keys,Res.keys])
 have hsl:SlR (G.add g (.cells cur E (0,0))) sz enc ⟨some ⟨g,0,none⟩,cap⟩ xs:=by
  refine SlR.ofRow hsz hnc (fun _=>rfl) ?_
  intro j u hj w' hs'
  show w'.cell? ⟨g,0+j,none⟩=some u
  rw [Nat.zero_add,cell_of_row w' g j cur E (0,0) (hs' g _ (bU G g _))]
  rw [← htake,List.getElem?_take] at hj
  split at hj
  ·simpa using hj
  cases hj
 refine (rT (h ⟨some ⟨g,0,none⟩,cap⟩ _ (PM.le_add hGg) rfl hsl) w hs2).mono ?_
 rintro e w' ⟨u,G',μ',rfl,ht,ν,rfl,hQ⟩
 refine ⟨u,G',_,rfl,?_,ν,rfl,hQ⟩
 rw [hk]
 exact ht.asRow (xD hsz) hnc hcm hcs htake
abbrev Nd:=Ent×(Nat→Nat)
def Nd.cells (x:Nd):List Value:=x.1.cells++(List.range 12).map fun k=>.int .i64 (x.2 k:Int)
def Nd.z:Nd:=(Ent.zero,fun _=>0)
theorem Nd.len (x:Nd):x.cells.length=16:=rfl
theorem Nd.one (x:Nd):∀ u∈x.cells,u.oneCell'=true:=by
 intro u hu
 rcases List.mem_append.1 hu with h | h
 ·exact x.1.one u h
 ·obtain ⟨k,_,rfl⟩:=List.mem_map.1 h; rfl
def cY (xs:List Nd) (a k:Nat):Nat:=(xs.getD a Nd.z).2 k
def pA (e:Ent) (u:ByteArray) (q:BitVec 64):Bool:=lt e.user u||(e.user.toList == u.toList&&decide (q.toNat<e.seq.toNat))
def vJ (xs:List Nd) (u:ByteArray) (q:BitVec 64) (a k:Nat):Prop:=cY xs a k=0∨pA (xs.getD (cY xs a k) Nd.z).1 u q=false
structure WayN (xs:List Nd) (u:ByteArray) (q:BitVec 64) (w:Nat→Nat):Prop where
 top:w 12=0
 lt:∀ k,k≤12→w k<xs.length
 step:∀ k,k<12→(w k=w (k+1)∧vJ xs u q (w (k+1)) k)∨(w k=cY xs (w (k+1)) k∧0<cY xs (w (k+1)) k∧pA (xs.getD (cY xs (w (k+1)) k) Nd.z).1 u q=true∧vJ xs u q (w k) k)
 inb:∀ a,a<xs.length→∀ k,k<12→cY xs a k<xs.length
def xQ (x:Nd) (k v:Nat):Nd:=(x.1,fun j=>if j=k then v else x.2 j)
def aCE (last:Nat→Nat) (fresh:Nat) (xs:List Nd) (k:Nat):List Nd:=xs.set fresh (xQ (xs.getD fresh Nd.z) k (cY xs (last k) k))
def aIY (last:Nat→Nat) (fresh:Nat) (ys:List Nd) (k:Nat):List Nd:=ys.set (last k) (xQ (ys.getD (last k) Nd.z) k fresh)
def nJ (last:Nat→Nat) (fresh:Nat) (xs:List Nd):Nat→List Nd
 | 0=>xs
 | k+1=>aIY last fresh (aCE last fresh (nJ last fresh xs k) k) k
theorem pJ {last:Nat→Nat} {fresh:Nat} {xs:List Nd}:∀ {k:Nat},(nJ last fresh xs k).length=xs.length
 | 0=>rfl
 | k+1=>by simp only [nJ,aCE,aIY,List.length_set]; exact pJ
theorem aHw {α:Type} {enc:α→List Value} {sz q:Nat} {v:Value} {u:α}:∀ {xs:List α} {k:Nat} {x:α},(∀ y∈xs,(enc y).length=sz)→xs[k]? = some x→enc u=(enc x).set q v→q<sz→(xs.set k u).flatMap enc=(xs.flatMap enc).set (k*sz+q) v
 | [],k,x,_,h,_,_=>by simp at h
 | y :: r,0,x,hs,h,hu,hq=>by
  simp only [List.getElem?_cons_zero,Option.some.injEq] at h
  subst h
  have hl:=hs y (List.mem_cons_self ..)
  rw [List.set_cons_zero,List.flatMap_cons,List.flatMap_cons,hu,Nat.zero_mul,Nat.zero_add,List.set_append_left _ _ (by omega)]
 | y :: r,k+1,x,hs,h,hu,hq=>by
  rw [List.getElem?_cons_succ] at h
  have hl:=hs y (List.mem_cons_self ..)
  rw [List.set_cons_succ,List.flatMap_cons,List.flatMap_cons,aHw (fun z hz=>hs z (List.mem_cons_of_mem _ hz)) h hu hq,List.set_append_right _ _ (by rw [hl,Nat.succ_mul]; omega)]
  congr 2
  rw [hl,Nat.succ_mul]; omega
section
variable {dr:Bool} {mc:Md} {P:Program} {n:Fm} {l:List Oper} {K:aJ→PM→aG→Prop} {i:Nat} {σ:List Nat} {ρ:aJ} {G:PM} {μ:aG}
variable {t:Nat} {p:String} {af:Array Edge}
theorem stE {α:Type} {enc:α→List Value} {T E sz m cap b o k q:Nat} {x y:Operand} {v:Value} {xs:List α} {u e:α} {μ':aG} (ho:nth l i=some ⟨none,.store T x y,t,p,af,none⟩) (hx:Ev ρ true x (.pointer (some ⟨b,o,none⟩))) (hy:Ev ρ true y v) (hz:cE P T=some 1)
  (hm:MTake μ (rS sz enc (.slice (some ⟨b,0,none⟩) m cap) E xs) μ') (hsz:∀ y∈xs,(enc y).length=sz) (he:xs[k]? = some e) (hu:enc u=(enc e).set q v) (hq:o=k*sz+q) (hqs:q<sz) (h1:v.oneCell'=true)
  (h:Wo dr mc P n l K σ ρ G (rS sz enc (.slice (some ⟨b,0,none⟩) m cap) E (xs.set k u) :: μ')):Wo dr mc P n l K (i :: σ) ρ G μ:=by
 subst hq
 have hk:k<xs.length:=(List.getElem?_eq_some_iff.1 he).1
 refine .act (μ₁:=[rS sz enc (.slice (some ⟨b,0,none⟩) m cap) E xs]) (μ₂:=μ') (post:=fun G' μ' v=>G'=G∧μ'=[rS sz enc (.slice (some ⟨b,0,none⟩) m cap) E (xs.set k u)]∧v=undef) ho (.inl rfl) .no hm.perm (fun a w ha hs=>.inl ?_) ?_
 ·have hs':=hs.left
  have hrow:w.ownsRow 0 E sz (.slice (some ⟨b,0,none⟩) m cap) xs.length (xs.flatMap enc):=hs'.own _ (List.mem_singleton.2 rfl)
  have hfl:=xD hsz
  rcases hrow.2 with ⟨e,_⟩ | ⟨g,cap',cur,e,_,hg,hnc,hcm,hcs,htake⟩
  ·cases e
  simp only [Value.slice.injEq,Option.some.injEq,Addr.mk.injEq,and_true,true_and] at e
  obtain ⟨rfl,rfl,rfl⟩:=e
  have hkey:keys [rS sz enc (.slice (some ⟨b,0,none⟩) xs.length cap) E xs]=[b]:=by simp [keys,Res.keys,Value.ownBlock]
  have hsat:Sat G [.blk b (.cells cur E (0,0))] w:=⟨hs'.sub,fun r hr=>by rw [List.mem_singleton.1 hr]; exact hg,fun c hc=>hs'.apart c (by simpa [keys,Res.keys,Value.ownBlock] using hc),by simp [keys,Res.keys]⟩
  have hin:k*sz+sz≤xs.length*sz:=by rw [← Nat.succ_mul]; exact Nat.mul_le_mul_right _ hk
  have hcap:xs.length*sz≤cap*sz:=Nat.mul_le_mul_right _ hnc
  have hst:=run_storeCells_at P b (k*sz+q) E [v] 0 cur w hg (by simp; omega) (fun c hc=>by rw [List.mem_singleton.1 hc]; exact h1)
  simp only [Nat.add_zero,List.length_singleton] at hst
  have hlen:k*sz+q<cur.toList.length:=by simp; omega
  have hset:cur.toList.take (k*sz+q)++[v]++cur.toList.drop (k*sz+q+1)=cur.toList.set (k*sz+q) v:=by
   rw [List.set_eq_take_append_cons_drop,if_pos hlen]; simp
  have hfs:=aHw hsz he hu hqs
  have h2:=(zQ (cs':=(cur.toList.take (k*sz+q)++[v]++cur.toList.drop (k*sz+q+1)).toArray) hsat).asRow (m:=xs.length) (cap:=cap) (sz:=sz) (xs:=(xs.set k u).flatMap enc) (by rw [hfs,List.length_set,hfl]) hnc hcm (by rw [hset]; simp; exact hcs) (by
   rw [hset,hfs,←htake]
   simp [List.take_set])
  refine ⟨undef,_,G,_,.inr ⟨?_,rfl⟩,by rw [hkey]; exact h2,rfl,by simp [rS],rfl⟩
  cases hi:P.info? T with
  | none=>simp [cE,hi] at hz
  | some inf =>
   simp only [cE,hi,Option.map_some,Option.some.injEq] at hz
   simp only [execOp,hx.eval ha rfl,hy.eval ha rfl]
   simp [Instr.storeAt,Instr.sureAddr,storeVar,sN h1,sizeOf,typeInfo,hi,hz,hst]
 rintro v' G' μ'' _ ⟨rfl,rfl,rfl⟩
 exact h
end
theorem aIv {xs:List Nd} {a k p:Nat} (ha:a<xs.length) (hk:k<12) (hp:p=a*16+4+k*1):(xs.flatMap Nd.cells)[p]? = some (.int .i64 (cY xs a k:Int)):=by
 subst hp
 obtain ⟨x,hx⟩ : ∃ x,xs[a]? = some x:=⟨_,List.getElem?_eq_getElem ha⟩
 have hfl:∀ {ys:List Nd} {a:Nat} {x:Nd},ys[a]? = some x→∀ j,j<16→(ys.flatMap Nd.cells)[a*16+j]? = (x.cells)[j]?:=by
  intro ys
  induction ys with
  | nil=>intro a x h; simp at h
  | cons y r ih =>
   intro a x h j hj
   rw [List.flatMap_cons]
   cases a with
   | zero =>
    simp only [List.getElem?_cons_zero,Option.some.injEq] at h
    subst h
    rw [Nat.zero_mul,Nat.zero_add,List.getElem?_append_left (by rw [Nd.len]; exact hj)]
   | succ a =>
    rw [List.getElem?_cons_succ] at h
    rw [List.getElem?_append_right (by rw [Nd.len]; omega),Nd.len,show (a+1)*16+j-16=a*16+j by omega]
    exact ih h j hj
 have h1:=hfl hx (4+k) (by omega)
 rw [show a*16+4+k*1=a*16+(4+k) by omega,h1]
 have h2:xs.getD a Nd.z=x:=by rw [List.getD_eq_getElem?_getD,hx]; rfl
 unfold cY
 rw [h2]
 show (x.1.cells++(List.range 12).map fun k=>Value.int .i64 (x.2 k:Int))[4+k]? = _
 rw [List.getElem?_append_right (by rw [Ent.len]; omega),Ent.len,show 4+k-4=k by omega,List.getElem?_map,List.getElem?_range hk]
 rfl
theorem aI2 {x:Nd} {k v:Nat} (hk:k<12):Nd.cells (xQ x k v)=(Nd.cells x).set (4+k) (.int .i64 (v:Int)):=by
 unfold Nd.cells xQ
 rw [List.set_append_right _ _ (by rw [Ent.len]; omega),Ent.len,show 4+k-4=k by omega]
 congr 1
 refine List.ext_getElem? fun j=>?_
 rw [List.getElem?_set,List.getElem?_map,List.getElem?_map,List.length_map,List.length_range]
 by_cases hj:j<12
 ·rw [List.getElem?_range hj]
  by_cases h:j=k
  ·subst h; rw [if_pos rfl,if_pos hj]; simp
  rw [if_neg (fun e=>h e.symm)]; simp [h]
 rw [List.getElem?_eq_none (by simp; omega)]
 rw [if_neg (by omega)]
 rfl
def wA (w:Nat→Nat):List Value:=(List.range 12).map fun j=>.int .i64 (w j:Int)
theorem oT {w:Nat→Nat}:(wA w).length=12:=by simp [wA]
theorem aKl (w:Nat→Nat):∀ u∈wA w,u.oneCell'=true:=fun u hu=>by
 obtain ⟨k,_,rfl⟩:=List.mem_map.1 hu; rfl
theorem aCn {w:Nat→Nat} {k p:Nat} (hk:k<12) (hp:p=k):(wA w)[p]? = some (.int .i64 (w k:Int)):=by
 subst hp
 rw [wA,List.getElem?_map,List.getElem?_range hk]; rfl
theorem aU5 {w w':Nat→Nat} {k p:Nat} {v:Value} (hk:k<12) (hp:p=k) (hv:v=.int .i64 (w' k:Int)) (ho:∀ j,j≠k→w' j=w j):(wA w).set p v=wA w':=by
 subst hp; subst hv
 refine List.ext_getElem? fun j=>?_
 rw [wA,wA,List.getElem?_set,List.getElem?_map,List.getElem?_map,List.length_map,List.length_range]
 by_cases hj:j<12
 ·rw [List.getElem?_range hj]
  by_cases h:p=j
  ·subst h; rw [if_pos rfl,if_pos hj]; rfl
  rw [if_neg h]; show some (Value.int .i64 (w j:Int))=some (Value.int .i64 (w' j:Int)); rw [ho j (fun e=>h e.symm)]
 rw [List.getElem?_eq_none (by simp; omega)]
 rw [if_neg (by omega)]
 rfl
def wK (w:Nat→Nat) (k:Nat):Nat→Nat:=fun j=>if j<k then 0 else w j
theorem aU6 {w:Nat→Nat}:wA (wK w 0)=wA w:=by unfold wK; simp
def wq (w:Nat→Nat) (j q:Nat):Nat:=if q=0 then w (j+1) else w j
theorem aVJ {xs:List Nd} {u:ByteArray} {q:BitVec 64} {w:Nat→Nat} {j p:Nat} (hW:WayN xs u q w) (hj:j<12) (hp:p=0∨p=1∧vJ xs u q (w j) j)
  (h:(decide (((cY xs (wq w j p) j:Nat):Int) > 0)&&pA (xs.getD (cY xs (wq w j p) j) Nd.z).1 u q)=true):p=0∧vJ xs u q (w j) j∧w j=cY xs (w (j+1)) j:=by
 simp only [Bool.and_eq_true,decide_eq_true_eq] at h
 have hno:∀ a,wq w j p=a→¬ vJ xs u q a j:=fun a e hs=>by
  subst e
  rcases hs with hs | hs
  ·rw [hs] at h; simp at h
  ·rw [h.2] at hs; cases hs
 rcases hp with rfl | ⟨rfl,hs⟩
 ·rcases hW.step j hj with ⟨_,h2⟩ | ⟨h1,h2,h3,h4⟩
  ·exact absurd h2 (hno _ rfl)
  ·exact ⟨rfl,h4,h1⟩
 ·exact absurd hs (hno _ rfl)
theorem aVI {xs:List Nd} {u:ByteArray} {q:BitVec 64} {w:Nat→Nat} {j p:Nat} (hW:WayN xs u q w) (hj:j<12) (hp:p=0∨p=1∧vJ xs u q (w j) j)
  (h:(decide (((cY xs (wq w j p) j:Nat):Int) > 0)&&pA (xs.getD (cY xs (wq w j p) j) Nd.z).1 u q)=false):wq w j p=w j:=by
 rcases hp with rfl | ⟨rfl,_⟩
 ·rcases hW.step j hj with ⟨h1,_⟩ | ⟨h1,h2,h3,h4⟩
  ·exact h1.symm
  ·exfalso
   have e:wq w j 0=w (j+1):=rfl
   rw [e,h3,Bool.and_true,decide_eq_false_iff_not] at h
   omega
 ·rfl
theorem aDf {G:PM} {h:Sh} {xs:List Nd} (hs:SlR G 16 Nd.cells h xs) {a k p:Nat} (ha:a<xs.length) (hk:k<12) (hp:p=h.o+(a*16+4+k*1)):RdP G ⟨h.b,p,none⟩ (.int .i64 (cY xs a k:Int)):=by
 subst hp
 exact SlR.flat (fun x _=>Nd.len x) hs _ _ (aIv ha hk rfl)
theorem aDe {G:PM} {h:Sh} {xs:List Nd} (hs:SlR G 16 Nd.cells h xs) {a p:Nat} (ha:a<xs.length) (hp:p=h.o+a*16):RdNP G h.b p (xs.getD a Nd.z).1.cells:=by
 subst hp
 obtain ⟨x,hx⟩ : ∃ x,xs[a]? = some x:=⟨_,List.getElem?_eq_getElem ha⟩
 have h2:xs.getD a Nd.z=x:=by rw [List.getD_eq_getElem?_getD,hx]; rfl
 rw [h2]
 have h3:=hs.at (j:=(a:Int)) (k:=a) (by simp) hx
 rw [show ((a:Int)).toNat=a by simp] at h3
 intro j v hj
 refine h3 j v ?_
 unfold Nd.cells
 rw [List.getElem?_append_left (List.getElem?_eq_some_iff.1 hj).1]; exact hj
theorem aGY {G:PM} {μ μ':aG} {xs:List Nd} {b m cap E a k p:Nat} (h:MTake μ (rS 16 Nd.cells (.slice (some ⟨b,0,none⟩) m cap) E xs) μ') (ha:a<xs.length) (hk:k<12) (hp:p=a*16+4+k*1):Rd G μ ⟨b,p,none⟩ (.int .i64 (cY xs a k:Int)):=Rd.row h (aIv ha hk hp)
theorem aTO {e:Ent} (h:jS e=true):e.user.size≤1024∧e.value.size≤65536:=by
 simp only [jS,Bool.and_eq_true,decide_eq_true_eq] at h
 omega
theorem aH6 {xs:List Nd} {a:Nat} (h:a<xs.length):xs[a]? = some (xs.getD a Nd.z):=by
 rw [List.getD_eq_getElem?_getD,List.getElem?_eq_getElem h]; rfl
theorem aQq {P:Program} {G:PM} {f:FuncId} {args:Array Value} {bl T E:Nat} {v sz:Value} {xs:List Nd} {r:Value}
  (h:∀ (s:Sh) (G2:PM),v=s.val xs.length→SlR G2 16 Nd.cells s xs→PB G2 bl (cl [v,sz] T)→Ct P f args G2 [] (fun _ μ' u=>μ'=[]∧u=r)) :
  Ct P f args G [.blk bl (cl [v,sz] T),rS 16 Nd.cells v E xs] (fun _ μ' u=>μ'=[.blk bl (cl [v,sz] T),rS 16 Nd.cells v E xs]∧u=r):=by
 have h1:Ct P f args (G.add bl (cl [v,sz] T)) [rS 16 Nd.cells v E xs] (fun _ μ' u=>μ'=[rS 16 Nd.cells v E xs]∧u=r) :=
  (aCt (Q:=fun ν u=>ν=[]∧u=r) (fun x _=>Nd.len x) fun s G2 hle hv hs=>h s G2 hv hs ⟨hle _ _ (bU _ _ _)⟩).mono
   fun G' μ' u ⟨ν,h2,h3,h4⟩=>⟨by rw [h2,h3],h4⟩
 exact (rT (Q:=fun μ' u=>μ'=[rS 16 Nd.cells v E xs]∧u=r) h1).mono fun G' μ' u ⟨ν,h2,h3,h4⟩=>⟨by rw [h2,h3],h4⟩
section
variable {dr:Bool} {mc:Md} {P:Program} {n:Fm} {l:List Oper} {K:aJ→PM→aG→Prop} {i:Nat} {σ:List Nat} {ρ:aJ} {G:PM} {μ:aG}
variable {d t:Nat} {p:String} {af:Array Edge}
theorem aRJ {α:Type} {enc:α→List Value} {T E sz by':Nat} {x y:Operand} {z:Value} (u:α) (ho:nth l i=some ⟨some d,.makeSlice T x y,t,p,af,none⟩) (hT:bJ P T=some (E,sz,by')) (hz:(P.info? E).bind (·.zero)=some z) (hx:Ev ρ true x (.int .i64 1)) (hy:Ev ρ true y (.int .i64 1)) (hu:z.cells=(enc u).toArray) (hs:(enc u).length=sz) (hb:by'≤1000000)
  (h:∀ b,Wo dr mc P n l K σ ((d,true,.slice (some ⟨b,0,none⟩) 1 1) :: ρ) G (rS sz enc (.slice (some ⟨b,0,none⟩) 1 1) E [u] :: μ)):Wo dr mc P n l K (i :: σ) ρ G μ:=by
 refine .act (μ₁:=[]) (μ₂:=μ) (post:=fun G' μ' v=>∃ b,G'=G∧v=.slice (some ⟨b,0,none⟩) 1 1∧μ'=[rS sz enc (.slice (some ⟨b,0,none⟩) 1 1) E [u]]) ho (.inl rfl) .no (.refl _) (fun q w hq hs0=>.inl ?_) ?_
 ·obtain ⟨hu',inf,hi,hs1,hb1⟩:=fG hT
  rw [hi] at hz
  simp only [Option.bind_some] at hz
  have hrun:=run_make (P:=P) w T E inf _ hu' hi hz .i64 .i64 1 1 (by omega) (by omega) (by rw [hb1]; simp; omega) (by omega)
  simp at hrun
  have h0:Tr G (keys []) w G [.blk w.heap.size (.cells (madeCells z.cells inf.size) E (0,0))] _:=(eQ (Sat.left (μ:=[]) hs0)).alloc _
  have hmc:(madeCells z.cells inf.size).toList=enc u:=by
   rw [hs1,hu,←hs]
   unfold madeCells
   refine List.ext_getElem? fun j=>?_
   by_cases hj:j<(enc u).length
   ·simp [hj,Nat.mod_eq_of_lt hj]
   simp [hj]
  refine ⟨_,_,G,_,.inl (by simp [execOp,hx.eval hq rfl,hy.eval hq rfl,hrun]),h0.asRow (m:=1) (cap:=1) (sz:=sz) (xs:=enc u) (by rw [hs,Nat.one_mul]) (Nat.le_refl _) (by unfold maxLen; omega) (by rw [← Array.length_toList,hmc,hs,Nat.one_mul]) ?_,w.heap.size,rfl,rfl,by simp [rS]⟩
  rw [hmc,Nat.one_mul,←hs]; simp
 rintro v G' μ'' _ ⟨b,rfl,rfl,rfl⟩
 exact h b
end
def dG (kind:Y) (p:List Y):List Y:=dQ ((aEa (lZ 0#32 ([kind]++p))).setWidth 64) 4++dQ (BitVec.ofInt 64 (p.length:Int)) 2++[kind]
def iI (n j:Nat):Y:=if j=0 then (if n≤128 then 1#8 else 2#8) else if n-128*j≤128 then 4#8 else 3#8
def nN (s:List Y):Nat→List Y
 | 0=>[]
 | j+1=>nN s j++dG (iI s.length j) ((s.drop (128*j)).take 128)++(s.drop (128*j)).take 128
def jG (s:List Y):List Y:=nN s ((s.length+127) / 128)
theorem aUi (M:List Y):M.take (min M.length 128)=M.take 128:=by
 by_cases h:M.length≤128
 ·rw [Nat.min_eq_left h,List.take_length,List.take_of_length_le h]
 ·rw [Nat.min_eq_right (by omega)]
theorem aCW {S M O A B C D E:List Y} {j:Nat} {kind:Y} (eO:O=nN S j) (eM:M=S.drop (128*j)) (eA:A=M.take (min M.length 128)) (eB:B=M.take (min M.length 128)) (eC:C=dG kind A) (eD:D=O++C) (eE:E=D++B) (hk:kind=iI S.length j):E=nN S (j+1):=by
 rw [eE,eD,eC,eA,eB,aUi,eO,eM,hk]; rfl
theorem aBu {S:List Y} {j:Nat}:(S.drop (128*j)).drop (min (S.drop (128*j)).length 128)=S.drop (128*(j+1)):=by
 rw [List.drop_drop]
 by_cases h:(S.drop (128*j)).length≤128
 ·rw [Nat.min_eq_left h]
  rw [List.length_drop] at h ⊢
  rw [List.drop_of_length_le (by omega),List.drop_of_length_le (by omega)]
 ·rw [Nat.min_eq_right (by omega)]; congr 1
theorem gY (kind:Y) (p:List Y):(dG kind p).length=7:=by simp [dG,fP]
theorem aJB (S:List Y) (j:Nat):(nN S j).length≤135*j:=by
 induction j with
 | zero=>exact Nat.zero_le _
 | succ j ih=>rw [nN,List.length_append,List.length_append,gY,List.length_take]; omega
theorem aQS {n j:Nat} (h:j=0) (hn:n≤128):1#8=iI n j:=by unfold iI; rw [if_pos h,if_pos hn]
theorem aQR {n j:Nat} (h:j=0) (hn:¬ n≤128):2#8=iI n j:=by unfold iI; rw [if_pos h,if_neg hn]
theorem aQT {n j:Nat} (h:¬ j=0) (hn:n-128*j≤128):4#8=iI n j:=by unfold iI; rw [if_neg h,if_pos hn]
theorem aQU {n j:Nat} (h:¬ j=0) (hn:¬ n-128*j≤128):3#8=iI n j:=by unfold iI; rw [if_neg h,if_neg hn]
def mC (root:Nat→Y) (h:Hd) (n:BitVec 64) (p:List Y):List Y×Int:=if p.length≤4194304 then (jG (mH (fT root (bA h)) (fU root (bA h)) (kK n) (bA h) p),0) else ([],4)
theorem aQb {root:Nat→Y} {h:Hd} {n:BitVec 64} {p:List Y} (c:¬ p.length≤4194304):([],4)=mC root h n p:=by unfold mC; rw [if_neg c]
theorem aQa {root:Nat→Y} {h:Hd} {n:BitVec 64} {p S O:List Y} {j:Nat} (c:p.length≤4194304) (eS:S=mH (fT root (bA h)) (fU root (bA h)) (kK n) (bA h) p) (eO:O=nN S j) (hj:j=(S.length+127) / 128):(O,0)=mC root h n p:=by
 unfold mC; rw [if_pos c,eO,hj,eS]; rfl
theorem tJ {a b c d e f g k:Value} (h1:a.oneCell'=true) (h2:b.oneCell'=true) (h3:c.oneCell'=true) (h4:d.oneCell'=true) (h5:e.oneCell'=true) (h6:f.oneCell'=true) (h7:g.oneCell'=true) (h8:k.oneCell'=true):∀ u∈[a,b,c,d,e,f,g,k],u.oneCell'=true:=by
 intro u hu
 simp only [List.mem_cons,List.not_mem_nil,or_false] at hu
 rcases hu with rfl|rfl|rfl|rfl|rfl|rfl|rfl|rfl<;>assumption
abbrev Dg:=Nat→Y
def aEV (xs:List Y):Dg:=lH (0#8 :: xs)
def nE (a b:Dg):Dg:=lH (1#8 :: (yl 32 a++yl 32 b))
def aHZ:Dg:=lH [2#8]
def vC (k n:Nat):Nat→Nat
 | 0=>k
 | f+1=>if k+k<n then vC (k*2) n f else k
def pN (n:Nat):Nat:=vC 1 n n
theorem aJH:∀ (f k n:Nat),0<k→n≤k*2^f→k<n→(∃ a,k=2^a)→(∃ b,vC k n f=2^b)∧vC k n f<n∧n≤vC k n f+vC k n f
 | 0,k,n,h0,hn,hk,ha=>by rw [Nat.pow_zero,Nat.mul_one] at hn; omega
 | f+1,k,n,h0,hn,hk,⟨a,ha⟩=>by
  unfold vC
  split
  ·rename_i h
   refine aJH f (k*2) n (by omega) ?_ (by omega) ⟨a+1,by rw [ha,Nat.pow_succ]⟩
   rw [Nat.pow_succ,Nat.mul_comm (2^f) 2,←Nat.mul_assoc] at hn; exact hn
  exact ⟨⟨a,ha⟩,hk,by omega⟩
theorem aEm {n:Nat} (h:2≤n):(∃ b,pN n=2^b)∧pN n<n∧n≤pN n+pN n :=
 aJH n 1 n (by decide) (by rw [Nat.one_mul]; exact Nat.le_of_lt (Nat.lt_two_pow_self)) (by omega) ⟨0,rfl⟩
theorem aSe {n:Nat} (h:2≤n):0<pN n:=by have:=(aEm h).2.2; omega
theorem aSs {a b n:Nat} (h1:2^a<n) (h2:n≤2^a+2^a) (h3:2^b<n) (h4:n≤2^b+2^b):a=b:=by
 rcases Nat.lt_trichotomy a b with h | h | h
 ·have:=Nat.pow_le_pow_right (n:=2) (by decide) (show a+1≤b by omega)
  rw [Nat.pow_succ] at this; omega
 ·exact h
 ·have:=Nat.pow_le_pow_right (n:=2) (by decide) (show b+1≤a by omega)
  rw [Nat.pow_succ] at this; omega
theorem aSd {a m:Nat} (h0:0<m) (hm:m≤2^a):pN (2^a+m)=2^a:=by
 have hp:0<2^a:=Nat.pow_pos (by decide)
 obtain ⟨⟨b,hb⟩,h1,h2⟩:=aEm (n:=2^a+m) (by omega)
 rw [hb] at h1 h2 ⊢
 rw [aSs h1 h2 (show 2^a<2^a+m by omega) (by omega)]
def gG (l:List Dg):Dg :=
 match l with
 | []=>aHZ
 | [d]=>d
 | a :: b :: r=>nE (gG ((a :: b :: r).take (pN (r.length+2)))) (gG ((a :: b :: r).drop (pN (r.length+2))))
termination_by l.length
decreasing_by
 ·have:=aEm (n:=r.length+2) (by omega)
  simp only [List.length_take,List.length_cons]; omega
 ·have:=aSe (n:=r.length+2) (by omega)
  simp only [List.length_drop,List.length_cons]; omega
theorem aTU:gG []=aHZ:=by rw [gG]
theorem aTW (d:Dg):gG [d]=d:=by rw [gG]
theorem aTX {l:List Dg} (h:2≤l.length):gG l=nE (gG (l.take (pN l.length))) (gG (l.drop (pN l.length))):=by
 match l,h with
 | a :: b :: r,_=>rw [gG]; rfl
theorem aJp {s t:List Dg} {a:Nat} (hs:s.length=2^a) (h0:0<t.length) (ht:t.length≤2^a):gG (s++t)=nE (gG s) (gG t):=by
 have hp:0<2^a:=Nat.pow_pos (by decide)
 have hl:(s++t).length=2^a+t.length:=by rw [List.length_append,hs]
 rw [aTX (by omega),hl,aSd h0 ht,←hs,List.take_left,List.drop_left]
inductive Stk:List (Nat×Dg)→List Dg→Prop
 | nil:Stk [] []
 | cons {a:Nat} {r:Dg} {S:List (Nat×Dg)} {L seg:List Dg} (hS:Stk S L) (hl:seg.length=2^a) (hr:gG seg=r) (hlt:∀ b s S',S=(b,s) :: S'→a<b):Stk ((a,r) :: S) (L++seg)
def finD (d:Dg):List (Nat×Dg)→Dg
 | []=>d
 | p :: S=>finD (nE p.2 d) S
theorem Stk.root:∀ {S:List (Nat×Dg)} {L T:List Dg},Stk S L→0<T.length→(∀ b s S',S=(b,s) :: S'→T.length≤2^b)→gG (L++T)=finD (gG T) S
 | [],L,T,h,h0,_=>by cases h; rfl
 | (a,r) :: S,L,T,h,h0,hb=>by
  cases h with
  | @cons _ _ _ L seg hS hl hr hlt =>
   rw [List.append_assoc,Stk.root hS (by rw [List.length_append]; omega) (fun b s S' e=>by
    have h1:=hlt b s S' e
    have h2:=hb a r S rfl
    have h3:=Nat.pow_le_pow_right (n:=2) (by decide) (show a+1≤b by omega)
    rw [Nat.pow_succ] at h3
    rw [List.length_append,hl]; omega),aJp hl h0 (hb a r S rfl),hr]
   rfl
theorem Stk.done {a:Nat} {r:Dg} {S:List (Nat×Dg)} {L:List Dg} (h:Stk ((a,r) :: S) L):gG L=finD r S:=by
 cases h with
 | @cons _ _ _ L seg hS hl hr hlt =>
  have hp:0<2^a:=Nat.pow_pos (by decide)
  rw [Stk.root hS (by omega) (fun b s S' e=>by rw [hl]; exact Nat.pow_le_pow_right (by decide) (Nat.le_of_lt (hlt b s S' e))),hr]
theorem aJM (a d t:Nat):2^(a+1+d)*t+2^a=2^a*(2*(2^d*t)+1):=by
 rw [Nat.pow_add,Nat.pow_succ,Nat.mul_add,Nat.mul_one]
 simp only [Nat.mul_assoc]
theorem Stk.len:∀ {S:List (Nat×Dg)} {L:List Dg} {a:Nat} {r:Dg},Stk ((a,r) :: S) L→∃ m,L.length=2^a*(2*m+1)
 | [],L,a,r,h=>by
  cases h with
  | @cons _ _ _ L seg hS hl hr hlt=>cases hS; exact ⟨0,by simpa using hl⟩
 | (b,s) :: S,L,a,r,h=>by
  cases h with
  | @cons _ _ _ L seg hS hl hr hlt =>
   obtain ⟨m,hm⟩:=Stk.len hS
   have hab:=hlt b s S rfl
   obtain ⟨d,rfl⟩ : ∃ d,b=a+1+d:=⟨b-a-1,by omega⟩
   refine ⟨2^d*(2*m+1),?_⟩
   rw [List.length_append,hm,hl,aJM]
structure Pend (S:List (Nat×Dg)) (d:Dg) (a:Nat) (l:List Dg):Prop where
 out:∃ L seg,Stk S L∧seg.length=2^a∧gG seg=d∧L++seg=l∧∀ b s S',S=(b,s) :: S'→a≤b
theorem aNK {S:List (Nat×Dg)} {L:List Dg} (h:Stk S L) (d:Dg):Pend S d 0 (L++[d]):=⟨L,[d],h,rfl,aTW d,rfl,fun _ _ _ _=>Nat.zero_le _⟩
theorem Pend.even {S:List (Nat×Dg)} {d:Dg} {a:Nat} {l:List Dg} (h:Pend S d a l) (he:(l.length / 2^a)%2=0):∃ s S',S=(a,s) :: S'∧Pend S' (nE s d) (a+1) l∧l.length / 2^a / 2=l.length / 2^(a+1):=by
 obtain ⟨L,seg,hS,hl,hr,he',hb⟩:=h.out
 have hp:0<2^a:=Nat.pow_pos (by decide)
 have hdiv:l.length / 2^a / 2=l.length / 2^(a+1):=by rw [Nat.div_div_eq_div_mul,Nat.pow_succ]
 have hlen:l.length=L.length+2^a:=by rw [← he',List.length_append,hl]
 match S,hS,hb with
 | [],hS,hb =>
  cases hS
  rw [List.length_nil,Nat.zero_add] at hlen
  rw [hlen,Nat.div_self hp] at he; cases he
 | (b,s) :: S',hS,hb =>
  obtain ⟨m,hm⟩:=hS.len
  have hab:=hb b s S' rfl
  by_cases e:a=b
  ·subst e
   refine ⟨s,S',rfl,?_,hdiv⟩
   cases hS with
   | @cons _ _ _ L0 seg0 hS0 hl0 hr0 hlt =>
    refine ⟨L0,seg0++seg,hS0,by rw [List.length_append,hl0,hl,Nat.pow_succ]; omega,?_,by rw [← List.append_assoc]; exact he',fun b s S'' e=>hlt b s S'' e⟩
    rw [aJp hl0 (by omega) (by omega),hr0,hr]
  exfalso
  obtain ⟨d',rfl⟩ : ∃ d',b=a+1+d':=⟨b-a-1,by omega⟩
  have h3:l.length=2^a*(2*(2^d'*(2*m+1))+1):=by
   rw [hlen,hm,aJM]
  rw [h3,Nat.mul_div_cancel_left _ hp] at he
  omega
theorem Pend.odd {S:List (Nat×Dg)} {d:Dg} {a:Nat} {l:List Dg} (h:Pend S d a l) (he:(l.length / 2^a)%2=1):Stk ((a,d) :: S) l:=by
 obtain ⟨L,seg,hS,hl,hr,he',hb⟩:=h.out
 have hp:0<2^a:=Nat.pow_pos (by decide)
 subst he'
 refine .cons hS hl hr fun b s S' e=>?_
 have hab:=hb b s S' e
 rcases Nat.lt_or_eq_of_le hab with h1 | h1
 ·exact h1
 exfalso
 subst e; subst h1
 obtain ⟨m,hm⟩:=hS.len
 rw [List.length_append,hl,hm,show 2^a*(2*m+1)+2^a=2^a*(2*m+2) by rw [Nat.mul_add,Nat.mul_one,Nat.mul_add]; omega,Nat.mul_div_cancel_left _ hp] at he
 omega
theorem Stk.short:∀ {S:List (Nat×Dg)} {L:List Dg},Stk S L→S.length≤L.length
 | [],_,_=>Nat.zero_le _
 | (a,r) :: S,L,h=>by
  cases h with
  | @cons _ _ _ L seg hS hl hr hlt =>
   have:=Stk.short hS
   have hp:0<2^a:=Nat.pow_pos (by decide)
   rw [List.length_append,List.length_cons]; omega
section
variable {α:Type}
theorem aEK {l:List α} {k:Nat} {z:α} (h:k<l.length):l[k]? = some (l.getD k z):=by simp [h]
end
theorem aPM {m:Meta} (h:m.wf):(eF m).length≤m.min.size+m.max.size+112:=by
 have l1:=h.level; have l2:=h.gen; have l3:=h.epoch; have l4:=h.number; have l7:=h.minL; have l8:=h.maxL
 have n1:=hJ (n:=m.level.toNat) (by omega); have n2:=hJ (n:=m.gen.toNat) (by omega); have n3:=hJ (n:=m.epoch.toNat) (by omega); have n4:=hJ (n:=m.number.toNat) (by omega)
 have n5:=hJ (aKa m.size); have n6:=hJ (aKa m.count)
 have y1:=iC m.min; have y2:=iC m.max
 have s1:=yC (xs:=yb m.min) (by omega); have s2:=yC (xs:=yb m.max) (by omega)
 unfold eF
 simp only [List.length_append,List.length_map,List.length_range]
 omega
theorem aD6 {e:Edit} (h:e.wf) (ha:e.add.length≤1000000) (hd:e.drop.length≤1000000):(kC e).length≤(e.add.flatMap eF).length+20*e.drop.length+110:=by
 have l1:=h.log; have l2:=h.next; have l3:=h.seq; have l4:=h.least
 unfold u64 at l1 l2 l3 l4
 have n1:=hJ (n:=e.log.toNat) (by omega); have n2:=hJ (n:=e.next.toNat) (by omega); have n3:=hJ (n:=e.seq.toNat) (by omega); have n4:=hJ (n:=e.least.toNat) (by omega)
 have n5:=hJ (n:=e.add.length) (by omega); have n6:=hJ (n:=e.drop.length) (by omega)
 have g:((List.range 5).flatMap fun i=>cL (e.gens i).toNat).length≤10*5:=by
  have:=gD (ns:=gM e) (qT h)
  unfold dC gM at this
  rw [List.flatMap_map] at this
  simpa using this
 have d:=aAL h.drop
 unfold kC
 simp only [List.length_append]
 omega
def cH (r:List Y):Nat:=(r.getD 4 0).toNat+256*(r.getD 5 0).toNat
def gJ (kind:Y) (n:Nat) (begun:Bool):Bool :=
 if kind=1#8 then begun else if kind=2#8 then begun||decide (n<128) else if kind=3#8 then !begun||decide (n<128) else if kind=4#8 then !begun else true
def dO (op:Nat→List Y→Option (List Y)) (tot:Nat) (r parts:List Y) (recs:List (List Y)) (used:Nat):Option (List (List Y)×Nat) :=
 if h7:r.length<7 then some (recs,used)
 else if cH r=0∨128<cH r then none
 else if h:r.length<7+cH r then some (recs,used)
 else if dG (r.getD 6 0) ((r.drop 7).take (cH r))≠r.take 7∨gJ (r.getD 6 0) (cH r) (!parts.isEmpty)=true then none
 else if r.getD 6 0=1#8∨r.getD 6 0=4#8 then
  match op recs.length (parts++(r.drop 7).take (cH r)) with
  | none=>none
  | some x=>dO op tot (r.drop (7+cH r)) [] (recs++[x]) (tot-(r.drop (7+cH r)).length)
 else dO op tot (r.drop (7+cH r)) (parts++(r.drop 7).take (cH r)) recs used
termination_by r.length
decreasing_by all_goals (simp only [List.length_drop]; omega)
section
variable {op:Nat→List Y→Option (List Y)} {tot:Nat} {r parts:List Y} {recs:List (List Y)} {used:Nat}
theorem aEs (h:r.length<7):dO op tot r parts recs used=some (recs,used):=by rw [dO,dif_pos h]
theorem aJP (h:¬ r.length<7) (hn:cH r=0∨128<cH r):dO op tot r parts recs used=none:=by rw [dO,dif_neg h,if_pos hn]
theorem aJU (h:¬ r.length<7) (hn:¬ (cH r=0∨128<cH r)) (ht:r.length<7+cH r):dO op tot r parts recs used=some (recs,used):=by rw [dO,dif_neg h,if_neg hn,dif_pos ht]
theorem aEr (h:¬ r.length<7) (hn:¬ (cH r=0∨128<cH r)) (ht:¬ r.length<7+cH r) (hf:dG (r.getD 6 0) ((r.drop 7).take (cH r))≠r.take 7∨gJ (r.getD 6 0) (cH r) (!parts.isEmpty)=true):dO op tot r parts recs used=none:=by
 rw [dO,dif_neg h,if_neg hn,dif_neg ht,if_pos hf]
theorem aJR (h:¬ r.length<7) (hn:¬ (cH r=0∨128<cH r)) (ht:¬ r.length<7+cH r) (hf:¬ (dG (r.getD 6 0) ((r.drop 7).take (cH r))≠r.take 7∨gJ (r.getD 6 0) (cH r) (!parts.isEmpty)=true)) (hk:¬ (r.getD 6 0=1#8∨r.getD 6 0=4#8)) :
  dO op tot r parts recs used=dO op tot (r.drop (7+cH r)) (parts++(r.drop 7).take (cH r)) recs used:=by
 conv=>lhs; rw [dO,dif_neg h,if_neg hn,dif_neg ht,if_neg hf,if_neg hk]
theorem aJT {x:List Y} (h:¬ r.length<7) (hn:¬ (cH r=0∨128<cH r)) (ht:¬ r.length<7+cH r) (hf:¬ (dG (r.getD 6 0) ((r.drop 7).take (cH r))≠r.take 7∨gJ (r.getD 6 0) (cH r) (!parts.isEmpty)=true)) (hk:r.getD 6 0=1#8∨r.getD 6 0=4#8) (hx:op recs.length (parts++(r.drop 7).take (cH r))=some x) :
  dO op tot r parts recs used=dO op tot (r.drop (7+cH r)) [] (recs++[x]) (tot-(r.drop (7+cH r)).length):=by
 conv=>lhs; rw [dO,dif_neg h,if_neg hn,dif_neg ht,if_neg hf,if_pos hk,hx]
theorem aS9 (h:¬ r.length<7) (hn:¬ (cH r=0∨128<cH r)) (ht:¬ r.length<7+cH r) (hf:¬ (dG (r.getD 6 0) ((r.drop 7).take (cH r))≠r.take 7∨gJ (r.getD 6 0) (cH r) (!parts.isEmpty)=true)) (hk:r.getD 6 0=1#8∨r.getD 6 0=4#8) (hx:op recs.length (parts++(r.drop 7).take (cH r))=none) :
  dO op tot r parts recs used=none:=by
 rw [dO,dif_neg h,if_neg hn,dif_neg ht,if_neg hf,if_pos hk,hx]
theorem aEG {n:BitVec 64} {m j:Nat} (h:j<m):(dQ n m)[j]? = some ((n >>> (8*j)).setWidth 8):=by simp [dQ,h]
theorem aPg (kind:Y) (p:List Y):(dG kind p)[4]? = some ((BitVec.ofInt 64 (p.length:Int)).setWidth 8):=by
 unfold dG
 rw [List.append_assoc,List.getElem?_append_right (by simp [fP]),fP,List.getElem?_append_left (by simp [fP]),aEG (by decide)]; simp
theorem aPh (kind:Y) (p:List Y):(dG kind p)[5]? = some ((BitVec.ofInt 64 (p.length:Int) >>> 8).setWidth 8):=by
 unfold dG
 rw [List.append_assoc,List.getElem?_append_right (by simp [fP]),fP,List.getElem?_append_left (by simp [fP]),aEG (by decide)]
theorem aPi (kind:Y) (p:List Y):(dG kind p)[6]? = some kind:=by
 unfold dG
 rw [List.getElem?_append_right (by simp [fP])]; simp [fP]
theorem aB7 {xs:List Y} {j:Nat} {y:Y} (h:xs[j]? = some y):xs.getD j 0=y:=by rw [List.getD_eq_getElem?_getD,h]; rfl
theorem aJK {r:List Y} {kind:Y} {p:List Y} (h4:r[4]? = (dG kind p)[4]?) (h5:r[5]? = (dG kind p)[5]?) (hp:p.length≤128):cH r=p.length:=by
 unfold cH
 rw [aPg] at h4
 rw [aPh] at h5
 rw [aB7 h4,aB7 h5]
 have e:BitVec.ofInt 64 (p.length:Int)=BitVec.ofNat 64 p.length:=by simp
 rw [e]
 simp only [BitVec.toNat_setWidth,BitVec.toNat_ushiftRight,BitVec.toNat_ofNat,Nat.shiftRight_eq_div_pow]
 omega
theorem aJJ {kind:Y} {p t:List Y} (hp:p.length≤128):cH (dG kind p++p++t)=p.length :=
 aJK (kind:=kind) (p:=p) (by rw [List.append_assoc,List.getElem?_append_left (by rw [gY]; decide)]) (by rw [List.append_assoc,List.getElem?_append_left (by rw [gY]; decide)]) hp
theorem aB9 {kind:Y} {p t:List Y}:(dG kind p++p++t).getD 6 0=kind :=
 aB7 (by rw [List.append_assoc,List.getElem?_append_left (by rw [gY]; decide),aPi])
theorem aKP {kind:Y} {p t:List Y}:(dG kind p++p++t).take 7=dG kind p:=by
 rw [List.append_assoc,List.take_left' (gY _ _)]
theorem aCi {kind:Y} {p t:List Y}:((dG kind p++p++t).drop 7).take p.length=p:=by
 rw [List.append_assoc,List.drop_left' (gY _ _),List.take_left]
theorem aHU {kind:Y} {p t:List Y}:(dG kind p++p++t).drop (7+p.length)=t:=by
 rw [List.drop_left' (by rw [List.length_append,gY])]
theorem aH7 {kind:Y} {p t:List Y} (hp:p.length≤128) (h0:0<p.length) (hw:gJ kind p.length (!parts.isEmpty)=false) (hk:¬ (kind=1#8∨kind=4#8)) :
  dO op tot (dG kind p++p++t) parts recs used=dO op tot t (parts++p) recs used:=by
 have hN:=aJJ (kind:=kind) (t:=t) hp
 have hl:(dG kind p++p++t).length=7+p.length+t.length:=by rw [List.length_append,List.length_append,gY]
 have h:=aJR (op:=op) (tot:=tot) (r:=dG kind p++p++t) (parts:=parts) (recs:=recs) (used:=used) (by omega) (by omega) (by omega) (by rw [aB9,hN,aCi,aKP,hw]; simp) (by rw [aB9]; exact hk)
 rw [hN,aCi,aHU] at h
 exact h
theorem aTJ {kind:Y} {p t x:List Y} (hp:p.length≤128) (h0:0<p.length) (hw:gJ kind p.length (!parts.isEmpty)=false) (hk:kind=1#8∨kind=4#8) (hx:op recs.length (parts++p)=some x) :
  dO op tot (dG kind p++p++t) parts recs used=dO op tot t [] (recs++[x]) (tot-t.length):=by
 have hN:=aJJ (kind:=kind) (t:=t) hp
 have hl:(dG kind p++p++t).length=7+p.length+t.length:=by rw [List.length_append,List.length_append,gY]
 have h:=aJT (op:=op) (tot:=tot) (r:=dG kind p++p++t) (parts:=parts) (recs:=recs) (used:=used) (x:=x) (by omega) (by omega) (by omega) (by rw [aB9,hN,aCi,aKP,hw]; simp) (by rw [aB9]; exact hk) (by rw [hN,aCi]; exact hx)
 rw [hN,aHU] at h
 exact h
theorem aUs {kind:Y} {p:List Y} {k:Nat} (hp:p.length≤128) (h0:0<p.length) (hk:k<7+p.length):dO op tot ((dG kind p++p).take k) parts recs used=some (recs,used):=by
 have hl:((dG kind p++p).take k).length=k:=by rw [List.length_take,List.length_append,gY]; omega
 by_cases h7:k<7
 ·exact aEs (by omega)
 ·have hN:cH ((dG kind p++p).take k)=p.length:=aJK (kind:=kind) (p:=p)
   (by rw [List.getElem?_take,if_pos (by omega),List.getElem?_append_left (by rw [gY]; decide)]) (by rw [List.getElem?_take,if_pos (by omega),List.getElem?_append_left (by rw [gY]; decide)]) hp
  exact aJU (by omega) (by omega) (by omega)
end
def oM (s:List Y) (j:Nat):List Y:=dG (iI s.length j) ((s.drop (128*j)).take 128)++(s.drop (128*j)).take 128
def jH (s:List Y):Nat→Nat→List Y
 | _,0=>[]
 | j,m+1=>oM s j++jH s (j+1) m
theorem aJC (s:List Y):∀ (m j:Nat),nN s j++jH s j m=nN s (j+m)
 | 0,j=>by simp [jH]
 | m+1,j=>by
  have:=aJC s m (j+1)
  rw [show j+(m+1)=j+1+m by omega,←this,jH,oM,nN]
  simp only [List.append_assoc]
theorem aJh (s:List Y):jG s=jH s 0 ((s.length+127) / 128):=by
 have:=aJC s ((s.length+127) / 128) 0
 rw [Nat.zero_add] at this
 unfold jG
 rw [← this]; rfl
theorem aDy (s:List Y) (j:Nat):((s.drop (128*j)).take 128).length=min 128 (s.length-128*j):=by rw [List.length_take,List.length_drop]
theorem aSf (s:List Y) (j:Nat):(oM s j).length=7+min 128 (s.length-128*j):=by rw [oM,List.length_append,gY,aDy]
theorem aDx (s:List Y) (j:Nat):s.take (128*j)++(s.drop (128*j)).take 128=s.take (128*(j+1)):=by
 rw [show 128*(j+1)=128*j+128 by omega,List.take_add]
theorem aDo {s:List Y} {j:Nat} (h:128*j<s.length):(!(s.take (128*j)).isEmpty)=decide (0<j):=by
 cases j with
 | zero=>simp
 | succ j =>
  have:(s.take (128*(j+1))).isEmpty=false:=by
   cases hq:s.take (128*(j+1)) with
   | nil =>
    have:=congrArg List.length hq
    rw [List.length_take,List.length_nil] at this
    omega
   | cons a l=>rfl
  rw [this]; simp
theorem aEx {n j m:Nat} (hj:128*j<n) (hm:m=min 128 (n-128*j)):gJ (iI n j) m (decide (0<j))=false:=by
 unfold iI
 by_cases h0:j=0
 ·subst h0
  by_cases hn:n≤128
  ·rw [if_pos rfl,if_pos hn]; simp [gJ]
  ·rw [if_pos rfl,if_neg hn]; simp [gJ]; omega
 ·by_cases hn:n-128*j≤128
  ·rw [if_neg h0,if_pos hn]; simp [gJ]; omega
  ·rw [if_neg h0,if_neg hn]; simp [gJ]; omega
theorem aES {n j:Nat}:(iI n j=1#8∨iI n j=4#8)↔n-128*j≤128:=by
 unfold iI
 by_cases h0:j=0
 ·subst h0
  by_cases hn:n≤128
  ·rw [if_pos rfl,if_pos hn]; simp; omega
  ·rw [if_pos rfl,if_neg hn]; simp; omega
 ·by_cases hn:n-128*j≤128
  ·rw [if_neg h0,if_pos hn]; simp; omega
  ·rw [if_neg h0,if_neg hn]; simp; omega
section
variable {op:Nat→List Y→Option (List Y)} {tot:Nat} {recs:List (List Y)} {used:Nat} {s:List Y}
theorem aJf {x t:List Y} (hx:op recs.length s=some x):∀ (m j:Nat),128*j<s.length→j+m=(s.length+127) / 128 →
  dO op tot (jH s j m++t) (s.take (128*j)) recs used=dO op tot t [] (recs++[x]) (tot-t.length)
 | 0,j,h1,h2=>by omega
 | m+1,j,h1,h2=>by
  have hl:=aDy s j
  rw [jH,oM,List.append_assoc]
  by_cases hk:s.length-128*j≤128
  ·have hm:m=0:=by omega
   subst hm
   have:=aTJ (op:=op) (tot:=tot) (recs:=recs) (used:=used) (parts:=s.take (128*j)) (kind:=iI s.length j) (p:=(s.drop (128*j)).take 128) (t:=jH s (j+1) 0++t) (x:=x)
    (by omega) (by omega) (by rw [aDo h1]; exact aEx h1 hl) (aES.2 hk) (by rw [aDx,List.take_of_length_le (by omega)]; exact hx)
   rw [this]
   rfl
  ·have:=aH7 (op:=op) (tot:=tot) (recs:=recs) (used:=used) (parts:=s.take (128*j)) (kind:=iI s.length j) (p:=(s.drop (128*j)).take 128) (t:=jH s (j+1) m++t)
    (by omega) (by omega) (by rw [aDo h1]; exact aEx h1 hl) (fun h=>hk (aES.1 h))
   rw [this,aDx]
   exact aJf hx m (j+1) (by omega) (by omega)
theorem aTE {x t:List Y} (h0:0<s.length) (hx:op recs.length s=some x):dO op tot (jG s++t) [] recs used=dO op tot t [] (recs++[x]) (tot-t.length):=by
 rw [aJh]
 have:=aJf (op:=op) (tot:=tot) (used:=used) (t:=t) hx ((s.length+127) / 128) 0 (by omega) (by omega)
 simpa using this
theorem aHG:∀ (m j k:Nat),128*j<s.length→j+m=(s.length+127) / 128→k<(jH s j m).length →
  dO op tot ((jH s j m).take k) (s.take (128*j)) recs used=some (recs,used)
 | 0,j,k,h1,h2,h3=>by simp [jH] at h3
 | m+1,j,k,h1,h2,h3=>by
  have hl:=aDy s j
  have hp:=aSf s j
  rw [jH,List.length_append] at h3
  rw [jH]
  by_cases hk:k<(oM s j).length
  ·rw [List.take_append_of_le_length (by omega),oM]
   exact aUs (by omega) (by omega) (by omega)
  have hm:¬ s.length-128*j≤128:=fun hc=>by
   have:m=0:=by omega
   subst this
   simp [jH] at h3; omega
  rw [List.take_append,List.take_of_length_le (by omega),oM]
  have:=aH7 (op:=op) (tot:=tot) (recs:=recs) (used:=used) (parts:=s.take (128*j)) (kind:=iI s.length j) (p:=(s.drop (128*j)).take 128) (t:=(jH s (j+1) m).take (k-(oM s j).length))
   (by omega) (by omega) (by rw [aDo h1]; exact aEx h1 hl) (fun h=>hm (aES.1 h))
  rw [oM] at this
  rw [this,aDx]
  refine aHG m (j+1) _ (by omega) (by omega) ?_
  rw [← oM]; omega
theorem aOe {k:Nat} (hk:k<(jG s).length):dO op tot ((jG s).take k) [] recs used=some (recs,used):=by
 rw [aJh] at hk ⊢
 have h0:0<s.length:=by
  by_cases h:s.length=0
  ·rw [h] at hk; simp [jH] at hk
  ·omega
 have:=aHG (op:=op) (tot:=tot) (recs:=recs) (used:=used) ((s.length+127) / 128) 0 k (by omega) (by omega) hk
 simpa using this
end
def fI (sl:Nat→List Y→List Y):Nat→List (List Y)→List Y
 | _,[]=>[]
 | i,p :: ps=>jG (sl i p)++fI sl (i+1) ps
theorem aG5 (sl:Nat→List Y→List Y):∀ (ps qs:List (List Y)) (i:Nat),fI sl i (ps++qs)=fI sl i ps++fI sl (i+ps.length) qs
 | [],qs,i=>by simp [fI]
 | p :: ps,qs,i=>by
  rw [List.cons_append,fI,fI,aG5 sl ps qs (i+1),List.append_assoc,List.length_cons,show i+1+ps.length=i+(ps.length+1) by omega]
def iQ (sl:Nat→List Y→List Y) (i:Nat) (rs:List (List Y)) (n:Nat):Nat:=(fI sl i (rs.take n)).length
theorem aAC (sl:Nat→List Y→List Y) (i:Nat) (rs:List (List Y)):iQ sl i rs 0=0:=by simp [iQ,fI]
theorem aBy (sl:Nat→List Y→List Y) (i:Nat) (p:List Y) (rs:List (List Y)) (n:Nat):iQ sl i (p :: rs) (n+1)=(jG (sl i p)).length+iQ sl (i+1) rs n:=by simp [iQ,fI]
theorem aHe (sl:Nat→List Y→List Y) (i:Nat) (rs:List (List Y)):iQ sl i rs rs.length=(fI sl i rs).length:=by simp [iQ]
theorem aPQ (sl:Nat→List Y→List Y) (i:Nat) (rs:List (List Y)) {m n:Nat} (h:m≤n):iQ sl i rs m≤iQ sl i rs n:=by
 unfold iQ
 have:rs.take n=rs.take m++(rs.take n).drop m:=by
  have:=List.take_append_drop m (rs.take n)
  rw [List.take_take,Nat.min_eq_left h] at this
  exact this.symm
 rw [this,aG5,List.length_append]; omega
theorem aJc {op:Nat→List Y→Option (List Y)} {sl:Nat→List Y→List Y} {tot:Nat}:∀ (rs:List (List Y)) (recs:List (List Y)) (base k i:Nat),(∀ j p,rs[j]? = some p→op (i+j) (sl (i+j) p)=some p∧0<(sl (i+j) p).length) →
  recs.length=i→k≤(fI sl i rs).length→tot=base+k →
  ∃ n,n≤rs.length∧iQ sl i rs n≤k∧(n<rs.length→k<iQ sl i rs (n+1))∧dO op tot ((fI sl i rs).take k) [] recs base=some (recs++rs.take n,base+iQ sl i rs n)
 | [],recs,base,k,i,_,hi,hk,ht=>by
  refine ⟨0,Nat.le_refl _,by rw [aAC]; exact Nat.zero_le _,fun h=>absurd h (by simp),?_⟩
  rw [aAC]
  simp only [fI,List.take_nil]
  rw [aEs (by simp)]; simp
 | p :: rs,recs,base,k,i,ho,hi,hk,ht=>by
  obtain ⟨hop,hpos⟩:=ho 0 p rfl
  rw [Nat.add_zero] at hop hpos
  have hlen:(fI sl i (p :: rs)).length=(jG (sl i p)).length+(fI sl (i+1) rs).length:=by rw [fI,List.length_append]
  rw [fI]
  by_cases hlt:k<(jG (sl i p)).length
  ·refine ⟨0,Nat.zero_le _,by rw [aAC]; exact Nat.zero_le _,fun _=>by rw [Nat.zero_add,aBy,aAC]; exact hlt,?_⟩
   rw [List.take_append_of_le_length (by omega),aOe hlt,aAC]; simp
  rw [List.take_append,List.take_of_length_le (by omega),aTE (x:=p) hpos (by rw [hi]; exact hop)]
  have hl2:((fI sl (i+1) rs).take (k-(jG (sl i p)).length)).length=k-(jG (sl i p)).length:=by rw [List.length_take]; omega
  rw [hl2]
  obtain ⟨n,h1,h2,h3,h4⟩:=aJc (op:=op) (sl:=sl) (tot:=tot) rs (recs++[p]) (base+(jG (sl i p)).length) (k-(jG (sl i p)).length) (i+1)
   (fun j q hq=>by have:=ho (j+1) q hq; rwa [show i+(j+1)=i+1+j by omega] at this) (by simp [hi]) (by omega) (by omega)
  refine ⟨n+1,by simp; omega,by rw [aBy]; omega,fun h=>?_,?_⟩
  ·have:=h3 (by simpa using h)
   rw [aBy]; omega
  rw [show tot-(k-(jG (sl i p)).length)=base+(jG (sl i p)).length by omega,h4,aBy]
  simp [List.append_assoc,Nat.add_assoc]
structure LogV where
 hd:Hd
 recs:List (List Y)
 used:Nat
 torn:Bool
def mF (root:Nat→Y) (h:Hd) (i:Nat) (s:List Y):Option (List Y):=rA (fT root (bA h)) (fU root (bA h)) (kK (BitVec.ofInt 64 (i:Int))) (bA h) s
def lG (root:Nat→Y) (h:Hd) (i:Nat) (p:List Y):List Y:=mH (fT root (bA h)) (fU root (bA h)) (kK (BitVec.ofInt 64 (i:Int))) (bA h) p
def wU (root:Nat→Y) (h:Hd) (xs:List Y):Option (List (List Y)×Nat):=dO (mF root h) xs.length (xs.drop 30) [] [] 30
def fV (root:Nat→Y) (xs:List Y):LogV×Int :=
 if xs.length<30 then (⟨Hd.zero,[],0,true⟩,0)
 else if (cQ xs).2≠0 then (⟨Hd.zero,[],0,false⟩,(cQ xs).2)
 else match wU root (cQ xs).1 xs with
  | none=>(⟨Hd.zero,[],0,false⟩,160)
  | some (recs,used)=>(⟨(cQ xs).1,recs,used,decide (used<xs.length)⟩,0)
theorem aJe {root:Nat→Y} {xs:List Y} (h:xs.length<30):fV root xs=(⟨Hd.zero,[],0,true⟩,0):=by unfold fV; rw [if_pos h]
theorem aJd {root:Nat→Y} {xs:List Y} (h:¬ xs.length<30) (he:(cQ xs).2≠0):fV root xs=(⟨Hd.zero,[],0,false⟩,(cQ xs).2):=by unfold fV; rw [if_neg h,if_pos he]
theorem xT {root:Nat→Y} {xs:List Y} (h:¬ xs.length<30) (he:(cQ xs).2=0) (hb:wU root (cQ xs).1 xs=none):fV root xs=(⟨Hd.zero,[],0,false⟩,160):=by unfold fV; rw [if_neg h,if_neg (fun k=>k he),hb]
theorem aEu {root:Nat→Y} {xs:List Y} {recs:List (List Y)} {used:Nat} (h:¬ xs.length<30) (he:(cQ xs).2=0) (hb:wU root (cQ xs).1 xs=some (recs,used)):fV root xs=(⟨(cQ xs).1,recs,used,decide (used<xs.length)⟩,0):=by unfold fV; rw [if_neg h,if_neg (fun k=>k he),hb]
theorem aCl (n:BitVec 64) (t:List Y):fC (dQ n 8++t) 8=n:=by
 have key:∀ k,k≤8→∀ i,i<64→(fC (dQ n 8++t) k).getLsbD i=(decide (i<8*k)&&n.getLsbD i):=by
  intro k
  induction k with
  | zero=>intro _ i _; simp [fC]
  | succ k ih =>
   intro hk i hi
   have hg:(dQ n 8++t).getD k 0=(n >>> (8*k)).setWidth 8:=aB7 (by rw [List.getElem?_append_left (by rw [fP]; omega),aEG (by omega)])
   rw [fC,BitVec.getLsbD_or,ih (by omega) i hi,hg]
   simp only [BitVec.getLsbD_shiftLeft,BitVec.getLsbD_setWidth,BitVec.getLsbD_ushiftRight,hi,decide_true,Bool.true_and]
   by_cases h1:i<8*k
   ·simp [h1,show i<8*(k+1) by omega]
   ·by_cases h2:i<8*(k+1)
    ·simp [h1,h2,show i-8*k<8 by omega,show i-8*k<64 by omega,show 8*k+(i-8*k)=i by omega]
    ·simp [h1,h2,show ¬ i-8*k<8 by omega]
 apply BitVec.eq_of_getLsbD_eq
 intro i hi
 rw [key 8 (Nat.le_refl _) i hi]
 simp [hi]
theorem aP2 (h:Hd) (t:List Y):mB (bA h++t)=h:=by
 have e:bA h++t=[116#8,97#8,110#8,116#8,h.kind,h.level]++(dQ h.gen 8++(dQ h.epoch 8++(dQ h.num 8++t))):=by simp [bA]
 have d6:(bA h++t).drop 6=dQ h.gen 8++(dQ h.epoch 8++(dQ h.num 8++t)):=by rw [e]; rfl
 have d14:(bA h++t).drop 14=dQ h.epoch 8++(dQ h.num 8++t):=by
  rw [show 14=6+8 by rfl,←List.drop_drop,d6,List.drop_left' (fP _ _)]
 have d22:(bA h++t).drop 22=dQ h.num 8++t:=by
  rw [show 22=14+8 by rfl,←List.drop_drop,d14,List.drop_left' (fP _ _)]
 unfold mB
 rw [d6,d14,d22,aCl,aCl,aCl]
 rw [e]
 rfl
theorem aUh (h:Hd) (t:List Y):cQ (bA h++t)=if h.right=true then (h,0) else (Hd.zero,70):=by
 have hl:¬ (bA h++t).length<30:=by rw [List.length_append,fE]; omega
 have h4:(bA h++t).take 4=[116#8,97#8,110#8,116#8]:=by simp [bA]
 unfold cQ
 rw [if_neg hl,aP2,h4]
 simp
theorem aTt (root:Nat→Y) (h:Hd) (i:Nat) (p:List Y):mF root h i (lG root h i p)=some p∧0<(lG root h i p).length:=by
 refine ⟨aSQ _ _ _ _ _,?_⟩
 rw [lG,aCb]; omega
def jE (root:Nat→Y) (h:Hd) (rs:List (List Y)):List Y:=bA h++fI (lG root h) 0 rs
theorem aQx {root:Nat→Y} {h:Hd} (rs:List (List Y)) {k:Nat} (hr:h.right=true) (h30:30≤k) (hk:k≤(jE root h rs).length) :
  ∃ n,n≤rs.length∧30+iQ (lG root h) 0 rs n≤k∧(n<rs.length→k<30+iQ (lG root h) 0 rs (n+1)) ∧
   fV root ((jE root h rs).take k)=(⟨h,rs.take n,30+iQ (lG root h) 0 rs n,decide (30+iQ (lG root h) 0 rs n<k)⟩,0):=by
 have hlen:(jE root h rs).length=30+(fI (lG root h) 0 rs).length:=by rw [jE,List.length_append,fE]
 have e:(jE root h rs).take k=bA h++(fI (lG root h) 0 rs).take (k-30):=by
  rw [jE,List.take_append,List.take_of_length_le (by rw [fE]; exact h30),fE]
 have hl:((jE root h rs).take k).length=k:=by rw [List.length_take]; omega
 obtain ⟨n,h1,h2,h3,h4⟩:=aJc (op:=mF root h) (sl:=lG root h) (tot:=k) rs [] 30 (k-30) 0 (fun j p _=>aTt root h _ p) rfl (by omega) (by omega)
 refine ⟨n,h1,by omega,fun hn=>by have:=h3 hn; omega,?_⟩
 have ht:cQ ((jE root h rs).take k)=(h,0):=by rw [e,aUh,if_pos hr]
 have hb:wU root (cQ ((jE root h rs).take k)).1 ((jE root h rs).take k)=some (rs.take n,30+iQ (lG root h) 0 rs n):=by
  unfold wU
  rw [hl,ht,e,List.drop_left' (fE h)]
  simpa using h4
 rw [aEu (by omega) (by rw [ht]) hb,ht,hl]
theorem aQw {root:Nat→Y} {h:Hd} (rs:List (List Y)) (hr:h.right=true):fV root (jE root h rs)=(⟨h,rs,(jE root h rs).length,false⟩,0):=by
 have hlen:(jE root h rs).length=30+(fI (lG root h) 0 rs).length:=by rw [jE,List.length_append,fE]
 obtain ⟨n,h1,h2,h3,h4⟩:=aQx (root:=root) (h:=h) rs (k:=(jE root h rs).length) hr (by omega) (Nat.le_refl _)
 have hn:n=rs.length:=by
  rcases Nat.lt_or_ge n rs.length with hlt | hge
  ·have:=h3 hlt
   have:=aPQ (lG root h) 0 rs (show n+1≤rs.length by omega)
   rw [aHe] at this
   omega
  ·omega
 rw [List.take_length,hn,List.take_length,aHe,←hlen] at h4
 rw [h4]; simp
def dS (enc mac:Nat→Y) (va:Value) (h:Hd) (vr:Value) (used:Int) (torn:Bool) (vp:Value):List Value :=
 ba 32 enc++ba 32 mac++[va,V h.kind,V h.level,uv .u64 h.gen,uv .u64 h.epoch,uv .u64 h.num,vr,.int .i64 used,.bool torn,vp]
section
variable {enc mac:Nat→Y} {va vr vp v:Value} {h:Hd} {used u:Int} {torn b:Bool}
theorem mG:(dS enc mac va h vr used torn vp).length=74:=by simp [dS,bP]
theorem gN:(ba 32 enc++ba 32 mac).length=64:=aEQ enc mac
theorem aJW:((dS enc mac va h vr used torn vp).drop 0).take 64=ba 32 enc++ba 32 mac:=by rw [dS,List.drop_zero,List.take_left' gN]
theorem aJV:(dS enc mac va h vr used torn vp)[64]? = some va:=by rw [dS,List.getElem?_append_right (by rw [gN]; decide),gN]; rfl
theorem aCV:(dS enc mac va h vr used torn vp)[70]? = some vr:=by rw [dS,List.getElem?_append_right (by rw [gN]; decide),gN]; rfl
theorem aJY:(dS enc mac va h vr used torn vp)[71]? = some (.int .i64 used):=by rw [dS,List.getElem?_append_right (by rw [gN]; decide),gN]; rfl
theorem kP:(dS enc mac va h vr used torn vp)[73]? = some vp:=by rw [dS,List.getElem?_append_right (by rw [gN]; decide),gN]; rfl
theorem aJZ:(dS enc mac va h vr used torn vp).set 70 v=dS enc mac va h v used torn vp:=by rw [dS,List.set_append_right _ _ (by rw [gN]; decide),gN]; rfl
theorem aTB:(dS enc mac va h vr used torn vp).set 71 (.int .i64 u)=dS enc mac va h vr u torn vp:=by rw [dS,List.set_append_right _ _ (by rw [gN]; decide),gN]; rfl
theorem aJa:(dS enc mac va h vr used torn vp).set 72 (.bool b)=dS enc mac va h vr used b vp:=by rw [dS,List.set_append_right _ _ (by rw [gN]; decide),gN]; rfl
theorem xS:(dS enc mac va h vr used torn vp).set 73 v=dS enc mac va h vr used torn v:=by rw [dS,List.set_append_right _ _ (by rw [gN]; decide),gN]; rfl
theorem aJX:((dS enc mac va h vr used torn vp).drop 65).take 8=[V h.kind,V h.level,uv .u64 h.gen,uv .u64 h.epoch,uv .u64 h.num,vr,.int .i64 used,.bool torn]:=by
 rw [dS,List.drop_append,List.drop_of_length_le (by rw [gN]; decide),gN]; rfl
theorem aTA (h1:va.oneCell'=true) (h2:vr.oneCell'=true) (h3:vp.oneCell'=true):∀ u∈dS enc mac va h vr used torn vp,u.oneCell'=true:=by
 intro u hu
 rcases List.mem_append.1 hu with hu | hu
 ·exact aER _ _ u hu
 ·simp only [List.mem_cons,List.not_mem_nil,or_false] at hu
  rcases hu with rfl|rfl|rfl|rfl|rfl|rfl|rfl|rfl|rfl|rfl<;>first|assumption|rfl
end
theorem aS3 {zs A B Z:List Value} {v w:Value} (hz:zs=A++(Z++[w])) (hA:A.length=64) (hZ:Z.length=9) (f g:Nat→Y) (hB:B.length=8):put (put (put zs 0 (ba 32 f++ba 32 g)) 64 [v]) 65 B=ba 32 f++ba 32 g++(v :: B++[w]):=by
 subst hz
 have h64:(ba 32 f++ba 32 g).length=64:=aEQ f g
 have e1:put (A++(Z++[w])) 0 (ba 32 f++ba 32 g)=(ba 32 f++ba 32 g)++(Z++[w]):=by
  unfold put; rw [List.take_zero,List.nil_append,h64,Nat.zero_add,List.drop_left' hA]
 rw [e1]
 generalize hK:ba 32 f++ba 32 g=K at h64 ⊢
 obtain ⟨z,Z',rfl⟩ : ∃ z Z',Z=z :: Z':=by cases Z with | nil=>cases hZ | cons z Z'=>exact ⟨z,Z',rfl⟩
 have hZ':Z'.length=8:=by simpa using hZ
 have e2:put (K++(z :: Z'++[w])) 64 [v]=K++(v :: Z'++[w]):=by
  unfold put
  rw [List.take_left' h64,List.drop_append,List.drop_of_length_le (by omega),h64]
  simp
 rw [e2]
 have e3:put (K++(v :: Z'++[w])) 65 B=K++(v :: B++[w]):=by
  unfold put
  have hv:K++(v :: Z'++[w])=(K++[v])++(Z'++[w]):=by simp
  have h65:(K++[v]).length=65:=by simp [h64]
  rw [hv,List.take_left' h65,List.drop_append,List.drop_of_length_le (by omega),h65,hB,List.drop_left' (by omega)]
  simp
 exact e3
theorem aS4 {zs A B:List Value} {v w z0 z1 z2 z3 z4 z5 z6 z7 z8:Value} (hz:zs=A++[z0,z1,z2,z3,z4,z5,z6,z7,z8,w]) (hA:A.length=64) (f g:Nat→Y) (hB:B.length=8):put (put (put zs 0 (ba 32 f++ba 32 g)) 64 [v]) 65 B=ba 32 f++ba 32 g++(v :: B++[w]) :=
 aS3 (Z:=[z0,z1,z2,z3,z4,z5,z6,z7,z8]) hz hA rfl f g hB
theorem aS8 {zs A B:List Value} {v:Value} (hz:zs.length=74) (hA:A.length=64) (hB:B.length=8):uM zs.length [(0,64),(64,1),(65,8)] [A,[v],B]=true:=by
 simp [uM,hz,hA,hB]
theorem aJb {f g:Nat→Y} {z0 z1 z2 z3 z4 z5 z6 z7 z8 w:Value}:(ba 32 f++ba 32 g++[z0,z1,z2,z3,z4,z5,z6,z7,z8,w]).length=74:=by
 rw [List.length_append,aEQ]; rfl
def gI (op:Nat→List Y→Option (List Y)) (parts:List Y) (recs:List (List Y)) (kind:Y) (p:List Y):Option (List Y×List (List Y)) :=
 if gJ kind p.length (!parts.isEmpty)=true then none
 else if kind=1#8∨kind=4#8 then (op recs.length (parts++p)).map (fun x=>([],recs++[x]))
 else some (parts++p,recs)
theorem aEt {op:Nat→List Y→Option (List Y)} {tot:Nat} {r parts p:List Y} {recs:List (List Y)} {used n:Nat} (h:¬ r.length<7) (en:n=cH r) (hn:¬ (n=0∨128<n)) (ht:¬ r.length<7+n) (ep:p=(r.drop 7).take n) (hf:dG (r.getD 6 0) p=r.take 7) :
  dO op tot r parts recs used=match gI op parts recs (r.getD 6 0) p with
   | none=>none
   | some (a,b)=>dO op tot (r.drop (7+n)) a b (if a.isEmpty then tot-(r.drop (7+n)).length else used):=by
 subst en; subst ep
 have hpl:((r.drop 7).take (cH r)).length=cH r:=by rw [List.length_take,List.length_drop]; omega
 unfold gI
 rw [hpl]
 by_cases hw:gJ (r.getD 6 0) (cH r) (!parts.isEmpty)=true
 ·rw [if_pos hw,aEr h hn ht (.inr hw)]
 ·rw [if_neg hw]
  have hc:¬ (dG (r.getD 6 0) ((r.drop 7).take (cH r))≠r.take 7∨gJ (r.getD 6 0) (cH r) (!parts.isEmpty)=true):=by
   rintro (h1 | h1)
   ·exact h1 hf
   ·exact hw h1
  by_cases hk:r.getD 6 0=1#8∨r.getD 6 0=4#8
  ·rw [if_pos hk]
   cases hx:op recs.length (parts++(r.drop 7).take (cH r)) with
   | none=>rw [aS9 h hn ht hc hk hx]; rfl
   | some x=>rw [aJT h hn ht hc hk hx]; rfl
  ·rw [if_neg hk,aJR h hn ht hc hk]
   have:(parts++(r.drop 7).take (cH r)).isEmpty=false:=by
    cases hq:parts++(r.drop 7).take (cH r) with
    | nil =>
     have:=congrArg List.length hq
     rw [List.length_append,hpl,List.length_nil] at this
     omega
    | cons a l=>rfl
   simp only [this]
   rfl
theorem aHY {G:PM} {s:Sh} {parts:List Y} (hs:SlR G 1 aN s parts) (h0:parts=[]→s=⟨none,0⟩):s.oa.isNone=parts.isEmpty:=by
 cases parts with
 | nil=>rw [h0 rfl]; rfl
 | cons a l=>rw [hs.there (by simp)]; rfl
theorem aUf {op:Nat→List Y→Option (List Y)} {parts p:List Y} {recs:List (List Y)} {kind:Y} (hk:kind=1#8) (hb:parts.isEmpty=false):gI op parts recs kind p=none:=by
 subst hk; unfold gI gJ; simp [hb]
theorem aKQ {op:Nat→List Y→Option (List Y)} {parts p:List Y} {recs:List (List Y)} {kind:Y} (hk:kind=2#8) (hb:parts.isEmpty=false∨p.length<128):gI op parts recs kind p=none:=by
 subst hk; unfold gI gJ; rcases hb with hb | hb<;>simp [hb]
theorem aKS {op:Nat→List Y→Option (List Y)} {parts p:List Y} {recs:List (List Y)} {kind:Y} (hk:kind=3#8) (hb:parts.isEmpty=true∨p.length<128):gI op parts recs kind p=none:=by
 subst hk; unfold gI gJ; rcases hb with hb | hb<;>simp [hb]
theorem aVW {op:Nat→List Y→Option (List Y)} {parts p:List Y} {recs:List (List Y)} {kind:Y} (hk:kind=4#8) (hb:parts.isEmpty=true):gI op parts recs kind p=none:=by
 subst hk; unfold gI gJ; simp [hb]
theorem aUk {op:Nat→List Y→Option (List Y)} {parts p:List Y} {recs:List (List Y)} {kind:Y} (h1:¬ kind=1#8) (h2:¬ kind=2#8) (h3:¬ kind=3#8) (h4:¬ kind=4#8):gI op parts recs kind p=none:=by
 unfold gI gJ; simp [h1,h2,h3,h4]
theorem aKR {op:Nat→List Y→Option (List Y)} {parts p:List Y} {recs:List (List Y)} {kind:Y} (hk:kind=2#8∧parts.isEmpty=true∨kind=3#8∧parts.isEmpty=false) (hp:¬ p.length<128):gI op parts recs kind p=some (parts++p,recs):=by
 rcases hk with ⟨rfl,hb⟩ | ⟨rfl,hb⟩<;>(unfold gI gJ; simp [hb,hp])
theorem aCh {op:Nat→List Y→Option (List Y)} {parts p:List Y} {recs:List (List Y)} {kind:Y} (hk:kind=1#8∧parts.isEmpty=true∨kind=4#8∧parts.isEmpty=false):gI op parts recs kind p=(op recs.length (parts++p)).map (fun x=>([],recs++[x])):=by
 rcases hk with ⟨rfl,hb⟩ | ⟨rfl,hb⟩<;>(unfold gI gJ; simp [hb])
theorem jM {x:Y} {n:Nat} (hn:n<256):((x.toNat:Int)=(n:Int))↔x=BitVec.ofNat 8 n:=by
 constructor
 ·intro h
  apply BitVec.eq_of_toNat_eq
  rw [BitVec.toNat_ofNat]; omega
 ·intro h; rw [h,BitVec.toNat_ofNat,Nat.mod_eq_of_lt (by omega)]
theorem aPz {a b:Hd} (h:a.kind=b.kind∧a.level=b.level∧a.gen=b.gen∧a.epoch=b.epoch∧a.num=b.num):a=b:=by
 obtain ⟨a1,a2,a3,a4,a5⟩:=a
 obtain ⟨b1,b2,b3,b4,b5⟩:=b
 obtain ⟨h1,h2,h3,h4,h5⟩:=h
 simp only at h1 h2 h3 h4 h5
 subst h1 h2 h3 h4 h5
 rfl
instance:DecidableEq Hd:=fun a b=>decidable_of_iff (a.kind=b.kind∧a.level=b.level∧a.gen=b.gen∧a.epoch=b.epoch∧a.num=b.num) ⟨aPz,fun h=>by subst h; exact ⟨rfl,rfl,rfl,rfl,rfl⟩⟩
theorem aRE {ps:List (Sh×List Y)} {k:Nat} {p:Sh×List Y} (h:ps[k]? = some p):(ps.map (·.2))[k]? = some p.2:=by rw [List.getElem?_map,h]; rfl
def uQ (s:State):Edit:=⟨s.log,s.next,s.seq,s.least,s.gens,[],[]⟩
def qZ (m:Meta):Edit:=⟨0,0,0,0,fun _=>0,[m],[]⟩
def tE (e:Edit):Dg:=aEV (kC e)
def xI (s:State):List Dg:=tE (uQ s) :: (dD s 5).map fun m=>tE (qZ m)
def aCa (s:State):Dg:=gG (xI s)
def gE (mark:BitVec 64) (x:State) (e:Edit):List Y:=dQ mark 8++yl 32 (aCa x)++kC e
theorem aJg (mark:BitVec 64) (x:State) (e:Edit):(gE mark x e).length=40+(kC e).length:=by
 unfold gE; rw [List.length_append,List.length_append,fP,cR]
theorem aTI (mark:BitVec 64) (x:State) (e:Edit):((gE mark x e).drop 8).take 32=yl 32 (aCa x):=by
 unfold gE; rw [List.append_assoc,List.drop_left' (fP _ _),List.take_left' (cR _ _)]
theorem aTH (mark:BitVec 64) (x:State) (e:Edit):(gE mark x e).drop 40=kC e:=by
 unfold gE; rw [List.drop_left' (by rw [List.length_append,fP,cR])]
theorem Tr.cutRow {G0 G:PM} {K0:List Nat} {w0 w:World} {μ:aG} {b E sz m cap q:Nat} {xs:List Value} (h:Tr G0 K0 w0 G (.row (.slice (some ⟨b,0,none⟩) m cap) E sz m xs :: μ) w) (hq:q≤m) :
  Tr G0 K0 w0 G (.row (.slice (some ⟨b,0,none⟩) q cap) E sz q (xs.take (q*sz)) :: μ) w:=by
 have hk:keys (.row (.slice (some ⟨b,0,none⟩) q cap) E sz q (xs.take (q*sz)) :: μ)=keys (.row (.slice (some ⟨b,0,none⟩) m cap) E sz m xs :: μ):=by simp [keys,Res.keys,Value.ownBlock]
 have hrow:w.ownsRow 0 E sz (.slice (some ⟨b,0,none⟩) m cap) m xs:=h.sat.own _ (List.mem_cons_self ..)
 refine { h with sat:=⟨h.sat.sub,fun r hr=>?_,by rw [hk]; exact h.sat.apart,by rw [hk]; exact h.sat.nodup⟩,mine:=by rw [hk]; exact h.mine }
 rcases List.mem_cons.1 hr with rfl | hr
 ·have hl:=hrow.1
  have hqs:q*sz≤m*sz:=Nat.mul_le_mul_right _ hq
  rcases hrow.2 with ⟨e,_⟩ | ⟨g,cap',cur,e,h0,hg,hnc,hcm,hcs,htake⟩
  ·cases e
  simp only [Value.slice.injEq,Option.some.injEq,Addr.mk.injEq,and_true,true_and] at e
  obtain ⟨rfl,rfl⟩:=e
  refine ⟨by rw [List.length_take,hl,Nat.min_eq_left hqs],.inr ⟨b,cap,cur,rfl,h0,hg,by omega,hcm,hcs,?_⟩⟩
  rw [← htake,List.take_take,Nat.min_eq_left hqs]
 exact h.sat.own r (List.mem_cons_of_mem _ hr)
theorem aVP {α:Type} {enc:α→List Value} {sz:Nat} {X:Cx} {cd:Code} {k:List KI} {ρ:aJ} {G:PM} {μ μ':aG} {b cap E:Nat} {xs:List α} (A B:List α) (hsz:∀ x∈xs,(enc x).length=sz) (hm:MTake μ (rS sz enc (.slice (some ⟨b,0,none⟩) xs.length cap) E xs) μ') (e:xs=A++B)
  (h:Wk X cd k ρ G (rS sz enc (.slice (some ⟨b,0,none⟩) A.length cap) E A :: μ')):Wk X cd k ρ G μ :=
 ⟨fun a w ha ht=>h.out a w ha (by
  subst e
  have:=(ht.perm hm.perm).cutRow (q:=A.length) (by rw [List.length_append]; omega)
  rw [← aHx hsz,List.take_left] at this
  exact this)⟩
section
variable {dr:Bool} {mc:Md} {P:Program} {n:Fm} {l:List Oper} {K:aJ→PM→aG→Prop} {i:Nat} {σ:List Nat} {ρ:aJ} {G:PM} {μ:aG}
variable {d t:Nat} {p:String} {af:Array Edge} {g:Option (Nat×Bool)} {c:Bool}
theorem aNd (A:Nat):BitVec.ofNat 64 A &&& BitVec.ofNat 64 1=BitVec.ofNat 64 (A%2):=by
 apply BitVec.eq_of_toNat_eq
 rw [BitVec.toNat_and,BitVec.toNat_ofNat,BitVec.toNat_ofNat,BitVec.toNat_ofNat,show 1%2^64=1 from rfl,Nat.and_one_is_mod]
 omega
theorem an1 {T T':TypeId} {x y:Operand} {a1 a2:Int} (A:Nat) (ho:nth l i=some ⟨some d,.binOp .and T x y T',t,p,af,g⟩) (hg:Gd l ρ g c) (hx:Ev ρ c x (.int .i64 a1)) (hy:Ev ρ c y (.int .i64 a2)) (e1:a1=A) (e2:a2=1)
  (h:Wo dr mc P n l K σ ((d,c,.int .i64 ((A%2:Nat):Int)) :: ρ) G μ):Wo dr mc P n l K (i :: σ) ρ G μ :=
 .pure ho (.inl rfl) hg (fun hc q w ha=>by
  subst e1; subst e2
  have hb:(binOp .and T (.int .i64 (A:Int)) (.int .i64 1)).run P w=.ok (.int .i64 ((A%2:Nat):Int)) w:=by
   have e1:BitVec.ofInt 64 (A:Int)=BitVec.ofNat 64 A:=by simp
   have e2:BitVec.ofInt 64 (1:Int)=BitVec.ofNat 64 1:=rfl
   have h4:IntKind.i64.wrap ((BitVec.ofNat 64 (A%2)).toNat:Int)=((A%2:Nat):Int):=by
    rw [BitVec.toNat_ofNat,Nat.mod_eq_of_lt (by omega)]
    exact eV (by omega) (by omega)
   have h5:(Op.intBits .and .i64 (A:Int) 1)=pure (.int .i64 (IntKind.i64.wrap ((BitVec.ofInt 64 (A:Int) &&& BitVec.ofInt 64 (1:Int)).toNat:Int))):=rfl
   have h6:binOp .and T (.int .i64 (A:Int)) (.int .i64 1)=Op.intBits .and .i64 (A:Int) 1:=rfl
   rw [h6,h5,e1,e2,aNd,h4]; rfl
  simp only [execOp,hx.eval ha hc,hy.eval ha hc,Sem.run_bind,jD,Result.andThen_ok,hb]; rfl) h
end
def dU (S:List (Nat×Dg)):List Dg:=(S.map (·.2)).reverse
theorem yB (a:Nat) (r:Dg) (S:List (Nat×Dg)):dU ((a,r) :: S)=dU S++[r]:=by simp [dU]
theorem tN (S:List (Nat×Dg)):(dU S).length=S.length:=by simp [dU]
def zD:Dg:=fun _=>0#8
theorem aFA (a:Nat) (r:Dg) (S:List (Nat×Dg)):(dU ((a,r) :: S)).getD S.length zD=r:=by
 rw [yB,List.getD_eq_getElem?_getD,List.getElem?_append_right (by rw [tN]; omega),tN,Nat.sub_self]; rfl
def pF (d:Dg) (L:List Dg):Nat→Dg
 | 0=>d
 | j+1=>pF (nE (L.getD j zD) d) L j
theorem aED:∀ (j:Nat) (d x:Dg) (L:List Dg),j≤L.length→pF d (L++[x]) j=pF d L j
 | 0,_,_,_,_=>rfl
 | j+1,d,x,L,h=>by
  have e:(L++[x]).getD j zD=L.getD j zD:=by rw [List.getD_eq_getElem?_getD,List.getElem?_append_left (by omega),←List.getD_eq_getElem?_getD]
  simp only [pF,e]; exact aED j _ x L (by omega)
theorem aPX {j:Nat} {d:Dg} {L:List Dg} (h:0<j):pF d L j=pF (nE (L.getD (j-1) zD) d) L (j-1):=by
 obtain ⟨i,rfl⟩ : ∃ i,j=i+1:=⟨j-1,by omega⟩
 rfl
theorem aUR {S S3:List (Nat×Dg)} {a:Nat} {s:Dg} (h:S=(a,s) :: S3):(dU S).getD ((dU S).length-1) zD=s:=by
 subst h; rw [tN]; exact aFA a s S3
theorem aHs:∀ (S:List (Nat×Dg)) (d:Dg),pF d (dU S) S.length=finD d S
 | [],d=>rfl
 | (a,r) :: S,d=>by
  simp only [List.length_cons,pF,finD,aFA]
  rw [yB,aED _ _ _ _ (by rw [tN]; exact Nat.le_refl _),aHs S]
theorem aUQ {S:List (Nat×Dg)} {L:List Dg} (h:Stk S L) (h0:0<L.length):0<(dU S).length∧gG L=pF ((dU S).getD ((dU S).length-1) zD) (dU S) ((dU S).length-1):=by
 rw [tN]
 match S,h with
 | [],h=>cases h; cases h0
 | (a,r) :: S,h =>
  refine ⟨Nat.succ_pos _,?_⟩
  rw [h.done,←aHs S r]
  have e:((a,r) :: S).length-1=S.length:=rfl
  rw [e,aFA,yB,aED _ _ _ _ (by rw [tN]; exact Nat.le_refl _)]
theorem aSi {S:List (Nat×Dg)} {d:Dg} {a q:Nat} {l:List Dg} (h:Pend S d a l) (eq:q=l.length / 2^a) (he:q%2=0):∃ s S',S=(a,s) :: S'∧Pend S' (nE s d) (a+1) l∧q / 2=l.length / 2^(a+1):=by
 subst eq; exact h.even he
theorem aSk {S:List (Nat×Dg)} {d:Dg} {a q:Nat} {l:List Dg} (h:Pend S d a l) (eq:q=l.length / 2^a) (he:¬ q%2=0):Stk ((a,d) :: S) l:=by
 subst eq; exact h.odd (by omega)
theorem aSl {S:List (Nat×Dg)} {d:Dg} {a q:Nat} {l:List Dg} (h:Pend S d a l) (eq:q=l.length / 2^a):0<q:=by
 obtain ⟨L,seg,hS,hl,hr,he',hb⟩:=h.out
 subst eq
 exact Nat.div_pos (by rw [← he',List.length_append,hl]; omega) (Nat.pow_pos (by decide))
theorem aSj {S:List (Nat×Dg)} {d:Dg} {a:Nat} {l:List Dg} (h:Pend S d a l):S.length≤l.length:=by
 obtain ⟨L,seg,hS,hl,hr,he',hb⟩:=h.out
 have:=hS.short
 rw [← he',List.length_append]; omega
section
variable {dr:Bool} {mc:Md} {P:Program} {n:Fm} {l:List Oper} {K:aJ→PM→aG→Prop} {i:Nat} {σ:List Nat} {ρ:aJ} {G:PM} {μ:aG}
variable {d t:Nat} {p:String} {af:Array Edge} {g:Option (Nat×Bool)} {c:Bool}
theorem kaf {f:FuncId} {fv:Operand} {xs:List Operand} {tys:Array TypeId} {vs vc:List Value} {μ₁ μ₂:aG} {post:PM→aG→Value→Prop} {dd:Option Nat} (ho:nth l i=some ⟨dd,.call { callee:=.value fv,args:=xs.toArray,argTypes:=tys },t,p,af,none⟩) (hm:mc.c=true∨dr=false) (hfv:Ev ρ true fv (.func (.func f) #[] vc.toArray)) (hf:aL P f=true)
  (hv:∀ a,Ag n ρ a→true=true→xs.map a.eval=vs) (hp:μ.Perm (μ₁++μ₂)) (hk:Ct P f (vs++vc).toArray G μ₁ post) (h:∀ v G' μ',PM.le G G'→post G' μ' v→Wo dr mc P n l K σ (cS ρ dd true v) G' (μ'++μ₂)):Wo dr mc P n l K (i :: σ) ρ G μ :=
 .act ho (by rcases hm with h|rfl<;>simp_all [bI]) .no hp (fun a w ha _=>.inr ⟨f,_,by
  have h1:=hv a ha rfl
  simp [execOp,resolve,Deferred.ofValue,hfv.eval ha rfl,invoke,xY hf]
  rw [← h1],hk⟩) h
end
theorem SlR.one1 {α:Type} {enc:α→List Value} {sz:Nat} {G:PM} {b:Nat} {x:α} {T:TypeId}:SlR (G.add b (cl (enc x) T)) sz enc ⟨some ⟨b,0,none⟩,1⟩ [x]:=by
 refine ⟨fun _=>rfl,Nat.le_refl _,fun i y hy j v hj=>?_⟩
 cases i with
 | succ i=>simp at hy
 | zero =>
  simp only [List.getElem?_cons_zero,Option.some.injEq] at hy
  subst hy
  rw [Nat.zero_mul,Nat.add_zero]
  exact RdP.blk (bU _ _ _) (by show (enc x)[0+j]? = _; rw [Nat.zero_add]; exact hj)
structure StN (s:State):Prop where
 log:u64 s.log
 next:u64 s.next
 seq:u64 s.seq
 least:u64 s.least
 gens:∀ i,i<5→u64 (s.gens i)
theorem aP1 {s:State} (h:StN s):(uQ s).wf:=⟨h.log,h.next,h.seq,h.least,h.gens,(fun m hm=>absurd hm List.not_mem_nil),(fun g hg=>absurd hg List.not_mem_nil)⟩
theorem aSJ {m:Meta} (h:m.wf):(qZ m).wf:=by
 have z:u64 0:=⟨by decide,by decide⟩
 refine ⟨z,z,z,z,fun _ _=>z,fun x hx=>?_,(fun g hg=>absurd hg List.not_mem_nil)⟩
 rw [show x=m from List.mem_singleton.1 hx]; exact h
theorem aSI {m:Meta} (h:m.wf):((qZ m).add.flatMap eF).length≤m.min.size+m.max.size+112:=by
 show ([m].flatMap eF).length≤_
 rw [List.flatMap_cons,List.flatMap_nil,List.append_nil]; exact aPM h
theorem aP0 {s:State}:((uQ s).add.flatMap eF).length≤10:=by show ([]:List Y).length≤_; decide
def kG (s:State) (k j:Nat):List Dg:=tE (uQ s) :: ((dD s k++(s.lv k).take j).map fun m=>tE (qZ m))
theorem aQh (s:State):kG s 0 0=[]++[tE (uQ s)]:=by simp [kG,dD]
theorem aQl {s:State} {k j:Nat} {m:Meta} (h:(s.lv k)[j]? = some m):kG s k j++[tE (qZ m)]=kG s k (j+1):=by
 unfold kG; rw [List.take_add_one,h]; simp
theorem aQk {s:State} {k j:Nat} (h:(s.lv k).length≤j):kG s k j=kG s (k+1) 0:=by
 unfold kG; rw [List.take_of_length_le h]; simp [dD]
theorem aQi (s:State):kG s 5 0=xI s:=by unfold kG xI; simp
theorem aQj (s:State) (k j:Nat):((kG s k j).length:Int)≤1+tot s k+(s.lv k).length:=by
 have h1:=aDk s k
 unfold kG
 simp only [List.length_cons,List.length_map,List.length_append,List.length_take]
 omega
theorem aUt {s:State} {k:Nat} (h:k<5):tot s k+(s.lv k).length≤tot s 5:=aCj s (show k+1≤5 by omega)
theorem aQ2 (s:State) (hd:Nat→Sh) {k:Nat} {j:Int} (h:k<5) (e:j.toNat=k):((List.range 5).map fun i=>(hd i).val (s.lv i).length)[j.toNat]? = some ((hd k).val (s.lv k).length):=by
 rw [e]
 match k,h with
 | 0,_=>rfl | 1,_=>rfl | 2,_=>rfl | 3,_=>rfl | 4,_=>rfl
theorem aQg (s:State):((xI s).length:Int)=1+tot s 5:=by
 have h1:=aDk s 5
 unfold xI
 simp only [List.length_cons,List.length_map]
 omega
structure StL (s:State):Prop where
 few:tot s 5≤100000
 short:∀ i,i<5→∀ m∈s.lv i,m.min.size+m.max.size≤900000000000
structure Fl where
 h:Hd
 n:BitVec 64
 safe:Bool
def Fl.cells (f:Fl):List Value:=f.h.cells++[uv .u64 f.n,.bool f.safe]
def Fl.zero:Fl:=⟨Hd.zero,0,false⟩
def pt (b:Nat):Value:=.pointer (some ⟨b,0,none⟩)
structure Db where
 dk:Nat
 tr:Nat
 root:Nat→Y
 o:Opts
 ep:BitVec 64
 s:State
 hd:Nat→Sh
 next:BitVec 64
 seq:BitVec 64
 turn:BitVec 64
 held:Nat
 lg:Fl
 ol:Fl
 mn:Fl
 now:Nat
def Db.cells (b:Db):List Value :=
 [pt b.dk,pt b.tr]++ba 32 b.root++b.o.cells++[uv .u64 b.ep]++b.s.cells b.hd++[uv .u64 b.next,uv .u64 b.seq,uv .u64 b.turn,.map (some b.held)]++b.lg.cells++b.ol.cells++b.mn.cells++[pt b.now,.pointer none,.int .i64 0,.bool false]
theorem aFT (b:Db) (v:BitVec 64):b.cells.set 56 (uv .u64 v)=Db.cells { b with next:=v }:=rfl
theorem aFV (b:Db) (v:BitVec 64):b.cells.set 57 (uv .u64 v)=Db.cells { b with seq:=v }:=rfl
theorem aAz (b:Db) (f:Fl):put b.cells 60 f.cells=Db.cells { b with lg:=f }:=rfl
theorem aA0 (b:Db) (f:Fl):put b.cells 74 f.cells=Db.cells { b with mn:=f }:=rfl
theorem aFU (b:Db) (s:State) (hd:Nat→Sh):put b.cells 42 (s.cells hd)=Db.cells { b with s:=s,hd:=hd }:=rfl
theorem aLE (b:Db) (n:BitVec 64):b.cells.set 65 (uv .u64 n)=Db.cells { b with lg:={ b.lg with n:=n } }:=rfl
theorem aLF (b:Db) (s:Bool):b.cells.set 66 (.bool s)=Db.cells { b with lg:={ b.lg with safe:=s } }:=rfl
theorem aLG (b:Db) (n:BitVec 64):b.cells.set 79 (uv .u64 n)=Db.cells { b with mn:={ b.mn with n:=n } }:=rfl
theorem Fl.one (f:Fl):∀ u∈f.cells,u.oneCell'=true:=by
 intro u hu
 simp only [Fl.cells,Hd.cells,List.cons_append,List.nil_append,List.mem_cons,List.not_mem_nil,or_false] at hu
 rcases hu with rfl|rfl|rfl|rfl|rfl|rfl|rfl<;>rfl
def cU (a b:Int):Edit:=⟨a,b,0,0,fun _=>0,[],[]⟩
def cM (a b:Int):State:=⟨fun _=>[],a,b,0,0,fun _=>0⟩
theorem aBv {a b:Int} (ha:u64 a) (hb:u64 b):(cU a b).wf:=by
 have z:u64 0:=⟨by decide,by decide⟩
 exact ⟨ha,hb,z,z,fun _ _=>z,(fun m hm=>absurd hm List.not_mem_nil),(fun g hg=>absurd hg List.not_mem_nil)⟩
theorem aCf {G:PM} {a b:Int}:StR G (cM a b) dE:=⟨fun _ _=>SlR.nul,fun _ _=>Nat.zero_le _,fun _ _ m hm=>nomatch hm⟩
theorem aNy {a b:Int} (ha:0≤a) (hb:0≤b):wT State.zero (cU a b)=false:=by
 rw [aG0 (fun i hi=>by show ¬ (0:Int)<0; decide)]
 show (((decide (a<0)||decide (b<0))||decide ((0:Int)<0))||decide ((0:Int)<0))=false
 rw [decide_eq_false (by omega:¬ a<0),decide_eq_false (by omega:¬ b<0)]; rfl
theorem aTQ {a b:Int} (ha:0≤a) (hb:a≤b):vF (cM a b)=true:=by
 refine aEw ⟨by show (0:Int)≤_; decide,by show (0:Int)≤_; decide,by show a≤b; omega,by show tot _ 5≤_; simp [tot,cM],fun i hi=>?_,fun x y hx _=>?_⟩
 ·exact ⟨fun m hm=>absurd hm List.not_mem_nil,fun j hj=>absurd hj (by show ¬ j+1<0; omega)⟩
 exact absurd hx (by show ¬ x<0; omega)
theorem aUJ {a b:Int} {k:Nat} (h:k<5):((cM a b).cells dE).set (0+k*1) (.slice none 0 0)=(cM a b).cells dE:=by
 match k,h with
 | 0,_=>rfl | 1,_=>rfl | 2,_=>rfl | 3,_=>rfl | 4,_=>rfl
theorem aUI {a b:Int} {k:Nat} (h:k<5):((cM a b).cells dE)[0+k*1]? = some (.slice none 0 0):=by
 match k,h with
 | 0,_=>rfl | 1,_=>rfl | 2,_=>rfl | 3,_=>rfl | 4,_=>rfl
theorem aCL {j:Int} (h:j.toNat<5):((List.range 5).map (fun _=>Value.slice none 0 0))[j.toNat]? = some (.slice none 0 0):=by simp [h]
theorem aJ9 {a b:Int} (ha:u64 a) (hb:u64 b):StN (cM a b):=⟨ha,hb,⟨by show (0:Int)≤0; decide,by show (0:Int)<_; decide⟩,⟨by show (0:Int)≤0; decide,by show (0:Int)<_; decide⟩,fun _ _=>⟨by show (0:Int)≤0; decide,by show (0:Int)<_; decide⟩⟩
theorem aJ8 {a b:Int}:StL (cM a b):=⟨by show tot _ 5≤_; simp [tot,cM],fun _ _ m hm=>absurd hm List.not_mem_nil⟩
theorem aIS {root:Nat→Y} {h:Hd} {n:BitVec 64} {p L:List Y} {e:Int} (hp:p.length≤400) (hl:(L,e)=mC root h n p):e=0∧L.length≤600:=by
 unfold mC at hl
 rw [if_pos (by omega)] at hl
 obtain ⟨h1,h2⟩:=Prod.mk.inj hl
 have hS:(mH (fT root (bA h)) (fU root (bA h)) (kK n) (bA h) p).length=p.length+16:=by rw [aCb]
 generalize mH (fT root (bA h)) (fU root (bA h)) (kK n) (bA h) p=S at h1 hS
 have e1:jG S=nN S ((S.length+127) / 128):=rfl
 have:=aJB S ((S.length+127) / 128)
 refine ⟨h2,?_⟩
 rw [h1,e1]
 omega
section
variable {dr:Bool} {mc:Md} {P:Program} {n:Fm} {l:List Oper} {K:aJ→PM→aG→Prop} {i:Nat} {σ:List Nat} {ρ:aJ} {G:PM} {μ:aG}
variable {t:Nat} {p:String} {af:Array Edge}
theorem pR {T T':TypeId} {x y:Operand} {b o:Nat} {v:Value} {cs vs cs':List Value} {μ':aG} (ho:nth l i=some ⟨none,.store T x y,t,p,af,none⟩) (hx:Ev ρ true x (.pointer (some ⟨b,o,none⟩))) (hy:Ev ρ true y v) (hv:v.cells=vs.toArray) (hz:cE P T=some vs.length)
  (hm:MTake μ (.blk b (cl cs T')) μ') (hl:o+vs.length≤cs.length) (h1:∀ u∈vs,u.oneCell'=true) (hp:put cs o vs=cs') (h:Wo dr mc P n l K σ ρ G (.blk b (cl cs' T') :: μ')):Wo dr mc P n l K (i :: σ) ρ G μ:=by
 subst hp; exact st ho hx hy hv hz hm hl h1 h
end
section
variable {mc:Md} {P:Program} {n:Fm} {l:List Oper} {K:aJ→PM→aG→Prop} {i:Nat} {σ:List Nat} {ρ:aJ} {G:PM} {μ:aG}
variable {d t:Nat} {p:String} {af:Array Edge}
theorem kpc {f:FuncId} {xs:List Operand} {tys:Array TypeId} {vs:List Value} {post:PM→aG→Value→Prop} {die:List PanicEntry→Prop} {dd:Option Nat} (ho:nth l i=some ⟨dd,.call { callee:=.value (.func f),args:=xs.toArray,argTypes:=tys },t,p,af,none⟩) (hf:aL P f=true)
  (hv:∀ a,Ag n ρ a→true=true→xs.map a.eval=vs) (hk:Cp P f vs.toArray G [] post die) (hx:∀ ch G' ρ' μ',PM.le G G'→die ch→(∀ i,cF ρ' i=cF ρ i)→μ'.Perm μ→n.die ch ρ' G' μ')
  (h:∀ v G' μ',PM.le G G'→post G' μ' v→Wo false mc P n l K σ (cS ρ dd true v) G' (μ'++μ)):Wo false mc P n l K (i :: σ) ρ G μ :=
 .callp (μ₁:=[]) rfl ho .no (.refl _) (fun a w ha=>vH hf (hv a ha rfl) _ _ _ _ _ w) hk hx h
theorem kpo {f:FuncId} {xs:List Operand} {tys:Array TypeId} {vs:List Value} {μ₁ μ₂:aG} {post:PM→aG→Value→Prop} {die:List PanicEntry→Prop} {dd:Option Nat} (ho:nth l i=some ⟨dd,.call { callee:=.value (.func f),args:=xs.toArray,argTypes:=tys },t,p,af,none⟩) (hf:aL P f=true)
  (hv:∀ a,Ag n ρ a→true=true→xs.map a.eval=vs) (hp:μ.Perm (μ₁++μ₂)) (hk:Cp P f vs.toArray G μ₁ post die) (hx:∀ ch G' ρ' μ',PM.le G G'→die ch→(∀ i,cF ρ' i=cF ρ i)→μ'.Perm μ₂→n.die ch ρ' G' μ')
  (h:∀ v G' μ',PM.le G G'→post G' μ' v→Wo false mc P n l K σ (cS ρ dd true v) G' (μ'++μ₂)):Wo false mc P n l K (i :: σ) ρ G μ :=
 .callp rfl ho .no hp (fun a w ha=>vH hf (hv a ha rfl) _ _ _ _ _ w) hk hx h
theorem pnc {x:Operand} {T:TypeId} {v:Value} {dd:Option Nat} (ho:nth l i=some ⟨dd,.panic x,t,p,af,none⟩) (hx:ev ρ x=some (true,.iface T v)) (hd:∀ ρ' μ',(∀ i,cF ρ' i=cF ρ i)→μ'.Perm μ→n.die [{ v:=.iface T v,recovered:=false }] ρ' G μ'):Wo false mc P n l K (i :: σ) ρ G μ :=
 .pan rfl ho .no (fun a w ha=>by simp [execOp,ha.eval hx rfl,Instr.panic,goPanic]) hd
end
theorem aU1 {P:Program} {o:Oper} {a:Act} {next next':Act→World→Prop} {Q Q':Exit→Act→World→Prop} (h1:∀ a w,next a w→next' a w) (h2:∀ ch a w,Q (.panic ch) a w→Q' (.panic ch) a w) (h3:LetsOut Q→LetsOut Q') :
  ∀ r,o.upon P a next Q r→o.upon P a next' Q' r:=by
 intro r h
 unfold Oper.upon at h ⊢
 split at h
 ·exact h1 _ _ h
 ·exact h1 _ _ h
 ·exact h1 _ _ h
 ·refine h.mono fun e w' he=>?_
  cases e with
  | returned v=>exact h1 _ _ he
  | panicked ch=>exact h2 _ _ _ he
  | outgrown=>exact h3 he
 ·exact h.mono fun v w' he=>h1 _ _ he
 ·exact h2 _ _ _ h
 exact h.elim
theorem aCq {P:Program} {ops:Array Oper} {Q:Exit→Act→World→Prop} {σ2:List Nat}:∀ {σ1:List Nat} {a:Act} {w:World},wpOps P ops (Exit.then (wpOps P ops Q σ2) Q) σ1 a w→wpOps P ops Q (σ1++σ2) a w
 | [],a,w,h=>h
 | i :: σ1,a,w,h=>by
  simp only [wpOps,List.cons_append] at h ⊢
  cases ho:ops[i]? with
  | none=>simp only [ho] at h; exact aCq h
  | some o =>
   simp only [ho] at h
   dsimp only
   split at h
   ·rename_i hw
    rw [if_pos hw]
    rcases h with h | ⟨h,hl⟩
    ·exact .inl (aU1 (fun a w h=>aCq h) (fun ch a w h=>h) (fun h=>h) _ h)
    ·exact .inr ⟨h,hl⟩
   ·rename_i hw
    rw [if_neg hw]; exact aCq h
theorem aBf {X Y:Cx} (h1:X.P=Y.P) (h2:X.fn=Y.fn) (h3:X.R=Y.R):∀ k,fO X k=fO Y k
 | []=>by simp only [fO,h1,h2,h3]
 | .code c :: k=>by simp only [fO,aBf h1 h2 h3 k,h1]
 | .blk id :: k=>by simp only [fO,aBf h1 h2 h3 k]
 | .lp I :: k=>by simp only [fO,aBf h1 h2 h3 k]
structure DefOp (P:Program) (n:Fm) (l:List Oper) (j:Nat) (d:Deferred) (ρ:aJ):Prop where
 of:∃ o,nth l j=some o∧o.guard=none∧o.dst=none∧∀ a w,Ag n ρ a→(execOp a.eval o).run P w=.ok (.defer d) w
theorem We.finD {X:Cx} {ρ:aJ} {G:PM} {μ:aG} (h:∀ a w,Ag X.n ρ a→Tr X.G0 X.K0 X.w0 G μ w→Leaves X.P X.fn a.tmps X.R X.n.ds .returning w):We X .ret [] ρ G μ :=
 ⟨fun a w ha ht=>by
  show Leaves X.P X.fn a.tmps X.R a.defers .returning w
  rw [ha.defers]; exact h a w ha ht⟩
def ifT (P:Program) (T:TypeId):Bool:=match P.underlying T with | some (.interface _)=>true | _=>false
theorem aIH {P:Program} {T:TypeId} (h:ifT P T=true):∃ q,P.underlying T=some (.interface q):=by
 unfold ifT at h
 split at h
 ·rename_i q hq; exact ⟨q,hq⟩
 ·cases h
theorem Rs.congr {P:Program} {ρ ρ':aJ} {G:PM} {μ:aG} {rs:List ResultVar} {vs:List Value} (h:Rs P ρ G μ rs vs) (e:∀ i,cF ρ' i=cF ρ i):Rs P ρ' G μ rs vs:=by
 induction h with
 | nil=>exact .nil
 | tmp h _ ih=>exact .tmp ((e _).trans h) ih
 | cell h hw _ ih=>exact .cell ((e _).trans h) hw ih
structure DQ where
 f:FuncId
 args:List Value
 vc:List Value
def DQ.d (q:DQ):Deferred:={ target:=.fn (.func q.f) q.vc.toArray,args:=q.args.toArray }
def aGc (P:Program) (G:PM) (μ:aG) (q:DQ):Prop :=
 aL P q.f=true∧∀ w,Sat G μ w→CallsD P q.f (q.args++q.vc).toArray .returning w (fun e u' w'=>(∃ v,e=.returned v)∧u'=.returning∧w'=w)
theorem aIT {P:Program} {fn:Func} {tmps:Array Value} {R:Ending→World→Prop} {G:PM} {μ:aG} {w:World} (hs:Sat G μ w) (hr:Leaves P fn tmps R [] .returning w) :
  ∀ {ds:List DQ},(∀ q∈ds,aGc P G μ q)→Leaves P fn tmps R (ds.map DQ.d) .returning w
 | [],_=>hr
 | q :: ds,h=>by
  have hq:=h q (List.mem_cons_self ..)
  refine leaves_cons (by simp) (f:=q.f) (args:=(q.args++q.vc).toArray) (by simp [invoke,xY hq.1]) ((hq.2 w hs).mono ?_)
  rintro e u' w' ⟨⟨v,rfl⟩,rfl,rfl⟩
  exact aIT hs hr fun q' hq'=>h q' (List.mem_cons_of_mem _ hq')
def Cx.dfs (X:Cx) (d:Deferred) (die1:List PanicEntry→aJ→PM→aG→Prop)
  (ok1:∀ ch ρ G μ a w,die1 ch ρ G μ→Ag ⟨X.n.n,d :: X.n.ds,die1⟩ ρ a→Tr X.G0 X.K0 X.w0 G μ w→Leaves X.P X.fn a.tmps (RR X.post X.die X.G0 X.K0 X.w0) a.defers (.panicking ch) w):Cx :=
 ⟨X.P,X.fn,⟨X.n.n,d :: X.n.ds,die1⟩,X.G0,X.K0,X.w0,X.post,X.die,ok1⟩
theorem Wk.defers {X:Cx} {k:List KI} {ρ:aJ} {G:PM} {μ:aG} {id:Nat} {l:List Oper} (σ1:List Nat) (j:Nat) (d:Deferred) (die1:List PanicEntry→aJ→PM→aG→Prop)
  (ok1:∀ ch ρ G μ a w,die1 ch ρ G μ→Ag ⟨X.n.n,d :: X.n.ds,die1⟩ ρ a→Tr X.G0 X.K0 X.w0 G μ w→Leaves X.P X.fn a.tmps (RR X.post X.die X.G0 X.K0 X.w0) a.defers (.panicking ch) w)
  (hσ:List.range l.length=σ1++[j]) (hds:iG X.n l=true)
  (h:Wo false ⟨false,false⟩ X.P X.n l (fun ρ G μ=>DefOp X.P X.n l j d ρ∧We (X.dfs d die1 ok1) .normal k ρ G μ) σ1 ρ G μ):Wk X (.region id l.toArray false) k ρ G μ:=by
 refine ⟨fun a w ha ht=>wp_region ?_⟩
 have hr:List.range l.toArray.size=σ1++[j]:=by simpa using hσ
 rw [hr]
 refine aCq ?_
 refine Wo.run (Q:=Exit.then (wpOps X.P l.toArray (fO X k) [j]) (fO X k)) (aD4 hds) (fun _=>uK X k) (fun ρ G μ hK a w ha ht=>?_) _ _ _ _ a w h ha ht
 obtain ⟨⟨o,ho,hg,hdst,hrun⟩,hwe⟩:=hK
 show wpOps X.P l.toArray (fO X k) [j] a w
 simp only [wpOps,iT,ho]
 rw [if_pos (by simp [Region.wanted,hg])]
 refine .inl ?_
 unfold Oper.wp
 rw [hrun a w ha]
 simp only [Oper.upon,wpOps,hdst,Act.put]
 have:=hwe.out { a with defers:=d :: a.defers } w ⟨ha.size,by show d :: a.defers=d :: X.n.ds; rw [ha.defers],ha.get⟩ ht
 rwa [aBf (X:=X.dfs d die1 ok1) (Y:=X) rfl rfl rfl k] at this
theorem aFW {P:Program} {n:Fm} {l:List Oper} {j:Nat} {ρ:aJ} {f:FuncId} {x:Operand} {vc:List Value} {tys:Array TypeId} {t:Nat} {p:String} {af:Array Edge}
  (ho:nth l j=some ⟨none,.defer { callee:=.value x,args:=#[],argTypes:=tys },t,p,af,none⟩) (hx:ev ρ x=some (true,.func (.func f) #[] vc.toArray)):DefOp P n l j (DQ.d ⟨f,[],vc⟩) ρ :=
 ⟨⟨_,ho,rfl,rfl,fun a w ha=>by
  have hfn:a.eval x=.func (.func f) #[] vc.toArray:=ha.eval hx rfl
  simp [execOp,resolve,Deferred.ofValue,hfn,DQ.d]⟩⟩
theorem aDi {X:Cx} {ρ:aJ} {G:PM} {μ μ':aG} {vs:List Value} {rs:List ResultVar} (ds:List DQ) (hds:X.n.ds=ds.map DQ.d)
  (hq:∀ q∈ds,aGc X.P G μ q) (hr:X.fn.results=rs.toArray) (h:Rs X.P ρ G μ rs vs) (hM:MSub μ' μ) (hp:X.post G μ' (iB vs)):We X .ret [] ρ G μ :=
 We.finD fun a w ha ht=>by
  rw [hds]
  exact aIT ht.sat ⟨_,aEv (by rw [hr]; exact h) ha ht.sat,.inl ⟨_,G,μ',rfl,hM.tr ht,hp⟩⟩ hq
def zro {α:Type}:α→Nat:=fun _=>0
theorem fL {α:Type} (y:α):zro y<1:=Nat.zero_lt_one
theorem Wk.jn {X:Cx} {k:List KI} {ρ:aJ} {G:PM} {μ:aG} {c:Code} {α:Type} (E:α→aJ) (M:α→aG) (F:α→PM→Prop) (ρc:aJ) (μc:aG) (hE:ESub ρc ρ) (hM:MSub μc μ)
  (h:Wk X c (.lp (fun a w=>∃ y,zro y<1∧Inv X G (fun x=>E x++ρc) (fun x=>M x++μc) F y a w) :: k) ρ G μ)
  (h2:∀ y G',PM.le G G'→F y G'→We X .normal k (E y++ρc) G' (M y++μc)):Wk X c k ρ G μ :=
 ⟨fun a w ha ht=>wp_mono (h.out a w ha ht) fun e a w hq=>by
  cases e with
  | normal =>
   obtain ⟨y,_,G',hle,hf,ha,ht⟩:=hq
   exact (h2 y G' hle hf).out a w ha ht
  | _=>exact hq⟩
section
variable {dr:Bool} {mc:Md} {P:Program} {n:Fm} {l:List Oper} {K:aJ→PM→aG→Prop} {i:Nat} {σ:List Nat} {ρ:aJ} {G:PM} {μ:aG}
variable {d t:Nat} {p:String} {af:Array Edge}
theorem apZ {T E sz by':Nat} {x y:Operand} (ho:nth l i=some ⟨some d,.call { callee:=.builtin .append,args:=#[x,y],argTypes:=#[T,T] },t,p,af,none⟩)
  (hT:bJ P T=some (E,sz,by')) (hx:Ev ρ true x (.slice none 0 0)) (hy:Ev ρ true y (.slice none 0 0))
  (h:Wo dr mc P n l K σ ((d,true,.slice none 0 0) :: ρ) G μ) (hmc:mc.a=false∨dr=false:=by first|exact .inl rfl|exact .inr rfl):Wo dr mc P n l K (i :: σ) ρ G μ:=by
 obtain ⟨hu,inf,hi,rfl,rfl⟩:=fG hT
 refine .act (μ₁:=[]) (μ₂:=μ) (post:=fun G' μ' v'=>G'=G∧v'=.slice none 0 0∧μ'=[]) ho (by rcases hmc with h | h<;>simp [bI,h]) .no (.refl _) (fun a w ha hs0=>.inl ?_) ?_
 ·exact ⟨.slice none 0 0,w,G,[],.inl (by simp [execOp,resolve,invoke,builtin,hx.eval ha rfl,hy.eval ha rfl,Builtin.append_,run_underlying hu,sizeOf,typeInfo,hi,Builtin.lenOf,Builtin.firstCells,loadCells,loadCellsFrom]),eQ (Sat.left (μ:=[]) hs0),rfl,rfl,rfl⟩
 rintro v' G' μ'' _ ⟨rfl,rfl,rfl⟩
 exact h
end
theorem DefOp.fn {P:Program} {n:Fm} {l:List Oper} {j:Nat} {ρ:aJ} {f:FuncId} {xs:List Operand} {vs:List Value} {tys:Array TypeId} {t:Nat} {p:String} {af:Array Edge}
  (ho:nth l j=some ⟨none,.defer { callee:=.value (.func f),args:=xs.toArray,argTypes:=tys },t,p,af,none⟩) (hv:∀ a,Ag n ρ a→true=true→xs.map a.eval=vs):DefOp P n l j (DQ.d ⟨f,vs,[]⟩) ρ :=
 ⟨⟨_,ho,rfl,rfl,fun a w ha=>by
  have h1:=hv a ha rfl
  have hfn:a.eval (.func f)=.func (.func f) #[] #[]:=rfl
  simp [execOp,resolve,Deferred.ofValue,hfn,DQ.d]
  rw [← h1]⟩⟩
theorem le_add {G:PM} {b:Nat} {o:Obj} (h:G b=none):PM.le G (G.add b o):=fun c u hc=>by
 unfold PM.add
 by_cases e:c=b
 ·subst e; rw [h] at hc; cases hc
 ·rw [if_neg e]; exact hc
theorem wQ {G:PM} {b c:Nat} {o:Obj} (h:c≠b):G.add b o c=G c:=by unfold PM.add; rw [if_neg h]
theorem jF {μ μ1 μ2 μ3 μ4:aG} {r1 r2 r3 r4:Res} (h1:MTake μ r1 μ1) (h2:MTake μ1 r2 μ2) (h3:MTake μ2 r3 μ3) (h4:MTake μ3 r4 μ4):μ.Perm ([r1,r2,r3,r4]++μ4):=h1.perm.trans ((fF h2 h3 h4).cons _)
theorem aEb {μ μ1 μ2 μ3 μ4 μ5:aG} {r1 r2 r3 r4 r5:Res} (h1:MTake μ r1 μ1) (h2:MTake μ1 r2 μ2) (h3:MTake μ2 r3 μ3) (h4:MTake μ3 r4 μ4) (h5:MTake μ4 r5 μ5):μ.Perm ([r1,r2,r3,r4,r5]++μ5):=h1.perm.trans ((jF h2 h3 h4 h5).cons _)
theorem aIq {μ μ1 μ2 μ3 μ4 μ5 μ6:aG} {r1 r2 r3 r4 r5 r6:Res} (h1:MTake μ r1 μ1) (h2:MTake μ1 r2 μ2) (h3:MTake μ2 r3 μ3) (h4:MTake μ3 r4 μ4) (h5:MTake μ4 r5 μ5) (h6:MTake μ5 r6 μ6):μ.Perm ([r1,r2,r3,r4,r5,r6]++μ6):=h1.perm.trans ((aEb h2 h3 h4 h5 h6).cons _)
theorem cX {P:Program} {f:FuncId} {args:Array Value} {G:PM} {μ:aG} {b:Nat} {o:Obj} {Q:aG→Value→Prop} (h:∀ G2,PM.le G G2→PB G2 b o→Ct P f args G2 μ (fun _ μ' u=>Q μ' u)) :
  Ct P f args G (.blk b o :: μ) (fun _ μ' u=>∃ ν,μ'=.blk b o :: ν∧Q ν u):=fun w hs =>
 rT (h _ (le_add (hs.apart b (by simp [keys,Res.keys]))) ⟨bU _ _ _⟩) w hs
theorem aEX {P:Program} {f:FuncId} {args:Array Value} {G:PM} {μ:aG} {b1 b2 b3:Nat} {o1 o2 o3:Obj} {Q:aG→Value→Prop}
  (h:∀ G2,PM.le G G2→PB G2 b1 o1→PB G2 b2 o2→PB G2 b3 o3→Ct P f args G2 μ (fun _ μ' u=>Q μ' u)) :
  Ct P f args G (.blk b1 o1 :: .blk b2 o2 :: .blk b3 o3 :: μ) (fun _ μ' u=>∃ ν,μ'=.blk b1 o1 :: .blk b2 o2 :: .blk b3 o3 :: ν∧Q ν u):=fun w hs=>by
 have hnd:=hs.nodup
 have hk:keys (.blk b1 o1 :: .blk b2 o2 :: .blk b3 o3 :: μ)=b1 :: b2 :: b3 :: keys μ:=by simp [keys,Res.keys]
 rw [hk] at hnd
 have h12:b1≠b2:=fun e=>(List.nodup_cons.1 hnd).1 (by rw [e]; exact List.mem_cons_self ..)
 have h13:b1≠b3:=fun e=>(List.nodup_cons.1 hnd).1 (by rw [e]; exact List.mem_cons_of_mem _ (List.mem_cons_self ..))
 have h23:b2≠b3:=fun e=>(List.nodup_cons.1 (List.nodup_cons.1 hnd).2).1 (by rw [e]; exact List.mem_cons_self ..)
 have g1:G b1=none:=hs.apart b1 (by rw [hk]; exact List.mem_cons_self ..)
 have g2:G b2=none:=hs.apart b2 (by rw [hk]; exact List.mem_cons_of_mem _ (List.mem_cons_self ..))
 have g3:G b3=none:=hs.apart b3 (by rw [hk]; exact List.mem_cons_of_mem _ (List.mem_cons_of_mem _ (List.mem_cons_self ..)))
 have hl:PM.le G (((G.add b1 o1).add b2 o2).add b3 o3):=((le_add g1).trans (le_add (by rw [wQ h12.symm]; exact g2))).trans (le_add (by rw [wQ h23.symm,wQ h13.symm]; exact g3))
 have h0:=h (((G.add b1 o1).add b2 o2).add b3 o3) hl ⟨by rw [wQ h13,wQ h12]; exact bU _ _ _⟩ ⟨by rw [wQ h23]; exact bU _ _ _⟩ ⟨bU _ _ _⟩
 exact (rT (Q:=fun μ' u=>∃ ν,μ'=.blk b2 o2 :: .blk b3 o3 :: ν∧Q ν u) ((rT (Q:=fun μ' u=>∃ ν,μ'=.blk b3 o3 :: ν∧Q ν u) (rT h0)).mono fun G' μ' u ⟨ν,e,ν2,e2,q⟩=>⟨ν2,by rw [e,e2],q⟩)).mono (fun G' μ' u ⟨ν,e,ν2,e2,q⟩=>⟨ν2,by rw [e,e2],q⟩) w hs
theorem aAy {P:Program} {G:PM} {μ:aG} {f:FuncId} {args:Array Value} {E:Nat} {v:Value} {xs:List Y} {post:PM→aG→Value→Prop}
  (h:∀ (s:Sh) (G2:PM),PM.le G G2→v=s.val xs.length→SlR G2 1 aN s xs→Ct P f args G2 μ post):Ct P f args G (rB v E xs :: μ) post:=by
 intro w hs
 have hrow:w.ownsRow 0 E 1 v xs.length (xs.map V):=hs.own _ (List.mem_cons_self ..)
 rcases hrow.2 with ⟨rfl,h0⟩ | ⟨g,cap,cur,rfl,_,hg,hnc,hcm,hcs,htake⟩
 ·have hx:xs=[]:=List.eq_nil_of_length_eq_zero h0
  subst hx
  have hk:keys (rB (.slice none 0 0) E [] :: μ)=keys μ:=by simp [keys,Res.keys,Value.ownBlock]
  have hs2:Sat G μ w:=⟨hs.sub,fun r hr=>hs.own r (List.mem_cons_of_mem _ hr),by rw [← hk]; exact hs.apart,by rw [← hk]; exact hs.nodup⟩
  have:=h ⟨none,0⟩ G (PM.le.refl G) rfl SlR.nul w hs2
  rw [← hk] at this; exact this
 have hk:keys (rB (.slice (some ⟨g,0,none⟩) xs.length cap) E xs :: μ)=keys (.blk g (.cells cur E (0,0)) :: μ):=by simp [keys,Res.keys,Value.ownBlock]
 have hs2:Sat G (.blk g (.cells cur E (0,0)) :: μ) w:=by
  refine ⟨hs.sub,fun r hr=>?_,by rw [← hk]; exact hs.apart,by rw [← hk]; exact hs.nodup⟩
  rcases List.mem_cons.1 hr with rfl | hr
  ·exact hg
  exact hs.own r (List.mem_cons_of_mem _ hr)
 have hGg:G g=none:=hs2.apart g (by simp [keys,Res.keys])
 have hsl:SlR (G.add g (.cells cur E (0,0))) 1 aN ⟨some ⟨g,0,none⟩,cap⟩ xs:=by
  refine SlR.ofRow (fun _ _=>rfl) hnc (fun _=>rfl) ?_
  rw [sY]
  intro j u hj w' hs'
  show w'.cell? ⟨g,0+j,none⟩=some u
  rw [Nat.zero_add,cell_of_row w' g j cur E (0,0) (hs' g _ (bU G g _))]
  rw [← htake,List.getElem?_take] at hj
  split at hj
  ·simpa using hj
  cases hj
 have:=pV (fun hle=>h ⟨some ⟨g,0,none⟩,cap⟩ _ hle rfl hsl) w hs2
 rw [← hk] at this; exact this
theorem xB {nm:ByteArray}:∀ {F:List Fi},nm∉F.map Fi.nm→bK nm F=none
 | [],_=>rfl
 | f :: r,h=>by
  rw [List.map_cons,List.mem_cons,not_or] at h
  rw [bK,if_neg (fun e=>h.1 e.symm)]; exact xB h.2
def rmv (x:ByteArray):List ByteArray→List ByteArray
 | []=>[]
 | y :: r=>if y=x then r else y :: rmv x r
theorem aHk {nm:ByteArray}:∀ {F:List Fi},(dN nm F).map Fi.nm=rmv nm (F.map Fi.nm)
 | []=>rfl
 | f :: r=>by
  rw [dN,List.map_cons,rmv]
  by_cases q:f.nm=nm
  ·rw [if_pos q,if_pos q]
  ·rw [if_neg q,if_neg q,List.map_cons,aHk]
theorem sz3:(aO 3 0).size=15:=by kernel_rfl
theorem sz5:(aO 5 0).size=11:=by kernel_rfl
theorem sz4:(aO 4 0).size=7:=by kernel_rfl
theorem sz1:(aO 1 1).size=10:=by kernel_rfl
theorem uY:eH (aO 3 0):=⟨by rw [sz3]; decide,by rw [sz3]; decide⟩
theorem aCM:eH (aO 1 1):=⟨by rw [sz1]; decide,by rw [sz1]; decide⟩
theorem tI {a b:ByteArray} {m k:Nat} (h1:a.size=m) (h2:b.size=k) (h:m≠k):a≠b:=fun e=>h (by rw [← h1,←h2,e])
theorem aCN:aO 1 1∉[aO 3 0,aO 4 0]:=fun h=>by
 rcases List.mem_cons.1 h with h | h
 ·exact tI sz1 sz3 (by decide) h
 ·exact tI sz1 sz4 (by decide) (List.mem_singleton.1 h)
theorem aTT {F:List Fi} {f:Fi} {clk:Nat} {nm to:ByteArray} (hD:DkR F clk) (hf:bK nm F=some f) (hab:bK to (dN nm F)=none) (hg:to.size≤100) (hc:F.length<100) :
  DkR (dN nm F++[{ f with nm:=to,born:=clk }]) (clk+1)∧(dN nm F++[{ f with nm:=to,born:=clk }]).map Fi.nm=rmv nm (F.map Fi.nm)++[to]∧cA (dN nm F++[{ f with nm:=to,born:=clk }])=cA F:=by
 have hz:=(sV hf).1
 have hfw:=hD.few
 have hl:=(uO (nm:=nm) (F:=F)).2
 refine ⟨(hD.del hf).app rfl (by show cA (dN nm F)+f.n≤_; omega) hab hg (by omega),?_,?_⟩
 ·rw [List.map_append,aHk]; rfl
 rw [yD]; simp only [cA]; omega
def eY (dk tr:Nat) (root:Nat→Y) (o:Opts) (ep:BitVec 64) (held now:Nat):Db:=⟨dk,tr,root,o,ep,State.zero,dE,0#64,0#64,0#64,held,Fl.zero,Fl.zero,Fl.zero,now⟩
def qS (ep:BitVec 64) (n:BitVec 64):Fl:=⟨⟨3#8,0#8,0#64,ep,0#64⟩,n,false⟩
def sX (ep:BitVec 64) (n:BitVec 64):Fl:=⟨⟨1#8,0#8,0#64,ep,1#64⟩,n,false⟩
def Db.d1 (dk tr:Nat) (root:Nat→Y) (o:Opts) (ep:BitVec 64) (held now:Nat):Db:={ eY dk tr root o ep held now with next:=1#64,mn:=qS ep 0#64 }
def Db.d2 (dk tr:Nat) (root:Nat→Y) (o:Opts) (ep:BitVec 64) (held now:Nat):Db:={ eY dk tr root o ep held now with next:=2#64,mn:=qS ep 0#64,lg:=sX ep 0#64 }
def iD (dk tr:Nat) (root:Nat→Y) (o:Opts) (ep:BitVec 64) (held now:Nat):Db:={ eY dk tr root o ep held now with next:=2#64,mn:=qS ep 1#64,lg:=sX ep 0#64,s:=cM 1 2 }
theorem yK:DkR [] 0:=⟨List.nodup_nil,List.nodup_nil,(fun f hf=>absurd hf List.not_mem_nil),by decide,(fun f hf=>absurd hf List.not_mem_nil),by decide⟩
theorem rJ:u64 1:=⟨by decide,by decide⟩
theorem rK:u64 2:=⟨by decide,by decide⟩
theorem aHW:((cU 1 0).cells ⟨none,0⟩ ⟨none,0⟩).set 9 (.slice none 0 0)=(cU 1 0).cells ⟨none,0⟩ ⟨none,0⟩:=rfl
theorem aPI:((cU 1 0).cells ⟨none,0⟩ ⟨none,0⟩).set 1 (uv .u64 2#64)=(cU 1 2).cells ⟨none,0⟩ ⟨none,0⟩:=rfl
theorem aFJ {us:ByteArray} {q:BitVec 64}:WayN [Nd.z] us q (fun _=>0):=by
 have h0:∀ k,cY [Nd.z] 0 k=0:=fun _=>rfl
 refine ⟨rfl,fun k _=>Nat.zero_lt_one,fun k _=>.inl ⟨rfl,.inl rfl⟩,fun a ha k _=>?_⟩
 obtain rfl:a=0:=by simpa using ha
 rw [h0]; exact Nat.zero_lt_one
structure Opn where
 kind:Y
 user:ByteArray
 value:ByteArray
def Opn.cells (o:Opn):List Value:=[V o.kind,.string o.user,.string o.value]
def Opn.val (o:Opn):Value:=.agg o.cells.toArray
def Opn.zero:Opn:=⟨0,ByteArray.empty,ByteArray.empty⟩
theorem Opn.len (o:Opn):o.cells.length=3:=rfl
theorem Opn.one (o:Opn):∀ u∈o.cells,u.oneCell'=true:=by
 intro u hu
 simp only [Opn.cells,List.mem_cons,List.not_mem_nil,or_false] at hu
 rcases hu with rfl|rfl|rfl<;>rfl
theorem aJA (l:List Opn):∀ u∈l.flatMap Opn.cells,u.oneCell'=true:=fun u hu=>by
 obtain ⟨x,_,h⟩:=List.mem_flatMap.1 hu; exact x.one u h
structure Opn.ok (o:Opn):Prop where
 kind:o.kind=1#8∨(o.kind=0#8∧o.value.toList=[])
 user:o.user.size≤10
 value:o.value.size≤10
def fS (q:BitVec 64) (o:Opn):Ent:=⟨o.user,q,o.kind,o.value⟩
theorem xV {q:BitVec 64} {o:Opn} (h:o.ok) (hq:q.toNat≤1000):jS (fS q o)=true:=by
 have h1:=h.user; have h2:=h.value
 unfold jS fS
 rcases h.kind with hk | ⟨hk,hv⟩
 ·simp only [hk]
  rw [if_neg (by decide)]
  simp only [Bool.and_eq_true,decide_eq_true_eq]
  exact ⟨⟨⟨by omega,by omega⟩,by omega⟩,trivial⟩
 ·simp only [hk,hv]
  rw [if_pos trivial]
  simp only [Bool.and_eq_true,decide_eq_true_eq]
  exact ⟨⟨⟨by omega,by omega⟩,by omega⟩,rfl⟩
def cB:Nat→List Opn→List Ent
 | _,[]=>[]
 | j,o :: r=>fS (BitVec.ofNat 64 (j+1)) o :: cB (j+1) r
theorem aAD:∀ {l:List Opn} {j:Nat},(cB j l).length=l.length
 | [],_=>rfl
 | o :: r,j=>by rw [cB,List.length_cons,List.length_cons,aAD]
theorem aHg:∀ {l:List Opn} {j k:Nat} {o:Opn},l[k]? = some o→(cB j l)[k]? = some (fS (BitVec.ofNat 64 (j+k+1)) o)
 | [],_,_,_,h=>by simp at h
 | x :: r,j,0,o,h=>by simp only [List.getElem?_cons_zero,Option.some.injEq] at h; subst h; rfl
 | x :: r,j,k+1,o,h=>by
  rw [List.getElem?_cons_succ] at h
  rw [cB,List.getElem?_cons_succ,aHg h]
  rw [show j+1+k+1=j+(k+1)+1 by omega]
theorem aHh:∀ {l:List Opn} {j k:Nat} {o:Opn},l[k]? = some o→cB j (l.take k)++[fS (BitVec.ofNat 64 (j+k+1)) o]=cB j (l.take (k+1))
 | [],_,_,_,h=>by simp at h
 | x :: r,j,0,o,h=>by simp only [List.getElem?_cons_zero,Option.some.injEq] at h; subst h; rfl
 | x :: r,j,k+1,o,h=>by
  rw [List.getElem?_cons_succ] at h
  rw [List.take_succ_cons,List.take_succ_cons,cB,cB,List.cons_append]
  congr 1
  have:=aHh (j:=j+1) h
  rw [← this,show j+1+k+1=j+(k+1)+1 by omega]
theorem aN6 {k:Nat}:BitVec.ofNat 64 (k+1)+1#64=BitVec.ofNat 64 (k+1+1):=by
 apply BitVec.eq_of_toNat_eq
 simp only [BitVec.toNat_add,BitVec.toNat_ofNat]
 omega
theorem aID {k j:Nat} (hk:k<2) (hj:j≤k) (h:(decide (((BitVec.ofNat 64 (k+1) >>> j).toNat:Int) > 0)&&(((BitVec.ofNat 64 (k+1) >>> j) &&& 1#64).toNat:Int) == 0)=true):j+1≤k:=by
 match k,j,hk,hj with
 | 0,0,_,_=>exact absurd h (by decide)
 | 1,0,_,_=>decide
 | 1,1,_,_=>exact absurd h (by decide)
theorem aP3 {k j:Nat} (hk:k<2) (hj:j≤k) (h:(decide (((BitVec.ofNat 64 (k+1) >>> j).toNat:Int) > 0)&&(((BitVec.ofNat 64 (k+1) >>> j) &&& 1#64).toNat:Int) == 0)=false):j=k:=by
 match k,j,hk,hj with
 | 0,0,_,_=>rfl
 | 1,0,_,_=>exact absurd h (by decide)
 | 1,1,_,_=>rfl
theorem aKD (s:ByteArray) (h:s.size<18446744073709551616):(nR (yb s)).length≤s.size+10:=by
 have:=hJ (n:=(yb s).length) (by rw [iC]; omega)
 rw [nR,List.length_append,iC] at *
 omega
def jI (k:Nat):Nat→Nat:=fun j=>if j=0 then k else 0
def cK (es:List Ent):Nat→List Nd
 | 0=>[Nd.z]
 | k+1=>nJ (jI k) (k+1) (cK es k++[(es.getD k Ent.zero,fun _=>0)]) (k+1)
theorem uT {es:List Ent}:∀ {k:Nat},(cK es k).length=k+1
 | 0=>rfl
 | k+1=>by rw [cK,pJ,List.length_append,uT]; rfl
theorem oJ {es:List Ent} {k:Nat} {e:Ent} (h:es[k]? = some e):cK es (k+1)=nJ (jI k) (cK es k).length (cK es k++[(e,fun _=>0)]) (k+1):=by
 rw [cK,uT]
 have:es.getD k Ent.zero=e:=by rw [List.getD_eq_getElem?_getD,h]; rfl
 rw [this]
theorem aCF {es:List Ent} {e:Ent} (h:es[0]? = some e):cK es 1=[(Ent.zero,fun j=>if j=0 then 1 else 0),(e,fun j=>if j=0 then 0 else 0)]:=by
 rw [oJ h]; rfl
theorem aVF {es:List Ent} {e:Ent} {us:ByteArray} {q:BitVec 64} (h:es[0]? = some e) (ha:pA e us q=true):WayN (cK es 1) us q (jI 1):=by
 rw [aCF h]
 have n0:∀ k,cY [(Ent.zero,fun j=>if j=0 then 1 else 0),(e,fun j=>if j=0 then 0 else 0)] 0 k=if k=0 then 1 else 0:=fun _=>rfl
 have n1:∀ k,cY [(Ent.zero,fun j=>if j=0 then 1 else 0),(e,fun j=>if j=0 then 0 else 0)] 1 k=0:=fun k=>by show (if k=0 then 0 else 0)=0; split<;>rfl
 refine ⟨rfl,fun k _=>?_,fun k _=>?_,fun a hl k _=>?_⟩
 ·unfold jI; split<;>simp
 ·by_cases hk:k=0
  ·subst hk
   refine .inr ⟨rfl,by rw [show jI 1 (0+1)=0 from rfl,n0]; decide,?_,.inl (n1 0)⟩
   rw [show jI 1 (0+1)=0 from rfl,n0]; exact ha
  have e1:jI 1 k=0:=if_neg hk
  have e2:jI 1 (k+1)=0:=rfl
  exact .inl ⟨e1.trans e2.symm,.inl (by rw [e2,n0,if_neg hk])⟩
 have:a=0∨a=1:=by simp at hl; omega
 rcases this with rfl|rfl
 ·rw [n0]; split<;>simp
 rw [n1]; simp
theorem aVH {l:List Opn} {k:Nat} {o:Opn} {q:BitVec 64} (hk:k<2) (ho:l[k]? = some o) (hord:l.length=2→lt (l.getD 0 Opn.zero).user (l.getD 1 Opn.zero).user=true) (hl:l.length≤2) :
  WayN (cK (cB 0 l) k) o.user q (jI k)∧cY (cK (cB 0 l) k) (jI k 0) 0=0:=by
 match k,hk with
 | 0,_ =>
  have e:jI 0=fun _=>0:=by funext j; unfold jI; split<;>rfl
  rw [e]
  exact ⟨aFJ,rfl⟩
 | 1,_ =>
  match l,ho,hord,hl with
  | [a,b],ho,hord,_ =>
   simp only [List.getElem?_cons_succ,List.getElem?_cons_zero,Option.some.injEq] at ho
   subst ho
   have h0:(cB 0 [a,b])[0]? = some (fS (BitVec.ofNat 64 1) a):=rfl
   refine ⟨aVF h0 ?_,?_⟩
   ·unfold pA
    have:lt a.user b.user=true:=hord rfl
    show (lt a.user b.user||_)=true
    rw [this]; rfl
   rw [aCF h0]; rfl
  | [],ho,_,_=>simp at ho
  | [a],ho,_,_=>simp at ho
  | a :: b :: c :: r,_,_,hl=>simp at hl
def eK (l:List UInt8):ByteArray:=⟨l.toArray⟩
structure EvD where
 kind:Y
 client:Int
 ops:List Opn
 sync:Bool
 lo:List UInt8
 hi:List UInt8
 moment:BitVec 64
 n:Int
 keep:List Int
 name:List UInt8
 bytes:List UInt8
def EvD.zero:EvD:=⟨0#8,0,[],false,[],[],0#64,0,[],[],[]⟩
def rQ (T e:Nat):PanicEntry:={ v:=.iface T (.agg #[.int .i64 (e:Int)]),recovered:=false }
def rR (T e:Nat):PanicEntry:={ v:=.iface T (.agg #[.int .i64 (e:Int)]),recovered:=true }
def srT (P:Program) (T:TypeId):Bool:=match P.underlying T with | some (.struct _)=>true | _=>false
section
variable {dr:Bool} {mc:Md} {P:Program} {n:Fm} {l:List Oper} {K:aJ→PM→aG→Prop} {i:Nat} {σ:List Nat} {ρ:aJ} {G:PM} {μ:aG}
variable {d t:Nat} {p:String} {af:Array Edge}
theorem mkI {T:TypeId} {x:Operand} {v:Value} (ho:nth l i=some ⟨some d,.makeInterface T x,t,p,af,none⟩) (hT:srT P T=true) (hx:Ev ρ true x v)
  (h:Wo dr mc P n l K σ ((d,true,.iface T v) :: ρ) G μ):Wo dr mc P n l K (i :: σ) ρ G μ:=by
 refine .read (v:=.iface T v) ho (.inl rfl) .no (fun _ a w ha _=>?_) h
 have h5:a.eval x=v:=hx.eval ha rfl
 unfold srT at hT
 split at hT
 ·rename_i fs hu
  simp [execOp,h5,Instr.makeInterface,run_underlying hu]
 cases hT
theorem tA {S T:TypeId} {x:Operand} {v:Value} (ho:nth l i=some ⟨some d,.typeAssert x S T false,t,p,af,none⟩) (hT:srT P T=true) (hx:Ev ρ true x (.iface T v))
  (h:Wo dr mc P n l K σ ((d,true,v) :: ρ) G μ):Wo dr mc P n l K (i :: σ) ρ G μ:=by
 refine .act (μ₁:=[]) (μ₂:=μ) (post:=fun G' μ' u=>G'=G∧μ'=[]∧u=v) ho (.inl rfl) .no (.refl _) (fun a w ha hs=>.inl ?_) ?_
 ·have h5:a.eval x=.iface T v:=hx.eval ha rfl
  refine ⟨v,w,G,[],.inl ?_,eQ (Sat.left (μ:=[]) hs),rfl,rfl,rfl⟩
  unfold srT at hT
  split at hT
  ·rename_i fs hu
   simp [execOp,h5,Instr.typeAssert,Sem.run_bind,run_underlying hu]
  cases hT
 rintro u G' μ'' _ ⟨rfl,rfl,rfl⟩
 exact h
end
theorem aUw (l:List UInt8):(eK l).data.toList=l:=rfl
theorem aKZ (l:List UInt8):(eK l).toList=l:=by rw [ByteArray.toList_eq,aUw]
theorem aOc {P:Program} {f:FuncId} {args:Array Value} {G:PM} {v:Value} (h:∀ w,Calls P f args w (fun e w'=>e=.returned v∧w'=w)):Ct P f args G [] (fun _ μ' u=>μ'=[]∧u=v):=fun w hs=>by
 refine (h w).mono ?_
 rintro e w' ⟨rfl,rfl⟩
 exact ⟨v,G,[],rfl,eQ hs,rfl,rfl⟩
end Go.Tan
