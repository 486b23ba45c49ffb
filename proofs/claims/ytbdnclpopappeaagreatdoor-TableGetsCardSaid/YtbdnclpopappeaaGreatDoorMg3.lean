/- Lemmas and contracts of functions, joined. -/
import Derived.Test.YtbdnclpopappeaaGreatDoorMg2
import Derived.Test.YtbdnclpopappeaaGreatDoorCards
import Derived.Test.YtbdnclpopappeaaGreatDoorTie
import Derived.OpenShut
import Derived.Deep.DeepHandedRow
import Derived.Deep.CondSized
import Derived.JoinedCond
import Derived.Test.YtbdnclpopappeaaGreatDoorRows
import Derived.KernelRfl
set_option linter.unusedSimpArgs false
set_option linter.unusedVariables false
set_option linter.unusedSectionVars false
namespace Go.Tan
open Go.RowKit
def jP (user:ByteArray) (seq:BitVec 64) (e:Ent):Bool := !dA e ⟨user,seq,0,ByteArray.empty⟩
theorem aNo {user:ByteArray} {seq:BitVec 64} {e:Ent}:((!le e.user user)||((e.user.toList == user.toList)&&decide ((e.seq.toNat:Int)≤(seq.toNat:Int))))=jP user seq e:=by
 unfold jP
 rw [← aDn (x:=e) (y:=⟨user,seq,0,ByteArray.empty⟩)]
def iM (user:ByteArray) (p:RowT×Sh):Bool := !lt (aN p.1.bound) user
theorem aC4 {user:ByteArray}:∀ (l:List (RowT×Sh)),fI (iM user) l=if gH user (l.map (·.1))<l.length then (gH user (l.map (·.1)):Int) else -1
 | []=>rfl
 | p :: l=>by
  have ih:=aC4 (user:=user) l
  unfold fI at ih ⊢
  rw [List.findIdx?_cons]
  unfold gH
  rw [List.map_cons]
  by_cases h:lt (aN p.1.bound) user=true
  ·have hn:iM user p=false:=by unfold iM; rw [h]; rfl
   rw [hn]
   simp only [h,if_true,Bool.false_eq_true,if_false,List.length_cons]
   cases hf:l.findIdx? (iM user) with
   | none =>
    rw [hf] at ih
    simp only at ih
    simp only [Option.map_none]
    split at ih
    ·have:=Int.natCast_nonneg (gH user (l.map (·.1))); omega
    ·rename_i q; rw [if_neg (by omega)]
   | some i =>
    rw [hf] at ih
    simp only at ih
    simp only [Option.map_some]
    split at ih
    ·rw [if_pos (by omega)]; omega
    ·have:=Int.natCast_nonneg i; omega
  ·have hn:iM user p=true:=by unfold iM; simp only [Bool.not_eq_true] at h; rw [h]; rfl
   rw [hn]
   simp [h]
theorem aAu {α:Type} {p:α→Bool}:∀ (l:List α),(fI p l<0∧l.find? p=none)∨∃ x,0≤fI p l∧l[(fI p l).toNat]? = some x∧l.find? p=some x
 | []=>.inl ⟨by show (-1:Int)<0; decide,rfl⟩
 | a :: l=>by
  unfold fI
  rw [List.findIdx?_cons,List.find?_cons]
  cases h:p a with
  | true=>exact .inr ⟨a,Int.le_refl _,rfl,rfl⟩
  | false =>
   have ih:=aAu (p:=p) l
   unfold fI at ih
   simp only [Bool.false_eq_true,if_false]
   cases hf:l.findIdx? p with
   | none =>
    rw [hf] at ih
    rcases ih with ⟨_,h2⟩ | ⟨x,h1,_⟩
    ·exact .inl ⟨by simp,h2⟩
    simp at h1
   | some i =>
    rw [hf] at ih
    rcases ih with ⟨h1,_⟩ | ⟨x,h1,h2,h3⟩
    ·simp only at h1; omega
    refine .inr ⟨x,?_,?_,h3⟩
    ·simp only [Option.map_some]; exact Int.natCast_nonneg _
    simp only [Option.map_some,Int.toNat_natCast] at h2 ⊢
    rw [List.getElem?_cons_succ]; exact h2
theorem aIZ {n:Nat} {acc rows:List RowT} {rest r:List Y} (h:cT (n+1) acc rest r=some rows):∃ bd size d r',cT n (acc++[⟨bd,rest.take size,d⟩]) (rest.drop size) r'=some rows:=by
 have key:∀ {α:Type} {a:α} {last:Bool} {f:List Y→Nat→Dg→List Y→Option α} {r:List Y},qM last f r=some a→∃ bd size d r',f bd size d r'=some a:=by
  intro α a last f r h
  have h3:∀ {bd:List Y} {r:List Y},(cU fun size=>iN gD 32 fun xs=>f bd size (fun i=>xs.getD i 0)) r=some a→∃ bd size d r',f bd size d r'=some a:=by
   intro bd r h
   obtain ⟨size,r2,_,_,h⟩:=oI h
   have h4:∀ (m:Nat) (K:List Y→List Y→Option α) (r:List Y),iN gD m K r=some a→∃ xs r',K xs r'=some a:=by
    intro m
    induction m with
    | zero=>intro K r h; exact ⟨[],r,h⟩
    | succ m ih =>
     intro K r h
     obtain ⟨x,r',_,h⟩:=aMY h
     obtain ⟨xs,r2,h⟩:=ih _ _ h
     exact ⟨_,_,h⟩
   obtain ⟨xs,r3,h⟩:=h4 _ _ _ h
   exact ⟨_,_,_,_,h⟩
  unfold qM at h
  cases last with
  | true=>exact h3 h
  | false =>
   simp only [Bool.false_eq_true,if_false] at h
   obtain ⟨bd,r',_,_,h⟩:=aRT h
   exact h3 h
 obtain ⟨bd,size,d,r',h2⟩:=key (aDx h)
 split at h2
 ·exact ⟨bd,size,d,r',h2⟩
 ·cases h2
theorem aIa:∀ {n:Nat} {acc rows:List RowT} {rest r:List Y},cT n acc rest r=some rows→rows.length=acc.length+n
 | 0,acc,rows,rest,r,h=>by rw [(aDw h).2.2]; rfl
 | n+1,acc,rows,rest,r,h=>by
  obtain ⟨bd,size,d,r',h2⟩:=aIZ h
  have:=aIa h2
  rw [this,List.length_append]; simp; omega
theorem aDv:∀ {n:Nat} {acc rows:List RowT} {rest r:List Y},cT n acc rest r=some rows→(rows.map (·.bytes)).flatten=(acc.map (·.bytes)).flatten++rest
 | 0,acc,rows,rest,r,h=>by obtain ⟨_,rfl,rfl⟩:=aDw h; simp
 | n+1,acc,rows,rest,r,h=>by
  obtain ⟨bd,size,d,r',h2⟩:=aIZ h
  rw [aDv h2,List.map_append,List.flatten_append,List.append_assoc]
  simp
theorem aCR {root:Nat→Y} {m:Meta} {b:List Y} {rows:List RowT} {ix:List Y} (h:dZ root m b=some (rows,ix)):2≤rows.length:=by
 obtain ⟨y,_,hp⟩:=(aCQ h).opn
 obtain ⟨n,r,_,_,hp⟩:=oI hp
 split at hp
 ·have:=aIa hp
  simp at this; omega
 ·cases hp
theorem aGk {root:Nat→Y} {m:Meta} {b:List Y} {user:ByteArray} {seq:BitVec 64} {R:Option Ent} (h:gB root m b user seq=some R) :
  ∃ rows ix f,dZ root m b=some (rows,ix)∧dP root (bI m) (rows.getD (rows.length-1) iD) 1=some f∧(jE f user=false→R=none) ∧
   (jE f user=true→fP root (bI m) rows user seq (rows.length-1-gH user (rows.take (rows.length-1))) (gH user (rows.take (rows.length-1)))=some R):=by
 unfold gB at h
 cases hb:dZ root m b with
 | none=>rw [hb] at h; cases h
 | some p =>
  obtain ⟨rows,ix⟩:=p
  rw [hb,Option.bind_some] at h
  simp only at h
  cases hf:dP root (bI m) (rows.getD (rows.length-1) iD) 1 with
  | none=>rw [hf] at h; cases h
  | some f =>
   rw [hf,Option.bind_some] at h
   refine ⟨rows,ix,f,rfl,hf,fun q=>?_,fun q=>?_⟩
   ·rw [if_pos q] at h; exact (Option.some.inj h).symm
   rw [if_neg (by rw [q]; simp)] at h; exact h
theorem aNb {root:Nat→Y} {hd:Hd} {rows:List RowT} {user:ByteArray} {seq:BitVec 64} {R:Option Ent} {n j:Nat} (hj:j<n) (h:fP root hd rows user seq (n-j) j=some R) :
  ∃ l,gV root hd rows j=some l∧(l.find? (jP user seq)=none→fP root hd rows user seq (n-(j+1)) (j+1)=some R)∧(∀ e,l.find? (jP user seq)=some e→R=if e.user=user then some e else none):=by
 obtain ⟨m,hm⟩ : ∃ m,n-j=m+1:=⟨n-j-1,by omega⟩
 rw [hm,fP] at h
 cases hl:gV root hd rows j with
 | none=>rw [hl] at h; cases h
 | some l =>
  rw [hl,Option.bind_some] at h
  refine ⟨l,rfl,fun q=>?_,fun e q=>?_⟩
  ·have e1:fU l user seq=none:=q
   rw [e1] at h
   rw [show n-(j+1)=m by omega]; exact h
  have e1:fU l user seq=some e:=q
  rw [e1] at h
  simp only at h
  split at h
  ·rename_i he; rw [if_pos he]; exact (Option.some.inj h).symm
  rename_i he; rw [if_neg he]; exact (Option.some.inj h).symm
theorem aHe (every:Nat) (l:List Ent):∀ k,k≤(dW every l k).length
 | 0=>Nat.zero_le _
 | k+1=>by
  have:=aHe every l k
  have h1:=uN (iU (pD l k) (cA (l.getD k Ent.zero)) (k%every == 0))
  unfold dW oA
  simp only [List.length_append]; omega
theorem aDl {y:List Y} {l:List Ent} (h:gL y=(l,0)):l.length≤y.length:=by
 unfold gL at h
 split at h
 ·rename_i l' hp
  simp only [Prod.mk.injEq,and_true] at h
  subst h
  obtain ⟨a,r,_,_,hp⟩:=oI hp
  obtain ⟨n,r2,_,_,hp⟩:=oI hp
  split at hp
  ·cases he:gK n [] [] r2 with
   | none=>rw [he] at hp; cases hp
   | some l2 =>
    rw [he,Option.bind_some] at hp
    split at hp
    ·rename_i hb
     simp only [Option.some.injEq] at hp
     subst hp
     have hlen:y=gA (a:Int).toNat l2:=by
      unfold fT at hb
      split at hb
      ·simp only [Prod.mk.injEq] at hb; exact absurd hb.2 (by decide)
      ·split at hb
       ·simp only [Prod.mk.injEq] at hb; exact absurd hb.2 (by decide)
       ·simp only [Prod.mk.injEq] at hb; exact hb.1.symm
     have:=aHe (a:Int).toNat l2 l2.length
     rw [hlen]; unfold gA
     rw [List.length_append,List.length_append]; omega
    ·cases hp
  ·cases hp
 ·simp only [Prod.mk.injEq] at h; exact absurd h.2 (by decide)
theorem aNe {root:Nat→Y} {hd:Hd} {ps L:List (RowT×Sh)} {user:ByteArray} {seq:BitVec 64} {R:Option Ent} (hpl:1≤ps.length) (eL:L=ps.take (ps.length-1))
  (h:fP root hd (ps.map (·.1)) user seq (ps.length-1-gH user ((ps.map (·.1)).take (ps.length-1))) (gH user ((ps.map (·.1)).take (ps.length-1)))=some R) :
  (fI (iM user) L = -1∧R=none)∨(0≤fI (iM user) L∧fI (iM user) L≤((ps.length-1:Nat):Int)∧fP root hd (ps.map (·.1)) user seq (ps.length-1-(fI (iM user) L).toNat) (fI (iM user) L).toNat=some R):=by
 have e1:(ps.map (·.1)).take (ps.length-1)=L.map (·.1):=by rw [eL,List.map_take]
 have e2:L.length=ps.length-1:=by rw [eL,List.length_take]; omega
 rw [e1] at h
 have hi:=aC4 (user:=user) L
 have hle:=aAv (user:=user) (L.map (·.1))
 rw [List.length_map] at hle
 split at hi
 ·rename_i q
  refine .inr ⟨by omega,by omega,?_⟩
  rw [hi,Int.toNat_natCast]; exact h
 rename_i q
 refine .inl ⟨hi,?_⟩
 rw [show ps.length-1-gH user (L.map (·.1))=0 by omega,fP] at h
 exact (Option.some.inj h).symm
theorem aGm {user:ByteArray} {seq:BitVec 64} {l:List Ent} (h:fI (jP user seq) l<0):l.find? (jP user seq)=none:=by
 rcases aAu (p:=jP user seq) l with ⟨_,h2⟩ | ⟨x,h1,_⟩
 ·exact h2
 ·omega
theorem aNc {root:Nat→Y} {hd:Hd} {rows:List RowT} {user:ByteArray} {seq:BitVec 64} {R:Option Ent} {k:Int} {n:Nat} (hI:(k = -1∧R=none)∨(0≤k∧k≤(n:Int)∧fP root hd rows user seq (n-k.toNat) k.toNat=some R)) (hk:k<0∨(n:Int)≤k):R=none:=by
 rcases hI with ⟨_,h⟩ | ⟨h1,h2,h3⟩
 ·exact h
 ·rw [show n-k.toNat=0 by omega,fP] at h3
  exact (Option.some.inj h3).symm
def aGI:List CK:=[.str,.int .u64,.int .u8,.str]
theorem aAr {e:Ent} (h1:e.user.size≤1000000) (h2:e.value.size≤1000000):Conf aGI e.cells:=by
 refine .cons (.str ?_) (Conf.u64 (Conf.u8 (.cons (.str ?_) .nil)))
 all_goals (simp only [maxLen]; omega)
theorem aNJ {l:List Ent} {user:ByteArray} {seq:BitVec 64} {k:Nat} {x:Ent} (hn:∀ j y,j<k→l[j]? = some y→dA y ⟨user,seq,0,ByteArray.empty⟩=true) (h:l[k]? = some x) (hx:dA x ⟨user,seq,0,ByteArray.empty⟩=false):fU l user seq=some x:=by
 unfold fU
 induction l generalizing k with
 | nil=>cases h
 | cons a l ih =>
  rw [List.find?_cons]
  cases k with
  | zero=>rw [List.getElem?_cons_zero] at h; obtain rfl:=Option.some.inj h; simp only [hx,Bool.not_false]
  | succ k =>
   have:=hn 0 a (Nat.succ_pos _) rfl
   simp only [this,Bool.not_true]
   exact ih (k:=k) (fun j y hj hy=>hn (j+1) y (Nat.succ_lt_succ hj) (by rwa [List.getElem?_cons_succ])) (by rwa [List.getElem?_cons_succ] at h)
theorem aNK {l:List Ent} {user:ByteArray} {seq:BitVec 64} {k:Nat} (hn:∀ j y,j<k→l[j]? = some y→dA y ⟨user,seq,0,ByteArray.empty⟩=true) (hk:l.length≤k):fU l user seq=none:=by
 unfold fU
 refine List.find?_eq_none.2 fun x hx=>?_
 obtain ⟨i,hi,rfl⟩:=List.getElem_of_mem hx
 rw [hn i _ (by omega) (List.getElem?_eq_getElem hi)]; decide
theorem aNL {l:List Ent} {e:Ent} {k:Nat} {x:Ent} (hn:∀ j y,j<k→l[j]? = some y→dA y e=true) (h:l[k]? = some x) (hx:dA x e=true):∀ j y,j<k+1→l[j]? = some y→dA y e=true:=fun j y hj hy=>by
 rcases Nat.lt_succ_iff_lt_or_eq.1 hj with h1|rfl
 ·exact hn j y h1 hy
 ·rw [h] at hy; obtain rfl:=Option.some.inj hy; exact hx
theorem aNs {t:Tab} (o:t.Ok):t.info.wf:=by
 have hb:=o.bytes_le
 have hl:=o.light
 have hu:∀ i,(t.ents.getD i Ent.zero).user.size≤50000:=fun i=>by
  by_cases h:i<t.ents.length
  ·have:=aAC h; have:=hl.2; omega
  rw [List.getD_eq_getElem?_getD,List.getElem?_eq_none (by omega)]; decide
 have h1:=hu 0
 have h2:=hu (t.ents.length-1)
 have a1:=t.h.level.isLt; have a2:=t.h.gen.isLt; have a3:=t.h.epoch.isLt; have a4:=t.h.num.isLt
 have b1:=hl.1
 refine ⟨⟨?_,?_⟩,⟨?_,?_⟩,⟨?_,?_⟩,?_,?_,⟨?_,?_⟩,⟨?_,?_⟩,⟨?_,?_⟩,fun j hj=>?_⟩
 all_goals first
  | (show (oE t.ents).size≤_; unfold oE; omega)
  | (show (iI t.ents).size≤_; unfold iI; omega)
  |skip
 all_goals simp only [Tab.info]
 all_goals first
  |omega
  | (have:=(dL t.leaves j).isLt; omega)
theorem aPv {a b:Ent}:(lt a.user b.user||(a.user.toList == b.user.toList&&decide ((a.seq.toNat:Int) > (b.seq.toNat:Int))))=dA a b:=by
 unfold dA
 congr 2
 exact decide_eq_decide.2 (by omega)
def uF:ByteArray:=⟨#[97]⟩
def bsB:ByteArray:=⟨#[98]⟩
def gU:Ent:=⟨uF,5#64,0#8,ByteArray.empty⟩
def wA:Hd:=⟨2#8,0#8,0#64,0#64,0#64⟩
theorem aQ5 {root:Nat→Y} {L:List Y} {m:Meta} {er:Int} {blk every bits:Int} (h:aAE root wA [] blk every bits L m er):er=1:=by
 rcases h with h | h
 ·exact h.2.2.2
 ·exact absurd (.inr (.inr (.inl rfl))) h.1
theorem aIu:¬ sO wA [gU] 1 1:=by
 have h1:bV gU=true:=by unfold bV gU; simp only [ByteArray.toList_eq]; decide
 have h2:eH [gU]=true:=aIK (k:=0) (by simp) (fun i hi=>absurd hi (Nat.not_lt_zero _))
 rintro (h | h | h | h | h | h | h | ⟨e,he,h⟩ | h)
 ·exact h rfl
 ·exact absurd h (by decide)
 ·cases h
 ·omega
 ·omega
 ·omega
 ·omega
 ·obtain rfl:=List.mem_singleton.1 he; rw [h1] at h; cases h
 ·rw [h2] at h; cases h
theorem aIt:lightE [gU]:=⟨by decide,by decide⟩
theorem aQ6 {root:Nat→Y} {bits:Int} {L:List Y} {m:Meta} {er:Int} (h:aAE root wA [gU] 1 1 bits L m er) :
  er=0∧m.wf∧L.length≤150000∧∀ user seq,gB root m L user seq=some (oP [gU] user seq):=by
 rcases h with h | ⟨hn,rfl,rfl,rfl⟩
 ·exact absurd h.1 aIu
 ·have g:=aGn (root:=root) (bits:=bits) aIu aIt
  exact ⟨rfl,aNs g.ok,g.ok.bytes_le,fun user seq=>by have e:=aR2 g (user:=user) (seq:=seq); have e2:(cY root wA [gU] 1 1 bits).ents=[gU]:=oZ 1 [gU]; rw [e2] at e; exact e⟩
theorem aQ2:dA gU ⟨uF,9#64,0,ByteArray.empty⟩=false:=by unfold dA lt; simp only [ByteArray.toList_eq]; decide
theorem aQ3:dA gU ⟨uF,4#64,0,ByteArray.empty⟩=true:=by unfold dA lt; simp only [ByteArray.toList_eq]; decide
theorem aQ4:dA gU ⟨bsB,9#64,0,ByteArray.empty⟩=true:=by unfold dA lt; simp only [ByteArray.toList_eq]; decide
theorem aQ7:oP [gU] uF 9#64=some gU:=by unfold oP fU; rw [List.find?_cons,aQ2]; simp [gU]
theorem aQ8:oP [gU] uF 4#64=none:=by unfold oP fU; rw [List.find?_cons,aQ3]; rfl
theorem aQ9:oP [gU] bsB 9#64=none:=by unfold oP fU; rw [List.find?_cons,aQ4]; rfl
section
variable {root:Nat→Y} {h:Hd} {l:List Ent} {blk every bits er:Int} {L:List Y} {m:Meta}
end
end Go.Tan
namespace Go.Proofs.YtbdnclpopappeaaGreatDoor
open Go.Tan Go.RowKit
set_option maxRecDepth 100000
theorem aKA:Tryz.prog.cellsOf 139=1:=by kernel_rfl
theorem aKB:Tryz.prog.cellsOf 192=64:=by kernel_rfl
theorem aBy:Tryz.prog.cellsOf 5=1:=by kernel_rfl
theorem aBx:Tryz.prog.cellsOf 24=1:=by kernel_rfl
theorem aKC:Tryz.prog.cellsOf 3=1:=by kernel_rfl
theorem aEb:Tryz.prog.cellsOf 9=1:=by kernel_rfl
theorem aSz:Tryz.prog.cellsOf 45=2:=by kernel_rfl
theorem aEa:Tryz.prog.cellsOf 23=32:=by kernel_rfl
theorem gC:Tryz.prog.globalNamed "tantalus/sha.constants" = some 1:=by kernel_rfl
theorem gCT:(Tryz.prog.globals[1]?).map (·.type)=some 192:=by kernel_rfl
theorem gR:Tryz.prog.globalNamed "tantalus/tantalusref03.K" = some 0:=by kernel_rfl
theorem gRT:(Tryz.prog.globals[0]?).map (·.type)=some 192:=by kernel_rfl
def aDF:List Int:=[1116352408,1899447441,3049323471,3921009573,961987163,1508970993,2453635748,2870763221,3624381080,310598401,607225278,1426881987,1925078388,2162078206,2614888103,3248222580,3835390401,4022224774,264347078,604807628,770255983,1249150122,1555081692,1996064986,2554220882,2821834349,2952996808,3210313671,3336571891,3584528711,113926993,338241895,666307205,773529912,1294757372,1396182291,1695183700,1986661051,2177026350,2456956037,2730485921,2820302411,3259730800,3345764771,3516065817,3600352804,4094571909,275423344,430227734,506948616,659060556,883997877,958139571,1322822218,1537002063,1747873779,1955562222,2024104815,2227730452,2361852424,2428436474,2756734187,3204031479,3329325298]
theorem aG2:∀ j,j<64→aDF.getD j 0=((kW j).toNat:Int):=by decide
theorem aRb {W:World} {rest:List (String×DataW Unit)} (h:laidMet Tryz.prog (("tantalus/sha.constants",Rows.laid_tantalus_sha_constants) :: rest) W):RdNP (fun b=>W.heap[b]?) 1 0 (wa 64 kW) :=
 aI9 (Lib.tabIs_of_head (zs:=aDF) (rest:=rest) gC gCT Tryz.underlying192 Tryz.underlying139 aKA aKB h) gC rfl aG2
theorem aRc {W:World} {x:String×DataW Unit} {rest:List (String×DataW Unit)} (h:laidMet Tryz.prog (x :: ("tantalus/tantalusref03.K",Rows.laid_tantalus_tantalusref03_K) :: rest) W):RdNP (fun b=>W.heap[b]?) 0 0 (wa 64 kW) :=
 aI9 (Lib.tabIs_of_head (zs:=aDF) (rest:=rest) gR gRT Tryz.underlying192 Tryz.underlying139 aKA aKB (aN4 h)) gR rfl aG2
def aNy:Array Value:=#[.int .u32 1116352408,.int .u32 1899447441,.int .u32 3049323471,.int .u32 3921009573,.int .u32 961987163,.int .u32 1508970993,.int .u32 2453635748,.int .u32 2870763221,.int .u32 3624381080,.int .u32 310598401,.int .u32 607225278,.int .u32 1426881987,.int .u32 1925078388,.int .u32 2162078206,.int .u32 2614888103,.int .u32 3248222580,.int .u32 3835390401,.int .u32 4022224774,.int .u32 264347078,.int .u32 604807628,.int .u32 770255983,.int .u32 1249150122,.int .u32 1555081692,.int .u32 1996064986,.int .u32 2554220882,.int .u32 2821834349,.int .u32 2952996808,.int .u32 3210313671,.int .u32 3336571891,.int .u32 3584528711,.int .u32 113926993,.int .u32 338241895,.int .u32 666307205,.int .u32 773529912,.int .u32 1294757372,.int .u32 1396182291,.int .u32 1695183700,.int .u32 1986661051,.int .u32 2177026350,.int .u32 2456956037,.int .u32 2730485921,.int .u32 2820302411,.int .u32 3259730800,.int .u32 3345764771,.int .u32 3516065817,.int .u32 3600352804,.int .u32 4094571909,.int .u32 275423344,.int .u32 430227734,.int .u32 506948616,.int .u32 659060556,.int .u32 883997877,.int .u32 958139571,.int .u32 1322822218,.int .u32 1537002063,.int .u32 1747873779,.int .u32 1955562222,.int .u32 2024104815,.int .u32 2227730452,.int .u32 2361852424,.int .u32 2428436474,.int .u32 2756734187,.int .u32 3204031479,.int .u32 3329325298]
def aIr:Obj→Obj
 | .cells _ t frozen=>.cells aNy t frozen
 | o=>o
noncomputable def aDI (os:Os):World :=
 { World.holding Tryz.prog os ⟨#[], #[],[]⟩ with heap:=((World.holding Tryz.prog os ⟨#[], #[],[]⟩).heap.modify 0 aIr).modify 1 aIr }
section
variable {H:Type} {R:Nat} {enc:TypeId×Value→H} {W:World} {cs:List Value}
theorem aRJ (hl:cs.length=2) {a b:Value} (h0:(cs.drop 0).take 1=[a]) (h1:(cs.drop 1).take 1=[b]):cs=[a,b]:=by
 match cs,hl with
 | [p,q],_=>simp at h0 h1; rw [h0,h1]
theorem aLk (hR:R≤140737488351232) (h:Rg R enc Tryz.prog W 45 cs):∃ (user:ByteArray) (seq:BitVec 64),cs=[.string user,uv .u64 seq]∧user.size≤140737488351232:=by
 have hl:=h.len Tryz.underlying45
 rw [aSz] at hl
 obtain ⟨a,ha,wa⟩:=(h.fld Tryz.underlying45 0 9 0 rfl aEb).str Tryz.underlying9
 obtain ⟨b,hb⟩:=(h.fld Tryz.underlying45 1 24 1 rfl aBx).uw rfl Tryz.underlying24
 exact ⟨a,b,aRJ hl ha hb,by omega⟩
theorem aFI {t:TypeId} {fs:Array Field} {base:Nat} {v:Value} (ht:Tryz.prog.underlying t=some (.struct fs)) (h:Value.okWide Tryz.prog W .any base t v) {l:List Value} (hl:v.cells.toList=l):v=.agg l.toArray:=by
 unfold Value.okWide at h
 rw [ht] at h
 obtain ⟨c,rfl,_⟩:=h
 rw [← hl]; rfl
end
theorem aRp:ownKnob Tryz.prog.godebug=none:=by kernel_rfl
theorem aRo:laidOutB Tryz.prog=true:=by kernel_rfl
end Go.Proofs.YtbdnclpopappeaaGreatDoor
namespace Go.Tan
open Go.RowKit
theorem WoT.n3 {P:Program} {n:Fm} {l:List Oper} {ρ:aK} {G:PM} {μ:aG} {K:aK→PM→aG→Prop} {m:Nat} {listed:Array Bool} (j j2 j3:Nat) (hr:dC l listed=[j,j2,j3]) (h:Wo false (⟨false,false⟩ : Md) P n l (fun ρ' G' μ'=>WoT P n l K m (listed.setIfInBounds j true) ρ' G' μ') [j] ρ G μ)
  (h2:Wo false (⟨false,false⟩ : Md) P n l (fun ρ' G' μ'=>WoT P n l K m (listed.setIfInBounds j2 true) ρ' G' μ') [j2] ρ G μ) (h3:Wo false (⟨false,false⟩ : Md) P n l (fun ρ' G' μ'=>WoT P n l K m (listed.setIfInBounds j3 true) ρ' G' μ') [j3] ρ G μ):WoT P n l K (m+1) listed ρ G μ :=
 ⟨by rw [hr]; simp,fun j' hj'=>by
  rw [hr] at hj'
  rcases List.mem_cons.1 hj' with rfl | hj'
  ·exact h
  ·rcases List.mem_cons.1 hj' with rfl | hj'
   ·exact h2
   ·obtain rfl:=List.mem_singleton.1 hj'; exact h3⟩
theorem aHa {o:Option (List Y)} {L:List Y} {e:Int} (h:OpenR o L e) (he:(e == 0)=false):o=none:=by
 rw [h.ok] at he
 cases o with
 | none=>rfl
 | some _=>cases he
theorem aHb {o:Option (List Y)} {L:List Y} {e:Int} (h:OpenR o L e) (he:(e == 0)=true):o=some L:=by
 rcases h with ⟨h,_⟩ | ⟨_,_,rfl⟩
 ·exact h
 ·cases he
section
variable {root:Nat→Y} {h:Hd} {x:RowT} {part i:Nat} {L y:List Y} {rows:List RowT} {l:List Ent} {e:Int}
theorem aJi (c:decide (yl 32 (dH x.bytes)=yl 32 x.leaf)=false):dP root h x part=none:=by unfold dP; rw [if_neg (of_decide_eq_false c)]
theorem aBl (c:decide (yl 32 (dH x.bytes)=yl 32 x.leaf)=true):dP root h x part=gX root h part x.bytes:=by unfold dP; rw [if_pos (of_decide_eq_true c)]
theorem aM4 (hx:rows.getD i iD=x) (hw:dP root h x (2+i)=none):gV root h rows i=none:=by unfold gV; rw [hx,hw]; rfl
theorem aM5 (hx:rows.getD i iD=x) (hw:dP root h x (2+i)=some y) (hr:(l,e)=gL y) (he:(e == 0)=false):gV root h rows i=none:=by
 unfold gV; rw [hx,hw,Option.bind_some,←hr,if_neg (by simpa using he)]
theorem aM6 (hx:rows.getD i iD=x) (hw:dP root h x (2+i)=some y) (hr:(l,e)=gL y) (he:(e == 0)=true):gV root h rows i=some l:=by
 unfold gV; rw [hx,hw,Option.bind_some,←hr,if_pos (by simpa using he)]
end
theorem aIO {m:Meta} (hw:m.wf) {d:Dg} (h:yl 32 d=yl 32 (fun i=>BitVec.ofInt 8 (m.root i))):(yl 32 d).map (fun y=>((y.toNat:Nat):Int))=(List.range 32).map m.root:=by
 rw [h,yl,List.map_map]
 refine List.map_congr_left fun i hi=>?_
 have:=hw.root i (List.mem_range.1 hi)
 show (((BitVec.ofInt 8 (m.root i)).toNat:Nat):Int)=_
 rw [BitVec.toNat_ofInt]; omega
def lH (m:Meta) (ix:List Y) (rows:List RowT):Option (List RowT×List Y) :=
 if (yl 32 (dL (rows.map (·.leaf)++[dH ix]))).map (fun y=>((y.toNat:Nat):Int))=(List.range 32).map m.root then some (rows,ix) else none
section
variable {root:Nat→Y} {m:Meta} {xs y L A ix:List Y} {h:Hd} {e:Int} {n k:Nat} {O:Option (List RowT)}
theorem aFS (hT:hH xs=(h,e)) (hc:((((xs.length:Int) == m.size)&&(e == 0))&&decide (h=bI m)&&decide ((xs.length:Int)≥38))=false):dZ root m xs=none:=by
 unfold dZ
 rw [if_neg]
 rintro ⟨h1,h2,h3,h4,_⟩
 rw [hT] at h1 h3
 simp only at h1 h3
 subst h1; subst h3
 simp [h2] at hc; omega
theorem aFX (hc:((((xs.length:Int) == m.size)&&(e == 0))&&decide (h=bI m)&&decide ((xs.length:Int)≥38))=true):(e=0∧h=bI m)∧(xs.length:Int)=m.size∧38≤xs.length:=by
 simp only [Bool.and_eq_true,beq_iff_eq,decide_eq_true_eq] at hc
 obtain ⟨⟨⟨h1,h2⟩,h3⟩,h4⟩:=hc
 exact ⟨⟨h2,h3⟩,h1,by omega⟩
theorem aFT (hk:¬ kB xs≤xs.length-38):dZ root m xs=none:=by
 unfold dZ
 rw [if_neg]
 rintro ⟨_,_,_,_,h5⟩
 exact hk h5
theorem aCP (hT:hH xs=(bI m,0)) (hs:(xs.length:Int)=m.size) (hl:38≤xs.length) (hk:kB xs≤xs.length-38) (hi:ix=(mQ xs).drop (xs.length-38-kB xs)) (hA:A=(mQ xs).take (xs.length-38-kB xs)) :
  dZ root m xs=(gX root (bI m) 0 ix).bind fun y=>((cU fun n r=>if 0<n then cT (n+1) [] A r else none) y).bind (lH m ix):=by
 subst hi; subst hA
 unfold dZ
 rw [if_pos ⟨by rw [hT],hs,by rw [hT],hl,hk⟩]
 rfl
theorem aL9 (hB:dZ root m xs=(gX root (bI m) 0 ix).bind fun y=>((cU fun n r=>if 0<n then cT (n+1) [] A r else none) y).bind (lH m ix)) (ho:gX root (bI m) 0 ix=none):dZ root m xs=none:=by rw [hB,ho]; rfl
theorem aLy (hB:dZ root m xs=(gX root (bI m) 0 ix).bind fun y=>((cU fun n r=>if 0<n then cT (n+1) [] A r else none) y).bind (lH m ix)) (ho:gX root (bI m) 0 ix=some y) (hN:cS ⟨y,0⟩=(n,⟨L,e⟩)) :
  dZ root m xs=(if e=0∧0<n then cT (n+1) [] A L else none).bind (lH m ix):=by
 rw [hB,ho,Option.bind_some]
 congr 1
 rcases (xV (b:=y) (k:=cU fun n r=>if 0<n then cT (n+1) [] A r else none)).numE hN with ⟨h1,_,h3⟩ | ⟨h1,h2⟩
 ·simp only at h1 h3
  rw [h3]
  by_cases hn:0<n
  ·rw [if_pos hn,if_pos ⟨h1,hn⟩]
  ·rw [if_neg hn,if_neg (fun q=>hn q.2)]
 ·rw [h1,if_neg]
  intro q
  rcases h2 with h2 | h2
  ·cases h2
  ·exact h2 q.1
theorem aMA (hB:dZ root m xs=(if e=0∧0<n then cT (n+1) [] A L else none).bind (lH m ix)) (hd:(decide ((n:Int) > 0)&&(e == 0))=false):dZ root m xs=none:=by
 rw [hB,if_neg]
 ·rfl
 ·rintro ⟨h1,h2⟩
  simp only [h1,Bool.and_eq_false_iff,decide_eq_false_iff_not] at hd
  rcases hd with hd | hd
  ·omega
  ·simp at hd
theorem aMC (hd:(decide ((n:Int) > 0)&&(e == 0))=true):0<n∧e=0:=by
 simp only [Bool.and_eq_true,decide_eq_true_eq,beq_iff_eq] at hd
 exact ⟨by omega,hd.2⟩
theorem bgO (hB:dZ root m xs=(if (0:Int)=0∧0<n then cT (n+1) [] A L else none).bind (lH m ix)) (hn:0<n):∃ O,O=cT (n+1) [] A L∧dZ root m xs=O.bind (lH m ix) :=
 ⟨_,rfl,by rw [hB,if_pos ⟨rfl,hn⟩]⟩
end
section
variable {acc:List RowT} {A R:List Y} {n k:Nat} {O:Option (List RowT)}
theorem aFW (h:O=cT (n+1-k) acc A R) (hk:k<n):Tk O ⟨R,0⟩ false (pL 1024 fun bd=>cU fun size=>iN gD 32 fun xs=>mT (n-k) acc A bd size (fun i=>xs.getD i 0)):=by
 rw [show n+1-k=(n-k)+1 by omega] at h
 refine .inl ⟨rfl,rfl,h.trans ?_⟩
 show qM (n-k == 0) _ R=_
 rw [show (n-k == 0)=false from beq_eq_false_iff_ne.2 (by omega)]
 rfl
theorem aFV (h:O=cT (n+1-k) acc A R) (hk:¬ k<n) (hk2:k≤n):Tk O ⟨R,0⟩ false (cU fun size=>iN gD 32 fun xs=>mT (n-k) acc A [] size (fun i=>xs.getD i 0)):=by
 rw [show n+1-k=(n-k)+1 by omega] at h
 refine .inl ⟨rfl,rfl,h.trans ?_⟩
 show qM (n-k == 0) _ R=_
 rw [show (n-k == 0)=true from beq_iff_eq.2 (by omega)]
 rfl
theorem aCU {s:Rd'} {size:Nat} {bd rt:List Y} {f:Nat→Y} (hf:∀ i,f i=rt.getD i 0) (h:Tk O s false (mT (n-k) acc A bd size (fun i=>rt.getD i 0))) :
  (s.bad=0∧size≤A.length→O=cT (n+1-(k+1)) (acc++[⟨bd,A.take size,f⟩]) (A.drop size) s.rest)∧(¬ (s.bad=0∧size≤A.length)→O=none):=by
 rw [show n+1-(k+1)=n-k by omega,show f=fun i=>rt.getD i 0 from funext hf]
 rcases h with ⟨h1,_,h3⟩ | ⟨h1,h2⟩
 ·rw [h3]
  unfold mT
  by_cases c:size≤A.length
  ·rw [if_pos c]; exact ⟨fun _=>rfl,fun q=>absurd ⟨h1,c⟩ q⟩
  rw [if_neg c]; exact ⟨fun q=>absurd q.2 c,fun _=>rfl⟩
 refine ⟨fun q=>?_,fun _=>h1⟩
 rcases h2 with h2 | h2
 ·cases h2
 exact absurd q.1 h2
theorem aFU {α:Type} {X:Option α} {K:List RowT→Option α} {e:Int} {size:Nat} {len:Int} (hO:X=O.bind K) (hg:¬ (e=0∧size≤A.length)→O=none) (hl:len=(A.length:Int)) (hd:((e == 0)&&decide ((size:Int)≤len))=false):X=none:=by
 rw [hO,hg]
 ·rfl
 ·rintro ⟨h1,h2⟩
  subst h1; subst hl
  rw [decide_eq_true (by omega)] at hd
  cases hd
theorem aFY {e:Int} {size:Nat} {len:Int} (hl:len=(A.length:Int)) (hd:((e == 0)&&decide ((size:Int)≤len))=true):e=0∧size≤A.length:=by
 simp only [Bool.and_eq_true,decide_eq_true_eq,beq_iff_eq] at hd
 exact ⟨hd.1,by omega⟩
theorem bge (R A:List Y):(R=[]∧A=[])∨(R=[]∧¬ A=[])∨¬ R=[]:=by
 by_cases h:R=[]
 ·by_cases h2:A=[]
  ·exact .inl ⟨h,h2⟩
  ·exact .inr (.inl ⟨h,h2⟩)
 ·exact .inr (.inr h)
theorem aGH (h:¬ R=[]):(pA R 0 == 0)=false:=by
 unfold pA
 rw [if_pos ⟨rfl,by cases R with | nil=>exact absurd rfl h | cons _ _=>simp⟩]; rfl
theorem aBS (h:¬ (R=[]∧A=[])):cT 0 acc A R=none:=by unfold cT; rw [if_neg h]
theorem aDy:cT 0 acc [] []=some acc:=by unfold cT; rw [if_pos ⟨rfl,rfl⟩]
end
theorem aMB {X:Option (List RowT×List Y)} {O:Option (List RowT)} {m:Meta} {ix:List Y} {acc:List (RowT×Sh)} {D:List Dg} (hw:m.wf) (hO:X=O.bind (lH m ix)) (hr:O=some (acc.map (·.1))) (eD:D=acc.map (fun p=>p.1.leaf))
  (hd:(true&&decide (yl 32 (dL (D++[dH ix]))=yl 32 (fun i=>BitVec.ofInt 8 (m.root i))))=false):X=none:=by
 rw [Bool.true_and] at hd
 rw [hO,hr,Option.bind_some,lH,if_neg]
 intro q
 refine of_decide_eq_false hd (aDs hw ?_)
 rw [eD]; rw [List.map_map] at q; exact q
theorem aMD {X:Option (List RowT×List Y)} {O:Option (List RowT)} {m:Meta} {ix:List Y} {acc:List (RowT×Sh)} {D:List Dg} (hw:m.wf) (hO:X=O.bind (lH m ix)) (hr:O=some (acc.map (·.1))) (eD:D=acc.map (fun p=>p.1.leaf))
  (hd:(true&&decide (yl 32 (dL (D++[dH ix]))=yl 32 (fun i=>BitVec.ofInt 8 (m.root i))))=true):X=some (acc.map (·.1),ix):=by
 rw [Bool.true_and] at hd
 rw [hO,hr,Option.bind_some,lH,if_pos]
 have:=aIO hw (of_decide_eq_true hd)
 rw [eD] at this; rw [List.map_map]; exact this
section
variable {root:Nat→Y} {m:Meta} {b ix f:List Y} {rows:List RowT} {hd:Hd} {acc x:List Ent} {n j k:Nat} {X:Option (List Ent)} {K:List Ent→Option (List Ent)}
end
def aGe (o:Option (Option Ent)):Int:=if o.isSome then 0 else 170
section
variable {root:Nat→Y} {m:Meta} {b ix f:List Y} {rows:List RowT} {user:ByteArray} {seq:BitVec 64} {Q:Option (Option Ent)} {hd:Hd}
theorem aGo (h:dZ root m b=none):gB root m b user seq=none:=by unfold gB; rw [h]; rfl
theorem rM (h:dZ root m b=some (rows,ix)) (hw:dP root (bI m) (rows.getD (rows.length-1) iD) 1=none):gB root m b user seq=none:=by unfold gB; rw [h,Option.bind_some]; simp only [hw]; rfl
theorem aGp (h:dZ root m b=some (rows,ix)) (hw:dP root (bI m) (rows.getD (rows.length-1) iD) 1=some f) (c:jE f user=false):gB root m b user seq=some none:=by
 unfold gB; rw [h,Option.bind_some]; simp only [hw,Option.bind_some]; rw [if_pos c]
theorem aGq (h:dZ root m b=some (rows,ix)) (hw:dP root (bI m) (rows.getD (rows.length-1) iD) 1=some f) (c:jE f user=true) :
  gB root m b user seq=fP root (bI m) rows user seq (rows.length-1-gH user (rows.take (rows.length-1))) (gH user (rows.take (rows.length-1))):=by
 unfold gB; rw [h,Option.bind_some]; simp only [hw,Option.bind_some]; rw [if_neg (by rw [c]; simp)]
theorem aGl {n j:Nat} (hj:j<n) (h:Q=fP root hd rows user seq (n-j) j):(gV root hd rows j=none→Q=none) ∧
  ∀ l,gV root hd rows j=some l→(l.find? (jP user seq)=none→Q=fP root hd rows user seq (n-(j+1)) (j+1))∧(∀ e,l.find? (jP user seq)=some e→Q=some (if e.user=user then some e else none)):=by
 obtain ⟨m,hm⟩ : ∃ m,n-j=m+1:=⟨n-j-1,by omega⟩
 rw [hm,fP] at h
 refine ⟨fun e=>by rw [h,e]; rfl,fun l hl=>?_⟩
 rw [hl,Option.bind_some] at h
 refine ⟨fun q=>?_,fun e q=>?_⟩
 ·have e1:fU l user seq=none:=q
  rw [e1] at h
  rw [show n-(j+1)=m by omega]; exact h
 have e1:fU l user seq=some e:=q
 rw [e1] at h
 simp only at h
 rw [h]; split<;>rfl
theorem aNf {ps L:List (RowT×Sh)} (hpl:1≤ps.length) (eL:L=ps.take (ps.length-1))
  (h:Q=fP root hd (ps.map (·.1)) user seq (ps.length-1-gH user ((ps.map (·.1)).take (ps.length-1))) (gH user ((ps.map (·.1)).take (ps.length-1)))) :
  (fI (iM user) L = -1∧Q=some none)∨(0≤fI (iM user) L∧fI (iM user) L≤((ps.length-1:Nat):Int)∧Q=fP root hd (ps.map (·.1)) user seq (ps.length-1-(fI (iM user) L).toNat) (fI (iM user) L).toNat):=by
 have e1:(ps.map (·.1)).take (ps.length-1)=L.map (·.1):=by rw [eL,List.map_take]
 have e2:L.length=ps.length-1:=by rw [eL,List.length_take]; omega
 rw [e1] at h
 have hi:=aC4 (user:=user) L
 have hle:=aAv (user:=user) (L.map (·.1))
 rw [List.length_map] at hle
 split at hi
 ·refine .inr ⟨by omega,by omega,?_⟩
  rw [hi,Int.toNat_natCast]; exact h
 refine .inl ⟨hi,?_⟩
 rw [show ps.length-1-gH user (L.map (·.1))=0 by omega,fP] at h
 exact h
theorem aNd {rows:List RowT} {k:Int} {n:Nat} (hI:(k = -1∧Q=some none)∨(0≤k∧k≤(n:Int)∧Q=fP root hd rows user seq (n-k.toNat) k.toNat)) (hk:k<0∨(n:Int)≤k):Q=some none:=by
 rcases hI with ⟨_,h⟩ | ⟨h1,h2,h3⟩
 ·exact h
 ·rw [show n-k.toNat=0 by omega,fP] at h3
  exact h3
end
section
variable {root:Nat→Y} {m:Meta} {b ix:List Y} {rows:List RowT} {l:List Ent}
end
def rI (root:Nat→Y) (m:Meta) (v:Value):List Value:=ba 32 root++(m.cells++[v])
theorem aFm {root:Nat→Y} {m:Meta} {v:Value}:((rI root m v).drop 32).take 40=m.cells:=by
 rw [rI,List.drop_left' (aU _ _),List.take_left' (Meta.len m)]
theorem aMU {root:Nat→Y} {m:Meta} {v:Value}:(rI root m v).drop 32=m.cells++[v]:=by rw [rI,List.drop_left' (aU _ _)]
theorem aCf {root:Nat→Y} {m:Meta} {v:Value}:(rI root m v)[72]? = some v:=by
 have:(rI root m v)[72]? = ((rI root m v).drop 32)[40]?:=by rw [List.getElem?_drop]
 rw [this,aMU,List.getElem?_append_right (by rw [Meta.len]; decide),Meta.len]; rfl
end Go.Tan
namespace Go.Proofs.YtbdnclpopappeaaGreatDoor
open Go.Tan Go.RowKit
set_option maxRecDepth 100000
theorem aKD:Tryz.prog.cellsOf 36=40:=by kernel_rfl
theorem aSy:Tryz.prog.cellsOf 43=73:=by kernel_rfl
theorem aSx:Tryz.prog.cellsOf 34=1:=by kernel_rfl
theorem aSw:Tryz.prog.bytesOf 5=1:=by kernel_rfl
section
variable {H:Type} {R:Nat} {enc:TypeId×Value→H} {W:World} {cs:List Value}
theorem aOT (hR:R≤140737488351232) (h:Rg R enc Tryz.prog W 36 cs):∃ m:Meta,cs=m.cells∧m.wf:=by
 have hl:=h.len Tryz.underlying36
 rw [aKD] at hl
 obtain ⟨n0,h0,w0⟩:=h.intAt Tryz.underlying36 0 5 0 rfl Tryz.underlying5 aBy
 obtain ⟨n1,h1,w1⟩:=h.intAt Tryz.underlying36 1 24 1 rfl Tryz.underlying24 aBx
 obtain ⟨n2,h2,w2⟩:=h.intAt Tryz.underlying36 2 24 2 rfl Tryz.underlying24 aBx
 obtain ⟨n3,h3,w3⟩:=h.intAt Tryz.underlying36 3 24 3 rfl Tryz.underlying24 aBx
 obtain ⟨n4,h4,w4⟩:=h.intAt Tryz.underlying36 4 3 4 rfl Tryz.underlying3 aKC
 obtain ⟨n5,h5,w5⟩:=h.intAt Tryz.underlying36 5 3 5 rfl Tryz.underlying3 aKC
 obtain ⟨s6,h6,w6⟩:=h.strAt Tryz.underlying36 6 9 6 rfl Tryz.underlying9 aEb
 obtain ⟨s7,h7,w7⟩:=h.strAt Tryz.underlying36 7 9 7 rfl Tryz.underlying9 aEb
 obtain ⟨r,hr⟩:=(h.fld Tryz.underlying36 8 23 8 rfl aEa).ints Tryz.underlying23 Tryz.underlying5 aBy
 rw [show IntKind.u8.min=0 by decide,show IntKind.u8.max=255 by decide] at w0
 rw [show IntKind.u64.min=0 by decide,show IntKind.u64.max=18446744073709551615 by decide] at w1
 rw [show IntKind.u64.min=0 by decide,show IntKind.u64.max=18446744073709551615 by decide] at w2
 rw [show IntKind.u64.min=0 by decide,show IntKind.u64.max=18446744073709551615 by decide] at w3
 rw [show IntKind.i64.min = -9223372036854775808 by decide,show IntKind.i64.max=9223372036854775807 by decide] at w4
 rw [show IntKind.i64.min = -9223372036854775808 by decide,show IntKind.i64.max=9223372036854775807 by decide] at w5
 refine ⟨⟨n0,n1,n2,n3,n4,n5,s6,s7,r⟩,aOD hl fun i hi=>?_,⟨w0.1,by show n0<_; omega⟩,⟨w3.1,by show n3<_; omega⟩,w4,Nat.le_trans w6 (by omega),Nat.le_trans w7 (by omega),w1,w2,w5,fun j hj=>?_⟩
 ·match i,hi with
  | 0,_=>exact h0
  | 1,_=>exact h1
  | 2,_=>exact h2
  | 3,_=>exact h3
  | 4,_=>exact h4
  | 5,_=>exact h5
  | 6,_=>exact h6
  | 7,_=>exact h7
  | n+8,hi =>
   have hn:n<32:=by have:n+8<40:=hi; omega
   rw [show n+8=8+n by omega,aRh (hr n hn).1]
   rw [Meta.cells,List.getElem?_append_right (by simp)]
   simp [hn]
 have w8:=(hr j hj).2; rw [show IntKind.u8.min=0 by decide,show IntKind.u8.max=255 by decide] at w8; exact w8
theorem aRK (hl:cs.length=73) {a b c:List Value} (h0:(cs.drop 0).take 32=a) (h1:(cs.drop 32).take 40=b) (h2:(cs.drop 72).take 1=c):cs=a++(b++c):=by
 rw [← h0,←h1,←h2,List.drop_zero]
 have e1:cs.drop 72=(cs.drop 32).drop 40:=by rw [List.drop_drop]
 rw [e1,List.take_of_length_le (l:=(cs.drop 32).drop 40) (by simp [hl]),List.take_append_drop,List.take_append_drop]
theorem aMV (hR:R≤140737488351232) (h:Rg R enc Tryz.prog W 43 cs):∃ (root:Nat→Y) (m:Meta) (hx:Sh) (xs:List Y),cs=rI root m (hx.val xs.length)∧m.wf∧SlR (fun b=>W.heap[b]?) 1 aL hx xs:=by
 have hl:=h.len Tryz.underlying43
 rw [aSy] at hl
 obtain ⟨r,hr⟩:=(h.fld Tryz.underlying43 0 23 0 rfl aEa).ba Tryz.underlying23 Tryz.underlying5 aBy aEa
 obtain ⟨m,hm,hw⟩:=aOT hR (h.fld Tryz.underlying43 1 36 32 rfl aKD)
 obtain ⟨hx,xs,hb,hs,_⟩:=(h.fld Tryz.underlying43 2 34 72 rfl aSx).bsl Tryz.underlying34 Tryz.underlying5 aBy aSw
 exact ⟨r,m,hx,xs,aRK hl hr hm hb,hw,hs⟩
end
end Go.Proofs.YtbdnclpopappeaaGreatDoor
namespace Go.Tan
open Go.RowKit
section
variable {dr:Bool} {mc:Md} {P:Program} {n:Fm} {l:List Oper} {K:aK→PM→aG→Prop} {i:Nat} {σ:List Nat} {ρ:aK} {G:PM} {μ:aG}
variable {d t:Nat} {p:String} {af:Array Edge} {g:Option (Nat×Bool)} {c:Bool}
theorem b2 {T E sz by':Nat} {x y:Operand} {v u z:Value} {cs ds:List Value} (ho:nth l i=some ⟨some d,.buildSlice T 2 #[(0,x),(1,y)],t,p,af,none⟩) (hT:cH P T=some (E,sz,by')) (hz:(P.info? E).bind (·.zero)=some z) (hx:Ev ρ true x v) (hy:Ev ρ true y u) (hv:v.cells=cs.toArray) (hu:u.cells=ds.toArray) (hl:cs.length=sz) (hl2:ds.length=sz) (h0:0<sz∧sz≤8388608)
  (h:∀ b,Wo dr mc P n l K σ ((d,true,.slice (some ⟨b,0,none⟩) 2 2) :: ρ) G (.blk b (cl (cs++ds) E) :: μ)):Wo dr mc P n l K (i :: σ) ρ G μ:=by
 refine bSg (ps:=[(0,x),(1,y)]) (vs:=[(0,v),(1,u)]) (cs:=cs++ds) ho .no hT (fun a ha hc=>by simp [hx.eval ha hc,hy.eval ha hc]) ?_ h
 obtain ⟨hu',inf,hi,rfl,_⟩:=gZ hT
 rw [hi] at hz
 simp only [Option.bind_some] at hz
 simp only [rH,hu',hi,hz]
 rw [if_neg (by omega)]
 generalize ha:(Array.range (2*inf.size)).map (z.cells[·%z.cells.size]!)=arr
 have hs:arr.toList.length=2*inf.size:=by rw [← ha]; simp
 have h2:=vY (place:=fun j=>some (j*inf.size,inf.size)) (cs:=arr.toList) (j:=0) (off:=0) (size:=inf.size) (rest:=[(1,u)]) (by simp) hv hl (by omega)
 simp only [Array.toArray_toList] at h2
 rw [h2]
 have e1:arr.toList.take 0++cs++arr.toList.drop (0+cs.length)=cs++arr.toList.drop inf.size:=by rw [hl]; simp
 rw [e1]
 have h3:=vY (place:=fun j=>some (j*inf.size,inf.size)) (cs:=cs++arr.toList.drop inf.size) (j:=1) (off:=inf.size) (size:=inf.size) (rest:=[]) (by simp) hu hl2 (by rw [List.length_append,List.length_drop]; omega)
 rw [h3]
 have e2:(cs++arr.toList.drop inf.size).take inf.size=cs:=List.take_left' hl
 have e3:(cs++arr.toList.drop inf.size).drop (inf.size+ds.length)=[]:=List.drop_of_length_le (by rw [List.length_append,List.length_drop]; omega)
 rw [e2,e3]
 simp [Instr.fill]
theorem aFM {T E b:Nat} {x y:Operand} {u:Value} {ys:List Y} {μ':aG} (ho:nth l i=some ⟨some d,.call { callee:=.builtin .append,args:=#[x,y],argTypes:=#[T,T] },t,p,af,none⟩)
  (hT:cH P T=some (E,1,1)) (hz:(P.info? E).bind (·.zero)=some (.int .u8 0)) (hx:Ev ρ true x (.slice (some ⟨b,0,none⟩) 0 0)) (hy:Ev ρ true y u) (hm:MTake μ (.blk b (cl [] E)) μ') (hs:Sc G μ u ys) (hb:ys.length≤140737488355328)
  (h:∀ (G':PM) (s:Sh) (L:List Y),L=ys→PM.le G G'→SlR G' 1 aL s L→Wo dr mc P n l K σ ((d,true,s.val L.length) :: ρ) G' μ) (hmc:mc.a=false∨dr=false:=by first|exact .inl rfl|exact .inr rfl):Wo dr mc P n l K (i :: σ) ρ G μ:=by
 obtain ⟨oa,cap,rfl,hr⟩:=hs.ex
 clear hs
 refine .act (μ₁:=[]) (μ₂:=μ) (post:=fun G' μ'' v'=>∃ s:Sh,v'=s.val ys.length∧SlR G' 1 aL s ys∧μ''=[]) ho (by rcases hmc with h | h<;>simp [bT,h]) .no (.refl _) (fun a w ha hs=>.inl ?_) ?_
 ·obtain ⟨hu,inf,hi,hs1,hb1⟩:=gZ hT
  by_cases hy0:ys.length=0
  ·have hys:ys=[]:=List.eq_nil_of_length_eq_zero hy0
   subst hys
   have hsμ:Sat G μ w:=by simpa using hs
   have hb0:w.heap[b]? = some (cl [] E):=(hsμ.perm hm.perm).own _ (List.mem_cons_self ..)
   refine ⟨Sh.val ⟨some ⟨b,0,none⟩,0⟩ 0,w,G,[],.inl ?_,nY (Sat.left (μ:=[]) hs),⟨some ⟨b,0,none⟩,0⟩,rfl,⟨fun hne=>absurd rfl hne,Nat.le_refl _,fun i x hx=>by simp at hx⟩,rfl⟩
   simp only [execOp,resolve,invoke,builtin,hx.eval ha rfl,hy.eval ha rfl]
   cases oa<;>simp [hx.eval ha rfl,hy.eval ha rfl,Builtin.append_,run_underlying hu,sizeOf,typeInfo,hi,Builtin.lenOf,Builtin.firstCells,loadCells,loadCellsFrom,storeCells,Sh.val]
  have hz':=hz
  rw [hi] at hz'
  simp only [Option.bind_some] at hz'
  obtain ⟨b2,o2,rfl,hrd⟩:=hr (by omega)
  have hnews:∀ j u,(ys.map V)[j]? = some u→w.cell? ((⟨b2,o2,none⟩ : Addr).add j)=some u:=fun j u hj=>by rw [kI]; exact hrd j u hj w (by simpa using hs)
  have hrun:=run_append_grow (P:=P) w T t E inf _ hu hi hz' ⟨b,0,none⟩ 0 0 [] (by simp) (fun j u hj=>by simp at hj) ⟨b2,o2,none⟩ ys.length cap (ys.map V) (by rw [hs1]; simp) hnews (by omega) (by omega) (growslice_fits (by omega) (by rw [hb1]; omega))
  have h2:=((nY (Sat.left (μ:=[]) hs)).drew).alloc (.cells (([]:List Value).toArray++(ys.map V).toArray++Builtin.zeroCells (Value.int .u8 0).cells (grownCap w (0+ys.length) 0 E-(0+ys.length))) E)
  have hge:=grownCap_ge w (0+ys.length) 0 E
  have h3:=h2.asRow (m:=ys.length) (cap:=grownCap w (0+ys.length) 0 E) (sz:=1) (xs:=ys.map V) (by simp) (by omega) (grownCap_le_maxLen w (0+ys.length) 0 E (by unfold maxLen; omega)) (by
   simp only [Array.size_append,List.size_toArray,size_zeroCells,List.length_map,List.length_nil]
   have:(Value.int .u8 0).cells.size=1:=rfl
   rw [this]; omega) (by simp)
  obtain ⟨G',s,_,hv,hsl,ht⟩:=Tr.frzB (xs:=ys) (by simpa [rB] using h3) (by simp [keys])
  refine ⟨s.val ys.length,_,G',[],.inl ?_,ht,s,rfl,hsl,rfl⟩
  rw [← hv]
  simp only [Nat.zero_add] at hrun ⊢
  simp [execOp,resolve,invoke,builtin,hx.eval ha rfl,hy.eval ha rfl,hrun]
 rintro v G' μ'' hle ⟨s,rfl,hsl,rfl⟩
 exact h G' s _ rfl hle hsl
end
theorem aLr {m:Nat} {ds:List (Nat→Y)}:∀ u∈ds.flatMap (ba m),u.oneCell'=true:=fun u hu=>by
 obtain ⟨d,_,h⟩:=List.mem_flatMap.1 hu
 exact dV _ _ u h
theorem aQx (x:BitVec 64):x*256#64=x <<< 8:=by
 apply BitVec.eq_of_toNat_eq
 rw [BitVec.toNat_mul,BitVec.toNat_shiftLeft,Nat.shiftLeft_eq]; rfl
theorem aN6 {e:Ent} {L:List Y} (h:L=cO (e.seq*256#64+e.kind.setWidth 64) 8):aN (yb e.user++yb (aN L))=aN (cA e):=by
 rw [h,aQx,iE]; rfl
theorem aPf {e:Ent}:((((decide ((e.user.size:Int)≤1024)&&decide ((e.seq.toNat:Int)≤72057594037927935))&&decide ((e.kind.toNat:Int)≤1))&&decide ((e.value.size:Int)≤65536))&&(((e.kind.toNat:Int) == 1)||(e.value.toList == (⟨#[]⟩ : ByteArray).toList)))=bV e:=by
 have h0:(⟨#[]⟩ : ByteArray).toList=[]:=by rw [ByteArray.toList_eq]
 rw [h0]
 unfold bV
 have hs:decide ((e.seq.toNat:Int)≤72057594037927935)=decide (e.seq.toNat≤72057594037927935):=decide_eq_decide.2 (by omega)
 rw [hs]
 by_cases k0:e.kind=0#8
 ·rw [if_pos k0,k0]
  cases decide ((e.user.size:Int)≤1024)<;>cases decide ((e.value.size:Int)≤65536)<;>cases decide (e.seq.toNat≤72057594037927935)<;>cases (e.value.toList == [])<;>rfl
 ·rw [if_neg k0]
  by_cases k1:e.kind=1#8
  ·rw [k1]
   cases decide ((e.user.size:Int)≤1024)<;>cases decide ((e.value.size:Int)≤65536)<;>cases decide (e.seq.toNat≤72057594037927935)<;>cases (e.value.toList == [])<;>rfl
  ·have h1:¬ e.kind.toNat=0:=fun q=>k0 (BitVec.eq_of_toNat_eq (by rw [q]; rfl))
   have h2:¬ e.kind.toNat=1:=fun q=>k1 (BitVec.eq_of_toNat_eq (by rw [q]; rfl))
   rw [decide_eq_false (p:=(e.kind.toNat:Int)≤1) (by omega),decide_eq_false k1]
   simp
theorem aQe {l:List Ent} {k:Nat} {x y:Ent} (hk:1≤k) (h:∀ j,j+1<k→dA (l.getD j Ent.zero) (l.getD (j+1) Ent.zero)=true) (hx:l[k-1]? = some x) (hy:l[k]? = some y) (c:dA x y=true):∀ j,j+1<k+1→dA (l.getD j Ent.zero) (l.getD (j+1) Ent.zero)=true:=fun j hj=>by
 by_cases e:j+1=k
 ·have e2:j=k-1:=by omega
  subst e2
  rw [e,kQ hx,kQ hy]; exact c
 ·exact h j (by omega)
theorem aQd {l:List Ent} {k:Nat} {x y:Ent} (hk:1≤k) (hx:l[k-1]? = some x) (hy:l[k]? = some y) (c:dA x y=false):eH l=false:=by
 have hlt:k<l.length:=(List.getElem?_eq_some_iff.1 hy).1
 refine aIJ (i:=k-1) (by omega) ?_
 rw [show k-1+1=k by omega,kQ hx,kQ hy]; exact c
section
variable {a b:ByteArray} {k:Nat}
theorem aQf (hk:k≤a.size∧k≤b.size) (hj:∀ j,j<k→(yb a).getD j 0=(yb b).getD j 0) (c:((decide ((k:Int)<(a.size:Int))&&decide ((k:Int)<(b.size:Int)))&&((((yb a).getD k 0).toNat:Int) == (((yb b).getD k 0).toNat:Int)))=false):dU (yb a) (yb b)=k:=by
 refine yF (by rw [bQ]; omega) (by rw [bQ]; omega) hj ?_
 rw [bQ,bQ]
 rw [Bool.and_eq_false_iff,Bool.and_eq_false_iff,decide_eq_false_iff_not,decide_eq_false_iff_not,beq_eq_false_iff_ne] at c
 rcases c with (c | c) | c
 ·exact .inl (by omega)
 ·exact .inr (.inl (by omega))
 exact .inr (.inr fun q=>c (by rw [q]))
theorem aQg (hk:k≤a.size∧k≤b.size) (hj:∀ j,j<k→(yb a).getD j 0=(yb b).getD j 0) (c:((decide ((k:Int)<(a.size:Int))&&decide ((k:Int)<(b.size:Int)))&&((((yb a).getD k 0).toNat:Int) == (((yb b).getD k 0).toNat:Int)))=false):jQ [.int .i64 (k:Int)]=.int .i64 (dU (yb a) (yb b):Int):=by
 rw [aQf hk hj c]; rfl
end
theorem aLa (l:List Ent):l.any (fun e => !bV e) = !(l.all bV):=by
 induction l with
 | nil=>rfl
 | cons e l ih=>rw [List.any_cons,List.all_cons,ih,Bool.not_and]
theorem aIc {l:List Ent} {every:Int}:(decide (every<1)||decide (every > 1024) || !eH l||l.any (fun e => !bV e))=(decide (every<1)||decide (every > 1024) || !(l.all bV&&eH l)):=by
 rw [aLa]
 cases eH l<;>cases l.all bV<;>cases decide (every<1)<;>cases decide (every > 1024)<;>rfl
theorem aLc {l:List Ent} {k:Nat} {x:Ent} (h:∀ j y,j<k→l[j]? = some y→bV y=true) (hx:l[k]? = some x) (c:bV x=true):∀ j y,j<k+1→l[j]? = some y→bV y=true:=fun j y hj hy=>by
 by_cases e:j=k
 ·subst e; rw [hx] at hy; cases hy; exact c
 ·exact h j y (by omega) hy
theorem aLd {l:List Ent} {k:Nat} (h:∀ j y,j<k→l[j]? = some y→bV y=true) (hk:l.length≤k):l.all bV=true:=by
 rw [List.all_eq_true]
 intro e he
 obtain ⟨i,hi,rfl⟩:=List.getElem_of_mem he
 exact h i _ (by omega) (List.getElem?_eq_getElem hi)
theorem aLb {l:List Ent} {k:Nat} {x:Ent} (hx:l[k]? = some x) (c:bV x=false):l.all bV=false:=by
 rw [List.all_eq_false]
 exact ⟨x,List.mem_of_getElem? hx,by rw [c]; simp⟩
section
variable {last:List Y} {e:Ent} {O N1 L1 N2 L2 N3 L3 L4 L5:List Y}
theorem aBL {k:Nat} {anew:Bool} (hu:e.user.size≤10000000) (hv:e.value.size≤10000000) (hk:k=iU last (cA e) anew) (n1:N1=bM (BitVec.ofInt 64 (k:Int)).toNat) (h1:L1=O++N1) (n2:N2=bM (BitVec.ofInt 64 (((aN (cA e)).size:Int)-(k:Int))).toNat) (h2:L2=L1++N2)
  (n3:N3=bM (BitVec.ofInt 64 (e.value.size:Int)).toNat) (h3:L3=L2++N3) (h4:L4=L3++yb (aN ((yb (aN (cA e))).drop k))) (h5:L5=L4++yb e.value):L5=O++oA last anew e :=
 tY hu hv hk (L1:=N1) (L2:=N1++N2) (L3:=N1++N2++N3) (by rw [List.nil_append]; exact n1) (by rw [← n2]) (by rw [← n3]) (L4:=O++(N1++N2++N3)) rfl (L5:=L4) (by rw [h4,h3,h2,h1]; simp only [List.append_assoc]) h5
end
theorem aQU {n l:Nat} {A B C:List Y} {x y:Int} (h1:x=n) (h2:y=l) (b1:n<18446744073709551616) (b2:l<18446744073709551616) (e1:A=bM (BitVec.ofInt 64 x).toNat) (e2:B=bM (BitVec.ofInt 64 y).toNat) (e3:C=A++B):C=bM n++bM l:=by
 subst h1; subst h2
 rw [e3,e1,e2,uM b1,uM b2]
theorem aQi (n:Nat):BitVec.ofInt 64 (n:Int)+1#64=BitVec.ofInt 64 ((n+1:Nat):Int):=by
 apply BitVec.eq_of_toNat_eq
 rw [BitVec.toNat_add,BitVec.ofInt_natCast,BitVec.ofInt_natCast]
 simp only [BitVec.toNat_ofNat]
 omega
theorem aFi {n:Nat} {l:List Ent} {O P L1 F L3:List Y} {rs:Nat} (eO:O=dW n l l.length) (eP:P=lT n l l.length) (er:rs=kF n l.length) (h1:L1=O++P) (h2:F=cO (BitVec.ofInt 64 (rs:Int)) 4) (h3:L3=L1++F):L3=gA n l:=by
 rw [h3,h2,h1,eO,eP,er]; rfl
theorem aFl {every:Int} (h1:1≤every) (h2:every≤1024):fT [] every=(gA every.toNat [],0):=by
 refine aAh (fun q=>?_) (fun q=>?_)
 ·rcases q with q | q | q | ⟨e,he,_⟩
  ·omega
  ·omega
  ·rw [aIK (k:=0) (by simp) (fun i hi=>absurd hi (Nat.not_lt_zero _))] at q; cases q
  cases he
 rcases q with ⟨k,hk,_⟩ | q
 ·exact absurd hk (Nat.not_lt_zero _)
 have h3:=yA (every:=every.toNat) (l:=[]) (by omega) (by simp) (by simp [dM])
 simp only [dM,List.length_nil] at h3; omega
theorem aOZ {every er:Int} {L:List Y} (h:(L,er)=fT [] every):(er=0∧1≤every∧every≤1024)∨(er=1∧(every<1∨1024<every)):=by
 by_cases h1:1≤every
 ·by_cases h2:every≤1024
  ·rw [aFl h1 h2] at h; cases h; exact .inl ⟨rfl,h1,h2⟩
  ·rw [aAg (.inr (.inl (by omega)))] at h; cases h; exact .inr ⟨rfl,.inr (by omega)⟩
 ·rw [aAg (.inl (by omega))] at h; cases h; exact .inr ⟨rfl,.inl (by omega)⟩
def aC0 (w:W):List Value:=[U w]
def qH (s:ByteArray) (n k:Nat):List W:=(List.range k).map (dO s n)
theorem aPB {s:ByteArray} {n k:Nat} {h:W} (e:h=hJ s k):qH s n k++[h%BitVec.ofInt 32 ((8*n:Nat):Int)]=qH s n (k+1):=by
 unfold qH
 rw [List.range_succ,List.map_append,e]; rfl
theorem aHk (s:ByteArray) (n k:Nat):(qH s n k).length=k:=by simp [qH]
theorem aHj {s:ByteArray} {n k j:Nat} (hj:j<k):(qH s n k)[j]? = some (dO s n j):=by
 unfold qH; rw [List.getElem?_map,List.getElem?_range hj]; rfl
theorem aQW {s:ByteArray} {k:Nat} {h d x:W} (ex:x=aC8 s) (ed:d=x / 131072#32+x%131072#32*32768#32) (eh:h=hJ s k):h+d=hJ s (k+1):=by
 rw [eh,ed,aQX,ex]; rfl
theorem tC {L:List Y} {n:BitVec 64} (e:L=bM n.toNat):L.length≤10:=by rw [e]; exact jF n.isLt
theorem aQh {s:ByteArray} {n k:Nat} (h0:0<n) (hn:n<500000000):(dO s n k / 8#32).toNat<n:=by rw [aGC]; exact wN s h0 hn k
structure CutS (least:Int) (l:List Ent) (fV:List (List Ent)) (now:List Ent) (n:Int) (i:Nat):Prop where
 eq:cZ least l=fV++cZ least (now++l.drop i)
 n:n=gI now now.length
 lt:∀ j,j<now.length→gI now (j+1)<least
namespace CutS
variable {least n n':Int} {l now:List Ent} {fV:List (List Ent)} {i:Nat} {e:Ent}
end CutS
section
variable {root:Nat→Y} {h:Hd} {l:List Ent} {blk every bits e:Int} {k:Nat} {x:Ent}
end
section
variable {root:Nat→Y} {h:Hd} {l:List Ent} {blk every bits:Int} {k:Nat}
end
section
variable {t:Tab} {k:Nat} {I S X W L1 L2 O:List Y}
end
section
variable {root:Nat→Y} {h:Hd} {l:List Ent} {blk every bits:Int}
end
theorem aOV (x:BitVec 64):(x%256#64).setWidth 8=x.setWidth 8:=by
 apply BitVec.eq_of_toNat_eq
 rw [BitVec.toNat_setWidth,BitVec.toNat_setWidth,BitVec.toNat_umod]
 show x.toNat%256%2^8=x.toNat%2^8
 omega
theorem aIF {n:Nat} (h:n<18446744073709551616) (r:List Y):cS ⟨bM n++r,0⟩=(n,⟨r,0⟩):=by
 unfold cS
 rw [if_neg (by simp)]
 dsimp only
 rw [aHW h]
 simp
section
variable {xs L L1 L2:List Y} {n1 n2:Nat} {e1 e2 er:Int}
theorem aPw (h1:cS ⟨xs,0⟩=(n1,⟨L1,e1⟩)) (h2:cS ⟨L1,e1⟩=(n2,⟨L2,e2⟩)) (hne:¬ n2=0) (hb:(L,er)=fT [] (n1:Int)) (h0:er=0):¬ L=xs:=by
 intro hx
 rcases aOZ hb with ⟨_,h3,h4⟩ | ⟨h5,_⟩
 ·rw [aFl h3 h4] at hb
  simp only [Prod.mk.injEq] at hb
  have e:xs=bM n1++(bM 0++cO (BitVec.ofInt 64 ((0:Nat):Int)) 4):=by
   rw [← hx,hb.1,Int.toNat_natCast]
   show (bM n1++bM 0)++[]++cO (BitVec.ofInt 64 ((0:Nat):Int)) 4=_
   rw [List.append_nil,List.append_assoc]
  rw [e,aIF (by omega)] at h1
  simp only [Prod.mk.injEq,Rd'.mk.injEq] at h1
  rw [← h1.2.1,←h1.2.2,aIF (by omega)] at h2
  simp only [Prod.mk.injEq] at h2
  exact hne h2.1.symm
 ·omega
theorem aP7 (h1:cS ⟨xs,0⟩=(n1,⟨L1,0⟩)):L1.length+1≤xs.length:=by
 unfold cS at h1
 rw [if_neg (by simp)] at h1
 simp only [Prod.mk.injEq,Rd'.mk.injEq] at h1
 obtain ⟨_,h2,h3⟩:=h1
 obtain ⟨v,j,e,hp⟩ : ∃ v j e,dE xs=(v,j,e):=⟨_,_,_,rfl⟩
 rw [hp] at h2 h3
 simp only at h2 h3
 subst h3
 obtain ⟨_,_,h6,h7⟩:=aDV hp
 have:=uN v
 rw [← h2,List.length_drop]; omega
theorem aP6 (h:cS ⟨xs,e1⟩=(n1,⟨L1,e2⟩)) (he:¬ e1=0):¬ e2=0:=by
 unfold cS at h
 rw [if_pos he] at h
 simp only [Prod.mk.injEq,Rd'.mk.injEq] at h
 rw [← h.2.2]; exact he
end
theorem aGE {α:Type} {B:List α} {I k:Nat}:(B.drop I).drop k=B.drop (I+k):=by rw [List.drop_drop]
theorem aQP {last:ByteArray} {B R:List Y} {I n1 n2:Nat} (eR:R=(B.drop I).take n2):yb (aN (yb (aN ((yb last).take n1))++yb (aN R)))=(yb last).take n1++(B.drop I).take n2:=by
 rw [iE,iE,iE,eR]
section
variable {f b:List Y} {s:ByteArray} {k m n:Nat} {p:W}
theorem aIM:((((b.getD (p / 8#32).toNat 0 >>> (p%8#32).toNat)%2#8).toNat:Int)=0)↔fY b p=false:=by
 unfold fY
 rw [aGC,aOW,aME,←aFZ (Nat.mod_lt _ (by decide))]
 constructor
 ·intro h; exact BitVec.eq_of_toNat_eq (Int.ofNat.inj h)
 ·intro h; rw [h]; rfl
theorem aFb (h:p.toNat / 8<n):fY (b.take n) p=fY b p:=by
 unfold fY
 rw [List.getD_eq_getElem?_getD,List.getElem?_take_of_lt h,←List.getD_eq_getElem?_getD]
theorem aQN (hn:0<f.length-1∧f.length<500000000) (h:∀ j,j<k→fY f (dO s (f.length-1) j)=true) (c:((((f.getD (dO s (f.length-1) k / 8#32).toNat 0 >>> (dO s (f.length-1) k%8#32).toNat)%2#8).toNat:Int) == 0)=false):∀ j,j<k+1→fY f (dO s (f.length-1) j)=true:=fun j hj=>by
 by_cases e:j=k
 ·subst e
  cases hb:fY f (dO s (f.length-1) j) with
  | true=>rfl
  | false=>rw [beq_eq_false_iff_ne] at c; exact absurd (aIM.2 hb) c
 ·exact h j (by omega)
theorem aQM (hn:0<f.length-1∧f.length<500000000) (h:(2≤(f.length:Int)∧¬ ((f.getD (f.length-1) 0).toNat:Int)=0)∧((f.getD (f.length-1) 0).toNat:Int)≤30) (em:m=(f.getD (f.length-1) 0).toNat) (hk:k<m) (c:((((f.getD (dO s (f.length-1) k / 8#32).toNat 0 >>> (dO s (f.length-1) k%8#32).toNat)%2#8).toNat:Int) == 0)=true):jE f s=false:=by
 rw [aA6 h]
 refine uZ fun q=>?_
 have h1:=q k (by omega)
 rw [aFb (wN s hn.1 (by omega) k),aIM.1 (by simpa using c)] at h1
 cases h1
theorem aQO (hn:0<f.length-1∧f.length<500000000) (h:(2≤(f.length:Int)∧¬ ((f.getD (f.length-1) 0).toNat:Int)=0)∧((f.getD (f.length-1) 0).toNat:Int)≤30) (em:m=(f.getD (f.length-1) 0).toNat) (hk:m≤k) (hb:∀ j,j<k→fY f (dO s (f.length-1) j)=true):jE f s=true:=by
 rw [aA6 h]
 refine qR fun j hj=>?_
 rw [aFb (wN s hn.1 (by omega) j)]
 exact hb j (by omega)
theorem aQL (hn:0<f.length-1∧f.length<500000000):(dO s (f.length-1) k / 8#32).toNat<f.length:=by
 have:=aQh (s:=s) (k:=k) hn.1 (show f.length-1<500000000 by omega)
 omega
end
section
variable {s:ByteArray} {E:Ent} {K:BitVec 64}
theorem aQl (eK:K=bU (yb (aN ((yb s).drop (s.size-8)))) 8) (eE:E=⟨aN ((yb s).take (s.size-8)),K / 256#64,(K%256#64).setWidth 8,ByteArray.empty⟩):E=oB (yb s):=by
 rw [eE,aGB,aOV,eK]; exact aEE rfl
theorem aQk (h:0≤(s.size:Int)-8) (eE:E=oB (yb s)) (c:bV E=false):fK (yb s)=(Ent.zero,80):=aJO (by omega) (by rw [← eE]; exact c)
theorem aQm (h:0≤(s.size:Int)-8) (eE:E=oB (yb s)) (c:bV E=true):fK (yb s)=(E,0):=by rw [eE] at c ⊢; exact aJP (by omega) c
end
section
variable {last key:ByteArray} {xs B V:List Y} {n1 n2 n3 J I1 I2 I3:Nat} {e1 e2 e3:Int}
theorem aQC (h1:cS ⟨B.drop J,0⟩=(n1,⟨B.drop I1,e1⟩)) (h2:cS ⟨B.drop I1,e1⟩=(n2,⟨B.drop I2,e2⟩)) (h3:cS ⟨B.drop I2,e2⟩=(n3,⟨B.drop I3,e3⟩)) (c:((¬ e3=0∨last.size<n1)∨B.length-I3<n2)∨B.length-I3-n2<n3):kX (yb last) (B.drop J)=none:=by
 rw [zV h1 h2 h3,if_neg]
 rw [List.length_drop]
 rintro ⟨q1,q2,q3,q4⟩
 rcases c with ((c | c) | c) | c
 ·exact c q1
 ·omega
 ·omega
 ·omega
theorem aQB (h1:cS ⟨B.drop J,0⟩=(n1,⟨B.drop I1,e1⟩)) (h2:cS ⟨B.drop I1,e1⟩=(n2,⟨B.drop I2,e2⟩)) (h3:cS ⟨B.drop I2,e2⟩=(n3,⟨B.drop I3,0⟩)) (c1:n1≤last.size) (c2:n2≤B.length-I3) (c3:n3≤B.length-I3-n2) (eky:yb key=(yb last).take n1++(B.drop I3).take n2) (eV:V=(B.drop (I3+n2)).take n3) :
  kX (yb last) (B.drop J)=if (fK (yb key)).2=0 then some ({ (fK (yb key)).1 with value:=aN V },yb key,B.drop (I3+n2+n3)) else none:=by
 rw [zV h1 h2 h3,if_pos ⟨rfl,c1,by rw [List.length_drop]; exact c2,by rw [List.length_drop]; exact c3⟩,←eky,aGE,aGE,eV]
end
theorem aP5 {xs L1:List Y} {e1 e2:Int} {y:Y} (h:iO ⟨xs,e1⟩=(y,⟨L1,e2⟩)) (he:e2=0):e1=0:=by
 by_cases q:e1=0
 ·exact q
 ·rw [aDi q] at h
  simp only [Prod.mk.injEq,Rd'.mk.injEq] at h
  rw [h.2.2]; exact he
theorem aP4 {B:List Y} {I I':Nat} {e e':Int} {y:Y} (h:iO ⟨B.drop I,e⟩=(y,⟨B.drop I',e'⟩)) (h1:I'≤B.length) (h2:I≤B.length):I≤I':=by
 have:=zH h
 simp only [List.length_drop] at this; omega
theorem aBM {B M:List Y} {I I' most:Nat} {e e':Int} (h:iC most ⟨B.drop I,e⟩=(M,⟨B.drop I',e'⟩)) (h1:I'≤B.length) (h2:I≤B.length):I≤I':=by
 have:=aDk h
 simp only [List.length_drop] at this; omega
theorem wS {B:List Y} {I I' n:Nat} {e e':Int} (h:cS ⟨B.drop I,e⟩=(n,⟨B.drop I',e'⟩)) (h1:I'≤B.length) (h2:I≤B.length) (he:e'=0):I+1≤I':=by
 by_cases q:e=0
 ·subst q; subst he
  have:=aP7 h
  simp only [List.length_drop] at this; omega
 ·exact absurd he (aP6 h q)
def aAX (O:Option (List RowT)) (bs:List ByteArray) (zs:List Nat) (ds:List Dg) (ok:Bool):Prop :=
 (ok=true∧∃ rows,O=some rows∧1≤rows.length∧bs=(rows.take (rows.length-1)).map (fun x=>aN x.bound)∧zs=rows.map (·.bytes.length)∧ds=rows.map (·.leaf))∨(ok=false∧O=none)
def vM (O:Option (List RowT)) (n k:Nat) (acc:List RowT) (A R:List Y) (e:Int):Prop:=(e=0∧O=cT (n+1-k) acc A R)∨(¬ e=0∧O=none)
section
variable {O:Option (List RowT)} {n k:Nat} {acc:List RowT} {A R R' xs:List Y} {e e':Int} {size:Nat} {d:Dg} {bd rt:List Y}
theorem aNw (hN:cS ⟨xs,0⟩=(n,⟨R,e⟩)) (hn:¬ n=0) (hO:O=(cU fun n r=>if 0<n then cT (n+1) [] A r else none) xs):vM O n 0 [] A R e:=by
 subst hO
 rcases (xV (b:=xs) (k:=cU fun n r=>if 0<n then cT (n+1) [] A r else none)).numE hN with ⟨h1,_,h3⟩ | ⟨h1,h2⟩
 ·simp only at h1 h3
  rw [if_pos (by omega)] at h3
  exact .inl ⟨h1,h3⟩
 ·rcases h2 with h2 | h2
  ·cases h2
  ·exact .inr ⟨h2,h1⟩
theorem aNv (hN:cS ⟨xs,0⟩=(n,⟨R,e⟩)) (hn:n=0) (hO:O=(cU fun n r=>if 0<n then cT (n+1) [] A r else none) xs):O=none:=by
 subst hO
 rcases (xV (b:=xs) (k:=cU fun n r=>if 0<n then cT (n+1) [] A r else none)).numE hN with ⟨h1,_,h3⟩ | ⟨h1,h2⟩
 ·simp only at h1 h3
  rw [if_neg (by omega)] at h3
  exact h3
 ·exact h1
theorem wE (h:vM O n k acc A R e) (he:e=0) (hk:k<n):Tk O ⟨R,0⟩ false (pL 1024 fun bd=>cU fun size=>iN gD 32 fun xs=>mT (n-k) acc A bd size (fun i=>xs.getD i 0)):=by
 rcases h with ⟨_,h⟩ | ⟨h,_⟩
 ·exact aFW h hk
 ·exact absurd he h
theorem aDD (h:vM O n k acc A R e) (he:e=0) (hk:¬ k<n) (hk2:k≤n):Tk O ⟨R,0⟩ false (cU fun size=>iN gD 32 fun xs=>mT (n-k) acc A [] size (fun i=>xs.getD i 0)):=by
 rcases h with ⟨_,h⟩ | ⟨h,_⟩
 ·exact aFV h hk hk2
 ·exact absurd he h
theorem aDE {s:Rd'} (h:Tk O s false (iN gD 32 fun xs=>mT (n-k) acc A bd size (fun i=>xs.getD i 0))) (hs:¬ size≤A.length):O=none:=by
 have key:∀ (m:Nat) (ys:List Y) (r:List Y),(iN gD m fun xs=>mT (n-k) acc A bd size (fun i=>(ys++xs).getD i 0)) r=none:=by
  intro m
  induction m with
  | zero=>intro ys r; show mT _ _ _ _ _ _ r=none; unfold mT; rw [if_neg hs]
  | succ m ih =>
   intro ys r
   show gD _ r=none
   unfold gD
   split
   ·rfl
   ·have:=ih (ys++[r.getD 0 0]) (r.drop 1)
    simp only [List.append_assoc,List.singleton_append] at this
    exact this
 rcases h with ⟨_,_,h⟩ | ⟨h,_⟩
 ·rw [h]
  have:=key 32 [] s.rest
  simp only [List.nil_append] at this
  exact this
 ·exact h
theorem wD {s:Rd'} {f:Nat→Y} (hf:∀ i,f i=rt.getD i 0) (h:Tk O s false (mT (n-k) acc A bd size (fun i=>rt.getD i 0))) (hs:size≤A.length):vM O n (k+1) (acc++[⟨bd,A.take size,f⟩]) (A.drop size) s.rest s.bad:=by
 obtain ⟨h1,h2⟩:=aCU hf h
 by_cases c:s.bad=0
 ·exact .inl ⟨c,h1 ⟨c,hs⟩⟩
 ·exact .inr ⟨c,h2 (fun q=>c q.1)⟩
theorem aNu {z:Int} {bs:List ByteArray} {zs:List Nat} {ds:List Dg} (h:vM O n k acc A R e) (hk:¬ (k≤n∧e=0)) (hk2:k≤n+1) (hl:acc.length=k) (hb:bs=(acc.take n).map (fun x=>aN x.bound)) (hz:zs=acc.map (·.bytes.length)) (hd:ds=acc.map (·.leaf)) (hA:z=(A.length:Int)) :
  aAX O bs zs ds ((pA R e == 0)&&(z == 0)):=by
 rcases h with ⟨h1,h2⟩ | ⟨h1,h2⟩
 ·have hkn:k=n+1:=by
   have:¬ k≤n:=fun q=>hk ⟨q,h1⟩
   omega
  rw [hkn,Nat.sub_self] at h2
  subst h1
  by_cases q:R=[]
  ·subst q
   by_cases q2:A=[]
   ·subst q2
    refine .inl ⟨?_,acc,by rw [h2]; exact aDy,by omega,?_,hz,hd⟩
    ·rw [hA]; rfl
    rw [hb,hl,hkn]; rfl
   refine .inr ⟨?_,by rw [h2]; exact aBS (fun q=>q2 q.2)⟩
   have:¬ z=0:=fun q=>q2 (List.eq_nil_of_length_eq_zero (by omega))
   rw [Bool.and_eq_false_iff]; exact .inr (beq_eq_false_iff_ne.2 this)
  refine .inr ⟨?_,by rw [h2]; exact aBS (fun q2=>q q2.1)⟩
  rw [aGH q]; rfl
 refine .inr ⟨?_,h2⟩
 have:pA R e=e:=by unfold pA; rw [if_neg (fun q=>h1 q.1)]
 rw [this,Bool.and_eq_false_iff]; exact .inl (beq_eq_false_iff_ne.2 h1)
end
def aCE (o:Option (List RowT×List Y)) (qs:List (List Y)) (bs:List ByteArray) (zs:List Nat) (ds:List Dg) (er:Int):Prop :=
 (er=0∧∃ rows ix,o=some (rows,ix)∧2≤rows.length∧qs=rows.map (·.bytes)++[ix]∧bs=(rows.take (rows.length-1)).map (fun x=>aN x.bound)∧zs=rows.map (·.bytes.length)∧ds=rows.map (·.leaf))∨(er=170∧o=none∧qs=[])
def WhR (o:Option (List Y)) (L:List Y) (ok:Bool):Prop:=(ok=true∧o=some L)∨(ok=false∧o=none∧L=[])
section
variable {root:Nat→Y} {hd:Hd} {m:Meta} {b ix y L:List Y} {rows:List RowT} {x:RowT} {qs:List (Sh×List Y)} {p:Sh×List Y} {i k n:Nat} {d:Dg} {ds:List Dg} {l acc:List Ent} {f e:Int} {ok is:Bool} {o:Option (List Y)} {X:Option (List Ent)} {user:ByteArray}
theorem WhR.len (h:WhR (dP root hd x i) L ok):L.length≤x.bytes.length:=by
 rcases h with ⟨_,h⟩ | ⟨_,_,rfl⟩
 ·exact uY h
 ·exact Nat.zero_le _
theorem aSb (c:¬ yl 32 (dH x.bytes)=yl 32 x.leaf):WhR (dP root hd x i) [] false:=.inr ⟨rfl,by unfold dP; rw [if_neg c],rfl⟩
theorem aSc (c:yl 32 (dH x.bytes)=yl 32 x.leaf) (h:OpenR (gX root hd i x.bytes) L e):WhR (dP root hd x i) L (e == 0):=by
 unfold dP; rw [if_pos c]
 rcases h with ⟨h1,h2⟩ | ⟨h1,h2,h3⟩
 ·exact .inl ⟨by rw [h2]; rfl,h1⟩
 ·exact .inr ⟨by rw [h3]; rfl,h1,h2⟩
theorem aHo (hq:qs.map (·.2)=rows.map (·.bytes)++[ix]) (hx:rows[i]? = some x) (hp:qs[i]? = some p):p.2=x.bytes:=by
 have h:=congrArg (fun z=>z[i]?) hq
 have hi:=(List.getElem?_eq_some_iff.1 hx).1
 simp only [List.getElem?_map,hp,Option.map_some] at h
 rw [List.getElem?_append_left (by rw [List.length_map]; exact hi),List.getElem?_map,hx] at h
 exact Option.some.inj h
theorem aG9 (hd':ds=rows.map (·.leaf)) (hx:rows[i]? = some x) (h:ds[i]? = some d):d=x.leaf:=by
 rw [hd',List.getElem?_map,hx] at h
 exact (Option.some.inj h).symm
theorem aIV (hx:rows[i]? = some x):rows.getD i iD=x:=by rw [List.getD_eq_getElem?_getD,hx]; rfl
theorem aGK (hx:rows[i]? = some x) (h:WhR (dP root hd x (2+i)) y ok) (hr:(l,f)=gL y):gV root hd rows i=if (ok&&(f == 0))=true then some l else none:=by
 unfold gV
 rw [aIV hx]
 rcases h with ⟨h1,h2⟩ | ⟨h1,h2,_⟩
 ·rw [h2,h1,Option.bind_some,←hr]
  by_cases q:f=0
  ·rw [if_pos q,if_pos (by rw [q]; rfl)]
  ·rw [if_neg q,if_neg (by simpa using q)]
 ·rw [h2,h1]; rfl
theorem aP3 (hr:(l,f)=gL y):l.length≤y.length:=by
 unfold gL at hr
 split at hr
 ·rename_i l' hp
  have:gL y=(l',0):=by unfold gL; rw [hp]
  simp only [Prod.mk.injEq] at hr
  rw [hr.1]; exact aDl this
 ·simp only [Prod.mk.injEq] at hr
  rw [hr.1]; exact Nat.zero_le _
theorem aGc:∀ {l:List RowT} {i:Nat},(∀ j x,j<i→l[j]? = some x→lt (aN x.bound) user=true)→i≤l.length→(∀ x,l[i]? = some x→lt (aN x.bound) user=false)→gH user l=i
 | [],i,_,h,_=>by simp at h; subst h; rfl
 | a :: l,0,_,_,h=>by
  unfold gH
  rw [if_neg (by rw [h a rfl]; simp)]
 | a :: l,i+1,h1,h2,h3=>by
  unfold gH
  rw [if_pos (h1 0 a (by omega) rfl),aGc (l:=l) (i:=i) (fun j x hj hx=>h1 (j+1) x (by omega) hx) (by simpa using h2) (fun x hx=>h3 x hx)]
theorem aNV {l':List RowT} {bs:List ByteArray} (hb:bs=l'.map (fun x:RowT=>aN x.bound)) (h1:∀ j s,j<i→bs[j]? = some s→lt s user=true) (h2:i≤bs.length) (h3:∀ s,bs[i]? = some s→lt s user=false):gH user l'=i:=by
 subst hb
 rw [List.length_map] at h2
 exact aGc (fun j x hj hx=>h1 j _ hj (by rw [List.getElem?_map,hx]; rfl)) h2 (fun x hx=>h3 _ (by rw [List.getElem?_map,hx]; rfl))
theorem aMN {bs:List ByteArray} {s:ByteArray} (h:∀ j s,j<i→bs[j]? = some s→lt s user=true) (hx:bs[i]? = some s) (c:lt s user=true):∀ j s,j<i+1→bs[j]? = some s→lt s user=true:=fun j t hj ht=>by
 by_cases q:j=i
 ·subst q; rw [hx] at ht; cases ht; exact c
 ·exact h j t (by omega) ht
end
section
variable {root:Nat→Y} {m:Meta} {xs y A ix:List Y} {h:Hd} {e:Int} {rows:List RowT} {bs:List ByteArray} {zs:List Nat} {ds:List Dg} {ok:Bool} {x:RowT} {k q z:Nat} {o:Option (List RowT×List Y)} {qs:List (List Y)} {er:Int}
theorem aH6:((((xs.length:Int) != m.size)||(e != 0)) || !decide (h=bI m)||decide ((xs.length:Int)<38)) = !((((xs.length:Int) == m.size)&&(e == 0))&&decide (h=bI m)&&decide ((xs.length:Int)≥38)):=by
 have h1:decide ((xs.length:Int)<38) = !decide ((xs.length:Int)≥38):=by
  by_cases q:(xs.length:Int)≥38
  ·rw [decide_eq_true q,decide_eq_false (by omega)]; rfl
  ·rw [decide_eq_false q,decide_eq_true (by omega)]; rfl
 rw [h1,bne,bne]
 cases ((xs.length:Int) == m.size)<;>cases (e == 0)<;>cases decide (h=bI m)<;>cases decide ((xs.length:Int)≥38)<;>rfl
theorem aPx (hT:hH xs=(h,e)) (c:((((xs.length:Int) != m.size)||(e != 0)) || !decide (h=bI m)||decide ((xs.length:Int)<38))=true):dZ root m xs=none:=by
 rw [aH6,Bool.not_eq_true'] at c
 exact aFS hT c
theorem aPz (c:((((xs.length:Int) != m.size)||(e != 0)) || !decide (h=bI m)||decide ((xs.length:Int)<38))=false):(e=0∧h=bI m)∧(xs.length:Int)=m.size∧38≤xs.length:=by
 rw [aH6,Bool.not_eq_false'] at c
 exact aFX c
theorem aQK (hl:38≤xs.length) (hk:k≤xs.length-38) (e:y=(xs.drop (xs.length-8-k)).take (xs.length-8-(xs.length-8-k))):y=(mQ xs).drop (xs.length-38-k):=by
 rw [e]; unfold mQ
 rw [List.drop_take,List.drop_drop]
 congr 1
 ·omega
 ·congr 1; omega
theorem aPy (hB:dZ root m xs=(gX root (bI m) 0 ix).bind fun y=>((cU fun n r=>if 0<n then cT (n+1) [] A r else none) y).bind (lH m ix)) (ho:gX root (bI m) 0 ix=some y) (hI:aAX ((cU fun n r=>if 0<n then cT (n+1) [] A r else none) y) bs zs ds ok) (hw:m.wf)
  (c:(!ok || !decide (yl 32 (dL ([]++ds++[dH ix]))=yl 32 (fun i=>BitVec.ofInt 8 (m.root i))))=true):dZ root m xs=none:=by
 rw [hB,ho,Option.bind_some]
 rcases hI with ⟨h1,rows,h2,_,_,_,h5⟩ | ⟨_,h2⟩
 ·rw [h2,Option.bind_some,lH,if_neg]
  intro q
  rw [h1,Bool.not_true,Bool.false_or,Bool.not_eq_true'] at c
  refine of_decide_eq_false c (aDs hw ?_)
  rw [h5,List.nil_append]; exact q
 rw [h2]; rfl
theorem aP0 (hB:dZ root m xs=(gX root (bI m) 0 ix).bind fun y=>((cU fun n r=>if 0<n then cT (n+1) [] A r else none) y).bind (lH m ix)) (ho:gX root (bI m) 0 ix=some y) (hI:aAX ((cU fun n r=>if 0<n then cT (n+1) [] A r else none) y) bs zs ds ok) (hw:m.wf)
  (c:(!ok || !decide (yl 32 (dL ([]++ds++[dH ix]))=yl 32 (fun i=>BitVec.ofInt 8 (m.root i))))=false):∃ rows,dZ root m xs=some (rows,ix)∧bs=(rows.take (rows.length-1)).map (fun x=>aN x.bound)∧zs=rows.map (·.bytes.length)∧ds=rows.map (·.leaf)∧(rows.map (·.bytes)).flatten=A:=by
 rw [Bool.or_eq_false_iff,Bool.not_eq_false',Bool.not_eq_false'] at c
 rcases hI with ⟨_,rows,h2,_,h3,h4,h5⟩ | ⟨h1,_⟩
 ·refine ⟨rows,?_,h3,h4,h5,?_⟩
  ·rw [hB,ho,Option.bind_some,h2,Option.bind_some,lH,if_pos]
   have:=aIO hw (of_decide_eq_true c.2)
   rw [h5,List.nil_append] at this; exact this
  obtain ⟨n,r,_,_,h6⟩:=oI h2
  split at h6
  ·have:=aDv h6
   simpa using this
  cases h6
 rw [h1] at c; cases c.1
theorem aO4 (hF:(rows.map (·.bytes)).flatten=A) (hA:A=(xs.drop 30).take q) (hl:30+q≤xs.length) (hx:rows[k]? = some x) :
  (xs.drop (30+((rows.take k).map (·.bytes)).flatten.length)).take x.bytes.length=x.bytes∧30+((rows.take k).map (·.bytes)).flatten.length+x.bytes.length≤xs.length:=by
 obtain ⟨hk,hx'⟩:=List.getElem?_eq_some_iff.1 hx
 have e0:rows=rows.take k++x :: rows.drop (k+1):=by
  conv=>lhs; rw [← List.take_append_drop k rows,List.drop_eq_getElem_cons hk,hx']
 have e1:(xs.drop 30).take q=((rows.take k).map (·.bytes)).flatten++(x.bytes++((rows.drop (k+1)).map (·.bytes)).flatten):=by
  rw [← hA,←hF]
  conv=>lhs; rw [e0]
  rw [List.map_append,List.flatten_append,List.map_cons,List.flatten_cons]
 generalize ((rows.take k).map (·.bytes)).flatten=P at e1 ⊢
 generalize ((rows.drop (k+1)).map (·.bytes)).flatten=R at e1
 have e2:=congrArg List.length e1
 rw [List.length_take,List.length_drop,List.length_append,List.length_append] at e2
 have e3:(xs.drop (30+P.length)).take (q-P.length)=x.bytes++R:=by
  have:=congrArg (List.drop P.length) e1
  rw [List.drop_left,List.drop_take,List.drop_drop] at this
  exact this
 refine ⟨?_,by omega⟩
 have:=congrArg (List.take x.bytes.length) e3
 rw [List.take_left,List.take_take,Nat.min_eq_left (by omega)] at this
 exact this
theorem aO5 {P:List Y} (hP:P=((rows.take k).map (·.bytes)).flatten) (hF:(rows.map (·.bytes)).flatten=A) (hA:A=(xs.drop 30).take q) (hl:30+q≤xs.length) (hx:rows[k]? = some x) :
  (xs.drop (30+P.length)).take x.bytes.length=x.bytes∧30+P.length+x.bytes.length≤xs.length∧P++x.bytes=((rows.take (k+1)).map (·.bytes)).flatten:=by
 have:=aO4 hF hA hl hx
 rw [← hP] at this
 refine ⟨this.1,this.2,?_⟩
 rw [hP,List.take_add_one,hx]
 simp
theorem aJs (hz:zs=rows.map (·.bytes.length)) (hx:rows[k]? = some x) (h:zs[k]? = some z):z=x.bytes.length:=by
 rw [hz,List.getElem?_map,hx] at h
 exact (Option.some.inj h).symm
theorem aPJ (h:aCE o qs bs zs ds er) (he:er=0):∃ rows ix,o=some (rows,ix)∧2≤rows.length∧qs=rows.map (·.bytes)++[ix]∧bs=(rows.take (rows.length-1)).map (fun x=>aN x.bound)∧zs=rows.map (·.bytes.length)∧ds=rows.map (·.leaf):=by
 rcases h with ⟨_,h⟩ | ⟨h,_⟩
 ·exact h
 ·omega
theorem aPH (h:aCE o qs bs zs ds er) (he:¬ er=0):er=170∧o=none∧qs=[]:=by
 rcases h with ⟨h,_⟩ | h
 ·exact absurd h he
 ·exact h
theorem aIW:∀ {l:List RowT} {x:RowT},x∈l→x.bytes.length≤((l.map (·.bytes)).flatten).length
 | a :: l,x,h=>by
  rw [List.map_cons,List.flatten_cons,List.length_append]
  rcases List.mem_cons.1 h with rfl | h
  ·omega
  ·have:=aIW h; omega
theorem aPI (hB:dZ root m xs=some (rows,ix)):∀ x∈rows,x.bytes.length≤xs.length:=fun x hx=>by
 have b:=aCQ hB
 obtain ⟨y,_,hp⟩:=b.opn
 obtain ⟨n,r,_,_,hp⟩:=oI hp
 split at hp
 ·have h1:=congrArg List.length (aDv hp)
  simp only [List.map_nil,List.flatten_nil,List.nil_append,List.length_take,aBN b.long] at h1
  have h2:=aIW hx
  omega
 ·cases hp
end
section
variable {m:Meta} {acc:List Ent} {ok:Bool} {X:Option (List Ent)}
end
theorem aQA {y:List Y} {l:List Ent} (h:gL y=(l,0)):∀ e∈l,bV e=true:=by
 unfold gL at h
 split at h
 ·rename_i l' hp
  simp only [Prod.mk.injEq,and_true] at h
  subst h
  obtain ⟨a,r,_,_,hp⟩:=oI hp
  obtain ⟨n,r2,_,_,hp⟩:=oI hp
  split at hp
  ·cases he:gK n [] [] r2 with
   | none=>rw [he] at hp; cases hp
   | some l2 =>
    rw [he,Option.bind_some] at hp
    split at hp
    ·rename_i hb
     simp only [Option.some.injEq] at hp
     subst hp
     intro e hm
     cases q:bV e with
     | true=>rfl
     | false =>
      rw [aAg (.inr (.inr (.inr ⟨e,hm,q⟩)))] at hb
      simp only [Prod.mk.injEq] at hb
      exact absurd hb.2 (by decide)
    ·cases hp
  ·cases hp
 ·simp only [Prod.mk.injEq] at h; exact absurd h.2 (by decide)
section
variable {root:Nat→Y} {hd:Hd} {m:Meta} {b:List Y} {rows:List RowT} {i:Nat} {l:List Ent} {e:Ent} {user:ByteArray} {seq:BitVec 64}
theorem aNF (h:gV root hd rows i=some l):∀ e∈l,bV e=true:=by
 obtain ⟨y,_,h2⟩:=aAq h
 exact aQA h2
theorem aGj:∀ (n i:Nat) (e:Ent),fP root hd rows user seq n i=some (some e)→bV e=true
 | 0,i,e,h=>by rw [fP] at h; cases h
 | n+1,i,e,h=>by
  rw [fP] at h
  cases hl:gV root hd rows i with
  | none=>rw [hl] at h; cases h
  | some x =>
   rw [hl,Option.bind_some] at h
   cases hf:fU x user seq with
   | none=>rw [hf] at h; exact aGj n (i+1) e h
   | some z =>
    rw [hf] at h
    simp only at h
    split at h
    ·cases h; exact aNF hl _ (by unfold fU at hf; exact List.mem_of_find?_eq_some hf)
    ·cases h
theorem aNa (h:gB root m b user seq=some (some e)):bV e=true:=by
 obtain ⟨rows,ix,f,_,_,h1,h2⟩:=aGk h
 cases hm:jE f user with
 | false=>have:=h1 hm; cases this
 | true=>exact aGj _ _ _ (h2 hm)
theorem aQJ (h:bV e=true):e.user.size≤1000000∧e.value.size≤1000000:=by
 simp only [bV,Bool.and_eq_true,decide_eq_true_eq] at h
 omega
theorem aAw {Q:Option (Option Ent)} (hQ:Q=gB root m b user seq):((Q.getD none).getD Ent.zero).user.size≤1000000∧((Q.getD none).getD Ent.zero).value.size≤1000000:=by
 cases Q with
 | none=>exact ⟨Nat.zero_le _,Nat.zero_le _⟩
 | some q=>cases q with
  | none=>exact ⟨Nat.zero_le _,Nat.zero_le _⟩
  | some e=>exact aQJ (aNa hQ.symm)
end
section
variable {o:Option (List Y)} {L:List Y} {ok:Bool} {root:Nat→Y} {hd:Hd} {rows:List RowT} {x:RowT} {k i:Nat} {y:List Y} {l:List Ent} {f:Int} {fo:Option Ent} {user:ByteArray} {bs:List ByteArray}
theorem aSa (h:WhR o L ok) (c:ok=false):o=none:=by
 rcases h with ⟨h,_⟩ | ⟨_,h,_⟩
 ·rw [h] at c; cases c
 ·exact h
theorem aJn (h:WhR o L ok) (c:ok=true):o=some L:=by
 rcases h with ⟨_,h⟩ | ⟨h,_⟩
 ·exact h
 ·rw [h] at c; cases c
theorem aNA (hx:rows[i]? = some x) (h:WhR (dP root hd x (2+i)) y ok) (hr:(l,f)=gL y) (c:(!ok||(f != 0))=true):gV root hd rows i=none:=by
 rw [aGK hx h hr,if_neg]
 intro q
 rw [Bool.and_eq_true,beq_iff_eq] at q
 rw [q.1,q.2] at c
 exact absurd c (by decide)
theorem aNB (hx:rows[i]? = some x) (h:WhR (dP root hd x (2+i)) y ok) (hr:(l,f)=gL y) (c:(!ok||(f != 0))=false):gV root hd rows i=some l:=by
 rw [aGK hx h hr,if_pos]
 rw [Bool.or_eq_false_iff,Bool.not_eq_false',bne_eq_false_iff_eq] at c
 rw [c.1,c.2]; rfl
theorem aNT (c:(fo.isSome&&((fo.getD Ent.zero).user.toList == user.toList))=true):∃ e,fo=some e∧e.user=user:=by
 cases fo with
 | none=>cases c
 | some e=>exact ⟨e,rfl,toList_inj (by simpa using c)⟩
theorem aNS (c:(fo.isSome&&((fo.getD Ent.zero).user.toList == user.toList))=false) (h:fo.isSome=true):∃ e,fo=some e∧¬ e.user=user:=by
 cases fo with
 | none=>cases h
 | some e =>
  refine ⟨e,rfl,fun q=>?_⟩
  rw [Option.getD_some,q] at c
  simp at c
theorem aNR (h:fo.isSome=false):fo=none:=by
 cases fo with
 | none=>rfl
 | some e=>cases h
theorem aMO (c:(decide ((i:Int)<(bs.length:Int))&&lt (bs.getD i eC) user)=false):∀ s,bs[i]? = some s→lt s user=false:=fun s hs=>by
 have hi:=(List.getElem?_eq_some_iff.1 hs).1
 rw [decide_eq_true (by omega),Bool.true_and,List.getD_eq_getElem?_getD,hs] at c
 exact c
end
section
variable {a b:List (Sh×List Y)} {k:Nat} {p q:Sh×List Y}
end
section
variable {mc:Md} {P:Program} {n:Fm} {l:List Oper} {K:aK→PM→aG→Prop} {i:Nat} {σ:List Nat} {ρ:aK} {G:PM} {μ:aG}
variable {d t:Nat} {p:String} {af:Array Edge}
theorem nI {f:FuncId} {xs:List Operand} {tys:Array TypeId} {vs:List Value} {post:PM→aG→Value→Prop} {die:List PanicEntry→Prop} {dd:Option Nat} (ho:nth l i=some ⟨dd,.call { callee:=.value (.func f),args:=xs.toArray,argTypes:=tys },t,p,af,none⟩) (hf:aT P f=true)
  (hv:∀ a,Ag n ρ a→true=true→xs.map a.eval=vs) (hk:Cp P f vs.toArray G [] post die) (hx:∀ ch G' ρ' μ',PM.le G G'→die ch→(∀ i,cJ ρ' i=cJ ρ i)→μ'.Perm μ→n.die ch ρ' G' μ')
  (h:∀ v G' μ',PM.le G G'→post G' μ' v→Wo false mc P n l K σ (cR ρ dd true v) G' (μ'++μ)):Wo false mc P n l K (i :: σ) ρ G μ :=
 .callp (μ₁:=[]) rfl ho .no (.refl _) (fun a w ha=>tF hf (hv a ha rfl) _ _ _ _ _ w) hk hx h
theorem nJ {f:FuncId} {xs:List Operand} {tys:Array TypeId} {vs:List Value} {μ₁ μ₂:aG} {post:PM→aG→Value→Prop} {die:List PanicEntry→Prop} {dd:Option Nat} (ho:nth l i=some ⟨dd,.call { callee:=.value (.func f),args:=xs.toArray,argTypes:=tys },t,p,af,none⟩) (hf:aT P f=true)
  (hv:∀ a,Ag n ρ a→true=true→xs.map a.eval=vs) (hp:μ.Perm (μ₁++μ₂)) (hk:Cp P f vs.toArray G μ₁ post die) (hx:∀ ch G' ρ' μ',PM.le G G'→die ch→(∀ i,cJ ρ' i=cJ ρ i)→μ'.Perm μ₂→n.die ch ρ' G' μ')
  (h:∀ v G' μ',PM.le G G'→post G' μ' v→Wo false mc P n l K σ (cR ρ dd true v) G' (μ'++μ₂)):Wo false mc P n l K (i :: σ) ρ G μ :=
 .callp rfl ho .no hp (fun a w ha=>tF hf (hv a ha rfl) _ _ _ _ _ w) hk hx h
theorem pnc {x:Operand} {T:TypeId} {v:Value} {dd:Option Nat} (ho:nth l i=some ⟨dd,.panic x,t,p,af,none⟩) (hx:ev ρ x=some (true,.iface T v)) (hd:∀ ρ' μ',(∀ i,cJ ρ' i=cJ ρ i)→μ'.Perm μ→n.die [{ v:=.iface T v,recovered:=false }] ρ' G μ'):Wo false mc P n l K (i :: σ) ρ G μ :=
 .pan rfl ho .no (fun a w ha=>by simp [execOp,ha.eval hx rfl,Instr.panic,goPanic]) hd
end
theorem aSK {P:Program} {o:Oper} {a:Act} {next next':Act→World→Prop} {Q Q':Exit→Act→World→Prop} (h1:∀ a w,next a w→next' a w) (h2:∀ ch a w,Q (.panic ch) a w→Q' (.panic ch) a w) (h3:LetsOut Q→LetsOut Q') :
  ∀ r,o.upon P a next Q r→o.upon P a next' Q' r:=by
 intro r h
 unfold Oper.upon at h ⊢
 split at h
 ·exact h1 _ _ h
 ·exact h1 _ _ h
 ·exact h1 _ _ h
 ·refine h.mono fun e w' he=>?_
  cases e with
  | returned v=>exact h1 _ _ he
  | panicked ch=>exact h2 _ _ _ he
  | outgrown=>exact h3 he
 ·exact h.mono fun v w' he=>h1 _ _ he
 ·exact h2 _ _ _ h
 exact h.elim
theorem aBn {P:Program} {ops:Array Oper} {Q:Exit→Act→World→Prop} {σ2:List Nat}:∀ {σ1:List Nat} {a:Act} {w:World},wpOps P ops (Exit.then (wpOps P ops Q σ2) Q) σ1 a w→wpOps P ops Q (σ1++σ2) a w
 | [],a,w,h=>h
 | i :: σ1,a,w,h=>by
  simp only [wpOps,List.cons_append] at h ⊢
  cases ho:ops[i]? with
  | none=>simp only [ho] at h; exact aBn h
  | some o =>
   simp only [ho] at h
   dsimp only
   split at h
   ·rename_i hw
    rw [if_pos hw]
    rcases h with h | ⟨h,hl⟩
    ·exact .inl (aSK (fun a w h=>aBn h) (fun ch a w h=>h) (fun h=>h) _ h)
    ·exact .inr ⟨h,hl⟩
   ·rename_i hw
    rw [if_neg hw]; exact aBn h
def Cx.dfr (X:Cx) (d:Deferred) (die1:List PanicEntry→aK→PM→aG→Prop)
  (ok1:∀ ch ρ G μ a w,die1 ch ρ G μ→Ag ⟨X.n.n,[d],die1⟩ ρ a→Tr X.G0 X.K0 X.w0 G μ w→Leaves X.P X.fn a.tmps (RR X.post X.die X.G0 X.K0 X.w0) a.defers (.panicking ch) w):Cx :=
 ⟨X.P,X.fn,⟨X.n.n,[d],die1⟩,X.G0,X.K0,X.w0,X.post,X.die,ok1⟩
theorem aAY {X Y:Cx} (h1:X.P=Y.P) (h2:X.fn=Y.fn) (h3:X.R=Y.R):∀ k,hY X k=hY Y k
 | []=>by simp only [hY,h1,h2,h3]
 | .code c :: k=>by simp only [hY,aAY h1 h2 h3 k,h1]
 | .blk id :: k=>by simp only [hY,aAY h1 h2 h3 k]
 | .lp I :: k=>by simp only [hY,aAY h1 h2 h3 k]
structure DefOp (P:Program) (n:Fm) (l:List Oper) (j:Nat) (d:Deferred) (ρ:aK):Prop where
 of:∃ o,nth l j=some o∧o.guard=none∧o.dst=none∧∀ a w,Ag n ρ a→(execOp a.eval o).run P w=.ok (.defer d) w
theorem Wk.defer {X:Cx} {k:List KI} {ρ:aK} {G:PM} {μ:aG} {id:Nat} {l:List Oper} (σ1:List Nat) (j:Nat) (d:Deferred) (die1:List PanicEntry→aK→PM→aG→Prop)
  (ok1:∀ ch ρ G μ a w,die1 ch ρ G μ→Ag ⟨X.n.n,[d],die1⟩ ρ a→Tr X.G0 X.K0 X.w0 G μ w→Leaves X.P X.fn a.tmps (RR X.post X.die X.G0 X.K0 X.w0) a.defers (.panicking ch) w)
  (hσ:List.range l.length=σ1++[j]) (hds:jO X.n l=true) (h0:X.n.ds=[])
  (h:Wo false ⟨false,false⟩ X.P X.n l (fun ρ G μ=>DefOp X.P X.n l j d ρ∧We (X.dfr d die1 ok1) .normal k ρ G μ) σ1 ρ G μ):Wk X (.region id l.toArray false) k ρ G μ:=by
 refine ⟨fun a w ha ht=>wp_region ?_⟩
 have hr:List.range l.toArray.size=σ1++[j]:=by simpa using hσ
 rw [hr]
 refine aBn ?_
 refine Wo.run (Q:=Exit.then (wpOps X.P l.toArray (hY X k) [j]) (hY X k)) (aCv hds) (fun _=>tV X k) (fun ρ G μ hK a w ha ht=>?_) _ _ _ _ a w h ha ht
 obtain ⟨⟨o,ho,hg,hdst,hrun⟩,hwe⟩:=hK
 show wpOps X.P l.toArray (hY X k) [j] a w
 simp only [wpOps,kN,ho]
 rw [if_pos (by simp [Region.wanted,hg])]
 refine .inl ?_
 unfold Oper.wp
 rw [hrun a w ha]
 simp only [Oper.upon,wpOps,hdst,Act.put]
 have:=hwe.out { a with defers:=d :: a.defers } w ⟨ha.size,by show d :: a.defers=[d]; rw [ha.defers,h0],ha.get⟩ ht
 rwa [aAY (X:=X.dfr d die1 ok1) (Y:=X) rfl rfl rfl k] at this
theorem We.finD {X:Cx} {ρ:aK} {G:PM} {μ:aG} (h:∀ a w,Ag X.n ρ a→Tr X.G0 X.K0 X.w0 G μ w→Leaves X.P X.fn a.tmps X.R X.n.ds .returning w):We X .ret [] ρ G μ :=
 ⟨fun a w ha ht=>by
  show Leaves X.P X.fn a.tmps X.R a.defers .returning w
  rw [ha.defers]; exact h a w ha ht⟩
def ifT (P:Program) (T:TypeId):Bool:=match P.underlying T with | some (.interface _)=>true | _=>false
theorem aG0 {P:Program} {T:TypeId} (h:ifT P T=true):∃ q,P.underlying T=some (.interface q):=by
 unfold ifT at h
 split at h
 ·rename_i q hq; exact ⟨q,hq⟩
 ·cases h
def sT (f:FuncId) (args:List Value):Deferred:={ target:=.fn (.func f) #[],args:=args.toArray }
theorem sM {X:Cx} {ρ:aK} {G:PM} {μ μ':aG} {vs:List Value} {rs:List ResultVar} {f:FuncId} {args:List Value} (hf:aT X.P f=true) (hds:X.n.ds=[sT f args])
  (hq:∀ w,CallsD X.P f args.toArray .returning w (fun e u' w'=>(∃ v,e=.returned v)∧u'=.returning∧w'=w)) (hr:X.fn.results=rs.toArray) (h:Rs X.P ρ G μ rs vs) (hM:MSub μ' μ) (hp:X.post G μ' (jQ vs)):We X .ret [] ρ G μ :=
 We.finD fun a w ha ht=>by
  rw [hds]
  refine leaves_cons (by simp) (f:=f) (args:=args.toArray) (by simp [invoke,aBU hf]) ((hq w).mono ?_)
  rintro e u' w' ⟨⟨v,rfl⟩,rfl,rfl⟩
  exact ⟨_,aDm (by rw [hr]; exact h) ha ht.sat,.inl ⟨_,G,μ',rfl,hM.tr ht,hp⟩⟩
theorem aSV {X:Cx} {k:List KI} {ρ:aK} {G:PM} {μ:aG} {id:Nat} {l:List Oper} {f:FuncId} {x:Operand} {tys:Array TypeId} {v:Value} {t:Nat} {p:String} {af:Array Edge}
  (hl:l=[⟨none,.defer { callee:=.value (.func f),args:=#[x],argTypes:=tys },t,p,af,none⟩]) (h0:X.n.ds=[]) (hx:ev ρ x=some (true,v))
  (h:We (X.dfr (sT f [v]) (fun _ _ _ _=>False) (fun _ _ _ _ _ _ hq=>hq.elim)) .normal k ρ G μ):Wk X (.region id l.toArray false) k ρ G μ:=by
 subst hl
 refine Wk.defer [] 0 (sT f [v]) (fun _ _ _ _=>False) (fun _ _ _ _ _ _ hq=>hq.elim) rfl rfl h0 (.nil ⟨⟨_,rfl,rfl,rfl,fun a w ha=>?_⟩,h⟩)
 have hv:a.eval x=v:=ha.eval hx rfl
 have hfn:a.eval (.func f)=.func (.func f) #[] #[]:=rfl
 simp [execOp,resolve,Deferred.ofValue,hv,hfn,sT]
theorem Rs.congr {P:Program} {ρ ρ':aK} {G:PM} {μ:aG} {rs:List ResultVar} {vs:List Value} (h:Rs P ρ G μ rs vs) (e:∀ i,cJ ρ' i=cJ ρ i):Rs P ρ' G μ rs vs:=by
 induction h with
 | nil=>exact .nil
 | tmp h _ ih=>exact .tmp ((e _).trans h) ih
 | cell h hw _ ih=>exact .cell ((e _).trans h) hw ih
def aAp (P:Program) (pn:List PanicEntry) (b T:Nat) (v0:Value) (D:Prop) (rs:List ResultVar) (vs:List Value):List PanicEntry→aK→PM→aG→Prop:=fun ch ρ G μ =>
 (ch=pn∧D)∧∃ x μ',μ.Perm (.blk b (cl [x] T) :: μ')∧Rs P ρ G (.blk b (cl [v0] T) :: μ') rs vs
theorem qB {P:Program} {pn:List PanicEntry} {b T:Nat} {v0 x:Value} {D:Prop} {rs:List ResultVar} {vs:List Value} {ch:List PanicEntry} {ρ ρ':aK} {G:PM} {μ' μ₂ μ3:aG} (hd:ch=pn∧D) (he:∀ i,cJ ρ' i=cJ ρ i) (hm:μ'.Perm μ₂)
  (ht:MTake μ₂ (.blk b (cl [x] T)) μ3) (hR:Rs P ρ G (.blk b (cl [v0] T) :: μ3) rs vs):aAp P pn b T v0 D rs vs ch ρ' G μ' :=
 ⟨hd,x,μ3,hm.trans ht.perm,hR.congr he⟩
theorem aF6 {X:Cx} {f:FuncId} {b T:Nat} {pn pn':List PanicEntry} {v0:Value} {D:Prop} {rs:List ResultVar} {vs:List Value} (hf:aT X.P f=true) (hr:X.fn.results=rs.toArray)
  (hc:∀ w x,w.heap[b]? = some (cl [x] T)→CallsD X.P f #[.pointer (some ⟨b,0,none⟩)] (.panicking pn) w (fun e u' w'=>(∃ v,e=.returned v)∧u'=.panicking pn'∧w'=w.setRow b #[v0])) (hs:settle (.panicking pn')=.returning)
  (hp:D→∀ G',X.post G' [] (jQ vs)) :
  ∀ ch ρ G μ a w,aAp X.P pn b T v0 D rs vs ch ρ G μ→Ag ⟨X.n.n,[sT f [.pointer (some ⟨b,0,none⟩)]],aAp X.P pn b T v0 D rs vs⟩ ρ a→Tr X.G0 X.K0 X.w0 G μ w→Leaves X.P X.fn a.tmps (RR X.post X.die X.G0 X.K0 X.w0) a.defers (.panicking ch) w:=by
 rintro ch ρ G μ a w ⟨⟨rfl,hD⟩,x,μ',hm,hR⟩ ha ht
 rw [ha.defers]
 have ht':Tr X.G0 X.K0 X.w0 G ([.blk b (cl [x] T)]++μ') w:=ht.perm hm
 have hb:w.heap[b]? = some (cl [x] T):=ht'.sat.own _ (List.mem_append_left _ (List.mem_singleton.2 rfl))
 have ht2:=ht'.step (Tr.setRow (cs':=[v0]) ht'.sat.left)
 refine leaves_cons (by simp) (f:=f) (args:=#[.pointer (some ⟨b,0,none⟩)]) (by simp [invoke,aBU hf]) ((hc w x hb).mono ?_)
 rintro e u' w' ⟨⟨v,rfl⟩,rfl,rfl⟩
 show Leaves X.P X.fn a.tmps _ [] (settle (.panicking pn')) _
 rw [hs]
 exact ⟨_,aDm (by rw [hr]; exact hR) ha ht2.sat,.inl ⟨_,G,[],rfl,mN.tr ht2,hp hD G⟩⟩
theorem aSW {X:Cx} {k:List KI} {ρ:aK} {G:PM} {μ:aG} {id:Nat} {l:List Oper} {f:FuncId} {x:Operand} {tys:Array TypeId} {t:Nat} {p:String} {af:Array Edge} {b T:Nat} {pn pn':List PanicEntry} {v0:Value} (D:Prop) {rs:List ResultVar} (vs:List Value)
  (hl:l=[⟨none,.defer { callee:=.value (.func f),args:=#[x],argTypes:=tys },t,p,af,none⟩]) (h0:X.n.ds=[]) (hx:ev ρ x=some (true,.pointer (some ⟨b,0,none⟩)))
  (hf:aT X.P f=true) (hr:X.fn.results=rs.toArray)
  (hc:∀ w x,w.heap[b]? = some (cl [x] T)→CallsD X.P f #[.pointer (some ⟨b,0,none⟩)] (.panicking pn) w (fun e u' w'=>(∃ v,e=.returned v)∧u'=.panicking pn'∧w'=w.setRow b #[v0])) (hs:settle (.panicking pn')=.returning)
  (hp:D→∀ G',X.post G' [] (jQ vs))
  (h:We (X.dfr (sT f [.pointer (some ⟨b,0,none⟩)]) (aAp X.P pn b T v0 D rs vs) (aF6 hf hr hc hs hp)) .normal k ρ G μ):Wk X (.region id l.toArray false) k ρ G μ:=by
 subst hl
 refine Wk.defer [] 0 (sT f [.pointer (some ⟨b,0,none⟩)]) _ (aF6 hf hr hc hs hp) rfl rfl h0 (.nil ⟨⟨_,rfl,rfl,rfl,fun a w ha=>?_⟩,h⟩)
 have hv:a.eval x=.pointer (some ⟨b,0,none⟩):=ha.eval hx rfl
 have hfn:a.eval (.func f)=.func (.func f) #[] #[]:=rfl
 simp [execOp,resolve,Deferred.ofValue,hv,hfn,sT]
end Go.Tan
namespace Go.Proofs.YtbdnclpopappeaaGreatDoor
open Go.Tan Go.RowKit
theorem cI:oO Tryz.prog 9=true:=by kernel_rfl
theorem fF:dT Tryz.prog 24=some none:=by kernel_rfl
theorem bW:dT Tryz.prog 5=some none:=by kernel_rfl
theorem aV:Tryz.prog.follows .mixedOrders=true:=by kernel_rfl
theorem aH:cH Tryz.prog 34=some (5,1,1):=by kernel_rfl
theorem aX:(Tryz.prog.info? 5).bind (·.zero)=some (.int .u8 0):=by kernel_rfl
theorem mC:bsT Tryz.prog 34 9=true:=by kernel_rfl
theorem rE:iX Tryz.prog 26=some ([V 0#8,V 0#8,uv .u64 0#64,uv .u64 0#64,uv .u64 0#64]):=by kernel_rfl
theorem mD:dF Tryz.prog 26=some 5:=by kernel_rfl
theorem fG:dT Tryz.prog 26=some (some 5):=by kernel_rfl
theorem gE:cL Tryz.prog 47 0=some 0:=by kernel_rfl
theorem cE:dT Tryz.prog 9=some none:=by kernel_rfl
theorem mB:cL Tryz.prog 47 3=some 3:=by kernel_rfl
theorem pR:cL Tryz.prog 47 1=some 1:=by kernel_rfl
theorem xJ:cL Tryz.prog 47 2=some 2:=by kernel_rfl
theorem fE:cH Tryz.prog 31=some (47,4,48):=by kernel_rfl
theorem jS:(cH Tryz.prog 31).isSome=true:=by kernel_rfl
theorem cC:dT Tryz.prog 47=some (some 4):=by kernel_rfl
theorem aEy:aT Tryz.prog 60=true:=by kernel_rfl
theorem aEt:aT Tryz.prog 21=true:=by kernel_rfl
theorem xQ:iX Tryz.prog 47=some ([.string ByteArray.empty,.int .u64 0,.int .u8 0,.string ByteArray.empty]):=by kernel_rfl
theorem dD:dF Tryz.prog 47=some 4:=by kernel_rfl
theorem aKF:cL Tryz.prog 36 0=some 0:=by kernel_rfl
theorem aKG:cL Tryz.prog 36 1=some 1:=by kernel_rfl
theorem aKH:cL Tryz.prog 36 2=some 2:=by kernel_rfl
theorem aKI:cL Tryz.prog 36 3=some 3:=by kernel_rfl
theorem aJ5:gG Tryz.prog 26 [0,1,2,3,4]=some ([V 0#8,V 0#8,uv .u64 0#64,uv .u64 0#64,uv .u64 0#64],[(0,1),(1,1),(2,1),(3,1),(4,1)]):=by kernel_rfl
theorem aCx (e:Ent) (G:PM):Ct Tryz.prog 21 ([e.val]:List Value).toArray G [] (fun _ μ' u=>μ'=[]∧u=.bool (bV e)):=by
 refine Ct.of Tryz.func21 rfl Tryz.ntmps21 rfl fun w0 hs0=>?_
 refine .seq (bE rfl rfl ?_)
 refine bX rfl rfl rfl ?_; intro b1
 refine .g (fZ rfl gE rfl (lO rfl cE rfl .here (by first|exact aJ rfl|rfl) ?_))
 refine ls rfl .no cI (.u rfl) (cP rfl rfl rfl rfl (.g (cD rfl (fun c1=>?_) (fun c1=>?_))))
 ·have c1k:=c1
  try simp only [aC,aI,aD] at c1
  refine .g (tX rfl c1k ?_)
  refine .seq (aM rfl rfl (aS rfl rfl (.nc (.ret (aP Tryz.results21 (.tmp rfl .nil) ?_)))))
  exact ⟨rfl,congrArg Value.bool (eR1 c1).symm⟩
 have c1k:=c1
 try simp only [aC,aI,aD] at c1
 refine .g (fZ rfl mB rfl (lO rfl cE rfl .here (by first|exact aJ rfl|rfl) ?_))
 refine ls rfl .no cI (.u rfl) (cP rfl rfl rfl rfl (.g (cD rfl (fun c2=>?_) (fun c2=>?_))))
 ·have c2k:=c2
  try simp only [aC,aI,aD] at c2
  refine .g (tX rfl c2k ?_)
  refine .seq (aM rfl rfl (aS rfl rfl (.nc (.ret (aP Tryz.results21 (.tmp rfl .nil) ?_)))))
  exact ⟨rfl,congrArg Value.bool (eR2 c2).symm⟩
 have c2k:=c2
 try simp only [aC,aI,aD] at c2
 refine .g (fZ rfl pR rfl (lO rfl fF rfl .here (by first|exact aJ rfl|rfl) ?_))
 refine cP rfl rfl rfl rfl (.g (cD rfl (fun c3=>?_) (fun c3=>?_)))
 ·have c3k:=c3
  try simp only [aC,aI,aD] at c3
  refine .seq (aM rfl rfl (aS rfl rfl (.nc (.ret (aP Tryz.results21 (.tmp rfl .nil) ?_)))))
  exact ⟨rfl,congrArg Value.bool (yK c3).symm⟩
 have c3k:=c3
 try simp only [aC,aI,aD] at c3
 refine .g (fZ rfl xJ rfl (lO rfl bW rfl .here (by first|exact aJ rfl|rfl) ?_))
 refine cP rfl rfl rfl rfl (.g (cD rfl (fun c4=>?_) (fun c4=>?_)))
 ·have c4k:=c4
  try simp only [aC,aI,aD] at c4
  refine .g (fZ rfl mB rfl (lO rfl cE rfl .here (by first|exact aJ rfl|rfl) ?_))
  refine cs rfl .no (.u rfl) (.u rfl) rfl (aS rfl rfl (.nc (.ret (aP Tryz.results21 (.tmp rfl .nil) ?_))))
  exact ⟨rfl,congrArg Value.bool (eR4 c1 c2 c3 c4).symm⟩
 have c4k:=c4
 try simp only [aC,aI,aD] at c4
 refine .g (fZ rfl xJ rfl (lO rfl bW rfl .here (by first|exact aJ rfl|rfl) ?_))
 refine cP rfl rfl rfl rfl (aS rfl rfl (.nc (.ret (aP Tryz.results21 (.tmp rfl .nil) ?_))))
 exact ⟨rfl,congrArg Value.bool (eR5 c1 c2 c3 c4).symm⟩
theorem aL2 (a b:ByteArray) (G:PM) (ha:a.size≤1000000):Ct Tryz.prog 29 ([.string a,.string b]:List Value).toArray G [] (fun _ μ' u=>μ'=[]∧u=.string (aN (nF (yb a) (yb b)))):=by
 refine Ct.of Tryz.func29 rfl Tryz.ntmps29 rfl fun w0 hs0=>?_
 refine .g (ls rfl .no cI (.u rfl) (.p (ls rfl .no cI (.u rfl) (wK (a.size) (b.size) rfl .no (.u rfl) (.u rfl) (by omega) (by omega) ?_))))
 refine mV rfl rfl (.nc (.block ?_))
 refine bD (α:=Nat) (fun k=>[(11,true,.int .i64 (k:Int))]) (fun _=>[])
  (fun k Gl=>(k≤a.size∧k≤b.size)∧(∀ j,j<k→(yb a).getD j 0=(yb b).getD j 0)) (fun k=>a.size-k) 0 [(0,true,_),(1,true,_),(10,true,_)] []
  (aO rfl (aA rfl (aA rfl (aA rfl eZ))))
  mN ?_ ?_
 ·refine ⟨?_,?_⟩
  ·(try dsimp only)<;>(first|omega|rfl|assumption|(simp; done))
  (try dsimp only)<;>(exact fun j h=>absurd h (Nat.not_lt_zero _))
 intro k N0 Gl0 hN0 hGl0 hF0
 try dsimp only at hF0 hN0 ⊢
 obtain ⟨hk,hj⟩:=hF0
 refine .g (cP rfl rfl rfl rfl (.g (cD rfl (fun c1=>?_) (fun c1=>?_))))
 ·have c1k:=c1
  try simp only [aC,aD] at c1
  refine .g (bH (mc:=⟨false,false⟩) [0,1,2,3,4,5,6] aV (by kernel_rfl) ?_)
  refine .p (sI (k) rfl .no cI (.u rfl) (.u rfl) (by omega) (fun _=>by first|omega|(simp only [Bool.and_eq_true,decide_eq_true_eq] at hc; omega)) ?_)
  refine .p (sI (k) rfl .no cI (.u rfl) (.u rfl) (by omega) (fun _=>by first|omega|(simp only [Bool.and_eq_true,decide_eq_true_eq] at hc; omega)) ?_)
  refine cP rfl rfl rfl rfl (.g (cD rfl (fun c2=>?_) (fun c2=>?_)))
  ·have c2k:=c2
   try simp only [aC,aD] at c2
   refine .g (aW (((k+1):Nat):Int) rfl rfl rfl rfl ?_)
   refine .g (aZ (k+1) ?_ ?_ ?_ ?_ ?_)
   ·exact (aO rfl (aA rfl (aA rfl (aA rfl eZ))))
   ·exact mN
   ·first|omega|(dsimp only; omega)
   ·exact hGl0
   refine ⟨?_,?_⟩
   ·(try dsimp only)<;>(first|omega|rfl|assumption|(simp; done))
   (try dsimp only)<;>(exact aCc hj c2)
  have c2k:=c2
  try simp only [aC,aD] at c2
  refine .g (bH (mc:=⟨false,false⟩) [0,1,2,3,4,5,6,7,8,9,10,11,12,13,14,15,16] aV (by kernel_rfl) ?_)
  refine .p (sI (k) rfl .no cI (.u rfl) (.u rfl) (by omega) (fun _=>by first|omega|(simp only [Bool.and_eq_true,decide_eq_true_eq] at hc; omega)) ?_)
  refine .p (sI (k) rfl .no cI (.u rfl) (.u rfl) (by omega) (fun _=>by first|omega|(simp only [Bool.and_eq_true,decide_eq_true_eq] at hc; omega)) ?_)
  refine cP rfl rfl rfl rfl (mV rfl rfl (mv rfl (.t rfl rfl) (.u rfl) (mv rfl (.t rfl rfl) (.u rfl) (sI (k) rfl (.t rfl rfl) cI (.s rfl) (.s rfl) (fun hc=>by omega) (fun hc=>by first|omega|(simp only [Bool.and_eq_true,decide_eq_true_eq] at hc; omega)) ?_))))
  refine mv rfl (.t rfl rfl) (.u rfl) (mv rfl (.t rfl rfl) (.u rfl) (sI (k) rfl (.t rfl rfl) cI (.s rfl) (.s rfl) (fun hc=>by omega) (fun hc=>by first|omega|(simp only [Bool.and_eq_true,decide_eq_true_eq] at hc; omega)) ?_))
  refine bw (k:=.u8) rfl (.t rfl rfl) rfl (.s rfl) (.s rfl) rfl (cp rfl (.t rfl rfl) (.s rfl) (.u rfl) rfl (cG rfl .no (.u rfl) (.s rfl) (.g (cD rfl (fun c3=>?_) (fun c3=>?_)))))
  ·have c3k:=c3
   try simp only [aC,aD] at c3
   refine .seq (bH (mc:=⟨false,false⟩) [0,1,2,3,4,5,6,7,8,9,10] aV (by kernel_rfl) ?_)
   refine .p (sE (k) rfl .no cI (.u rfl) (.u rfl) (by omega) (by omega) ?_)
   refine .p (sI (k) rfl .no cI (.u rfl) (.u rfl) (by omega) (fun _=>by first|omega|(simp only [Bool.and_eq_true,decide_eq_true_eq] at hc; omega)) ?_)
   refine bw (k:=.u8) (b:=1#8) rfl .no rfl (.u rfl) (.u rfl) rfl ?_
   refine Go.Tan.b1 rfl aH aX (.u rfl) rfl rfl (by decide) ?_; intro b45
   refine sB rfl .no mC (.u rfl) (fun _=>(Sc.one .here)) ?_
   refine sP rfl .no (.u rfl) (.u rfl) (fun _=>aMS ha) ?_
   refine aS rfl rfl (.nc (.ret (aP Tryz.results29 (.tmp rfl .nil) ?_)))
   exact ⟨rfl,congrArg Value.string (aMT (by omega) hj c3)⟩
  have c3k:=c3
  try simp only [aC,aD] at c3
  refine .skip (.code (.exit (.xnot rfl (.xcode (.xlp (.xblk (.code (.seq (bE rfl rfl (mV rfl rfl (aS rfl rfl (.nc (.ret (aP Tryz.results29 (.tmp rfl .nil) ?_))))))))))))))
  exact ⟨rfl,congrArg Value.string (aMR (by omega) hj c2 c3k)⟩
 have c1k:=c1
 try simp only [aC,aD] at c1
 refine .exit (.xcode (.xlp (.xblk (.code (.seq (bE rfl rfl (mV rfl rfl (aS rfl rfl (.nc (.ret (aP Tryz.results29 (.tmp rfl .nil) ?_)))))))))))
 exact ⟨rfl,congrArg Value.string (aMQ hk (by omega) hj)⟩
theorem aDA (h:Sh) (l:List Ent) (G:PM) (hs:SlR G 4 Ent.cells h l) (hl:l.length≤100000000) (f:Nat) (hf:aT Tryz.prog f=true) (vc:List Value) (p:Ent→Bool) (hc:∀ G',PM.le G G'→∀ m∈l,Ct Tryz.prog f ([m.val]++vc).toArray G' [] fun _ μ' u=>μ'=[]∧u=.bool (p m)):Ct Tryz.prog 60 ([h.val l.length,.func (.func f) #[] vc.toArray]:List Value).toArray G [] (fun _ μ' u=>μ'=[]∧u=.int .i64 (fI p l)):=by
 refine Ct.of Tryz.func60 rfl Tryz.ntmps60 rfl fun w0 hs0=>?_
 refine .g (lE rfl jS rfl (mV rfl rfl (.nc (.block ?_))))
 refine bD (α:=Nat) (fun k=>[(8,true,.int .i64 (k:Int))]) (fun _=>[])
  (fun k Gl=>(k≤l.length)∧(∀ j y,j<k→l[j]? = some y→p y=false)) (fun k=>l.length-k) 0 [(0,true,_),(1,true,_),(7,true,_)] []
  (aO rfl (aA rfl (aA rfl (aA rfl eZ))))
  mN ?_ ?_
 ·refine ⟨?_,?_⟩
  ·(try dsimp only)<;>(first|omega|rfl|assumption|(simp; done))
  (try dsimp only)<;>(exact fun j y h=>absurd h (Nat.not_lt_zero _))
 intro k N0 Gl0 hN0 hGl0 hF0
 try dsimp only at hF0 hN0 ⊢
 obtain ⟨hk,hno⟩:=hF0
 have hs:=hs.mono hGl0
 refine .g (cP rfl rfl rfl rfl (.g (cD rfl (fun c1=>?_) (fun c1=>?_))))
 ·have c1k:=c1
  try simp only [aC,aD] at c1
  refine .skip (.code (.seq (.block (.seq (bE rfl rfl (mV rfl rfl (aS rfl rfl (.nc (.seq (nR rfl rfl (mV rfl rfl (mV rfl rfl (mV rfl rfl (ih rfl .no fE (.u rfl) (.u rfl) (by omega) (by omega) (fun _=>hs.nn (k:=k) (by first|omega|(simp only [Bool.and_eq_true,decide_eq_true_eq] at hc; omega)|(simp only [List.length_cons,List.length_nil]; omega))) ?_))))))))))))))
  obtain ⟨x,ex⟩:=eG (k:=k) (xs:=l) (by omega)
  refine lA rfl .no cC (.u rfl) (fun _=>(hs.at (by omega) ex).rd) (fun _=>Ent.len _) ?_
  refine kf rfl .no (.u rfl) hf (aB rfl aE) (fun _=>hc _ hGl0 x (List.mem_of_getElem? ex)) ?_
  refine .g (cD rfl (fun c2=>?_) (fun c2=>?_))
  ·have c2k:=c2
   try simp only [aC,aD] at c2
   refine .seq (bE rfl rfl (mV rfl rfl (aS rfl rfl (.nc (.ret (aP Tryz.results60 (.tmp rfl .nil) ?_))))))
   exact ⟨rfl,aGx hno ex (by simpa using c2k)⟩
  have c2k:=c2
  try simp only [aC,aD] at c2
  refine .g (aW (((k+1):Nat):Int) rfl rfl rfl rfl ?_)
  refine .g (aZ (k+1) ?_ ?_ ?_ ?_ ?_)
  ·exact (aO rfl (aA rfl (aA rfl (aA rfl eZ))))
  ·exact mN
  ·first|omega|(dsimp only; omega)
  ·exact hGl0
  refine ⟨?_,?_⟩
  ·(try dsimp only)<;>(first|omega|rfl|assumption|(simp; done))
  (try dsimp only)<;>(exact aGz hno ex (by simpa using c2k))
 have c1k:=c1
 try simp only [aC,aD] at c1
 refine .exit (.xcode (.xlp (.xblk (.code (.seq (aM rfl rfl (aS rfl rfl (.nc (.ret (aP Tryz.results60 (.tmp rfl .nil) ?_))))))))))
 exact ⟨rfl,aGy hno (by omega)⟩
theorem aFu (h:Sh) (l:List Ent) (G:PM) (hs:SlR G 4 Ent.cells h l) (hl:l.length≤100000000) (f:Nat) (hf:aT Tryz.prog f=true) (vc:List Value) (p:Ent→Bool) (hc:∀ G',PM.le G G'→∀ m∈l,Ct Tryz.prog f ([m.val]++vc).toArray G' [] fun _ μ' u=>μ'=[]∧u=.bool (p m)):Ct Tryz.prog 23 ([h.val l.length,.func (.func f) #[] vc.toArray]:List Value).toArray G [] (fun _ μ' u=>μ'=[]∧u=.bool (l.any p)):=by
 refine Ct.of Tryz.func23 rfl Tryz.ntmps23 rfl fun w0 hs0=>?_
 refine .g (kV rfl aEy (aB rfl (aB rfl aE)) (aDA h l _ hs hl f hf vc p hc) ?_)
 refine cP rfl rfl rfl rfl (aS rfl rfl (.nc (.ret (aP Tryz.results23 (.tmp rfl .nil) ?_))))
 exact ⟨rfl,congrArg Value.bool aNr⟩
theorem aRY (e:Ent) (G:PM):Ct Tryz.prog 20 ([e.val]:List Value).toArray G [] (fun _ μ' u=>μ'=[]∧u=.bool (!bV e)):=by
 refine Ct.of Tryz.func20 rfl Tryz.ntmps20 rfl fun w0 hs0=>?_
 refine .seq (bE rfl rfl ?_)
 refine bX rfl rfl rfl ?_; intro b1
 refine .g (lA rfl .no cC (.u rfl) (fun _=>RdN.own .here) (fun _=>(by first|rfl|exact Ent.len _)) ?_)
 refine kV rfl aEt (aB rfl aE) (aCx _ _) ?_
 refine nt rfl .no (.u rfl) (aS rfl rfl (.nc (.ret (aP Tryz.results20 (.tmp rfl .nil) ?_))))
 exact ⟨rfl,rfl⟩
theorem aLn (e:Ent) (G:PM):Ct Tryz.prog 70 ([e.val]:List Value).toArray G [] (fun _ μ' u=>μ'=[]∧u=.bool (!bV e)):=by
 refine Ct.of Tryz.func70 rfl Tryz.ntmps70 rfl fun w0 hs0=>?_
 refine .seq (bE rfl rfl ?_)
 refine bX rfl rfl rfl ?_; intro b1
 refine .g (lA rfl .no cC (.u rfl) (fun _=>RdN.own .here) (fun _=>(by first|rfl|exact Ent.len _)) ?_)
 refine kV rfl aEt (aB rfl aE) (aCx _ _) ?_
 refine nt rfl .no (.u rfl) (aS rfl rfl (.nc (.ret (aP Tryz.results70 (.tmp rfl .nil) ?_))))
 exact ⟨rfl,rfl⟩
theorem aIL (h:Sh) (l:List Ent) (G:PM) (hs:SlR G 4 Ent.cells h l) (hl:l.length≤10000000000000):Ct Tryz.prog 24 ([h.val l.length]:List Value).toArray G [] (fun _ μ' u=>μ'=[]∧u=.bool (eH l)):=by
 refine Ct.of Tryz.func24 rfl Tryz.ntmps24 rfl fun w0 hs0=>?_
 refine .seq (aM rfl rfl (aS rfl rfl (.nc (.seq (.seq (aM rfl rfl (aS rfl rfl (.nc (.block ?_)))))))))
 refine bD (α:=Nat) (fun k=>[(3,true,.int .i64 (k:Int))]) (fun _=>[])
  (fun k Gl=>(1≤k∧(k≤l.length∨l.length=0))∧(∀ j,j+1<k→dA (l.getD j Ent.zero) (l.getD (j+1) Ent.zero)=true)) (fun k=>l.length-k) 1 [(0,true,_)] []
  (aO rfl (aA rfl eZ))
  mN ?_ ?_
 ·refine ⟨?_,?_⟩
  ·(try dsimp only)<;>(first|omega|rfl|assumption|(simp; done))
  (try dsimp only)<;>(exact fun j h=>absurd h (by omega))
 intro k N0 Gl0 hN0 hGl0 hF0
 try dsimp only at hF0 hN0 ⊢
 obtain ⟨hk,hj⟩:=hF0
 have hs:=hs.mono hGl0
 refine .g (lE rfl jS rfl (cP rfl rfl rfl rfl (.g (cD rfl (fun c1=>?_) (fun c1=>?_)))))
 ·have c1k:=c1
  try simp only [aC,aD] at c1
  refine .skip (.code (.seq (.block (.seq (dS ⟨false,false⟩ aV (by kernel_rfl) ?_)))))
  refine Wp.one 0 (by kernel_rfl) ?_
  refine mV rfl rfl (.nil (Wp.one 1 (by kernel_rfl) ?_))
  refine mV rfl rfl (.nil (Wp.one 2 (by kernel_rfl) ?_))
  refine aR rfl rfl rfl rfl ?_
  refine .nil (Wp.one 3 (by kernel_rfl) ?_)
  refine ih rfl .no fE (.u rfl) (.u rfl) (by omega) (by omega) (fun _=>hs.nn (k:=((((k:Nat):Int)-(1:Int))).toNat) (by first|omega|(simp only [Bool.and_eq_true,decide_eq_true_eq] at hc; omega)|(simp only [List.length_cons,List.length_nil]; omega))) ?_
  refine .nil (Wp.one 4 (by kernel_rfl) ?_)
  obtain ⟨x,ex⟩:=eG (k:=k-1) (xs:=l) (by omega)
  refine lA rfl .no cC (.u rfl) (fun _=>(hs.at (by omega) ex).rd) (fun _=>Ent.len _) ?_
  refine .nil (Wp.one 5 (by kernel_rfl) ?_)
  refine mV rfl rfl (.nil (Wp.one 6 (by kernel_rfl) ?_))
  refine mV rfl rfl (.nil (Wp.one 7 (by kernel_rfl) ?_))
  refine ih rfl .no fE (.u rfl) (.u rfl) (by omega) (by omega) (fun _=>hs.nn (k:=k) (by first|omega|(simp only [Bool.and_eq_true,decide_eq_true_eq] at hc; omega)|(simp only [List.length_cons,List.length_nil]; omega))) ?_
  refine .nil (Wp.pr 8 (by kernel_rfl) ?_)
  obtain ⟨y,ey⟩:=eG (k:=k) (xs:=l) (by omega)
  refine lA rfl .no cC (.u rfl) (fun _=>(hs.at (by omega) ey).rd) (fun _=>Ent.len _) ?_
  refine .nil ⟨⟨rfl,rfl⟩,?_⟩
  refine Wp.b2 9 10 (by kernel_rfl) ?_ ?_
  ·refine al rfl xQ ?_; intro b4
   refine .nil (Wp.b1 10 (by kernel_rfl) ?_)
   refine al rfl xQ ?_; intro b5
   refine .nil (Wp.b1 11 (by kernel_rfl) ?_)
   refine sw rfl (.u rfl) (.u rfl) rfl dD aF (by first|rfl|exact Ent.len _) (Ent.one _) ?_
   refine .nil (Wp.b1 12 (by kernel_rfl) ?_)
   refine sw rfl (.u rfl) (.u rfl) rfl dD aF (by first|rfl|exact Ent.len _) (Ent.one _) ?_
   refine .nil (Wp.last (by kernel_rfl) ?_)
   refine .g (fZ rfl gE rfl (lO rfl cE rfl aF (by first|exact aJ rfl|rfl) ?_))
   refine fZ rfl gE rfl (lO rfl cE rfl .here (by first|exact aJ rfl|rfl) ?_)
   refine cs rfl .no (.u rfl) (.u rfl) rfl (.p (fz rfl (.f rfl rfl) gE (.u rfl) (ld rfl (.f rfl rfl) cE (.s rfl) (fun hc=>Rd.own aF (by first|exact aJ rfl|rfl)) ?_)))
   refine fz rfl (.f rfl rfl) gE (.u rfl) (ld rfl (.f rfl rfl) cE (.s rfl) (fun hc=>Rd.own .here (by first|exact aJ rfl|rfl)) ?_)
   refine cs rfl (.f rfl rfl) (.s rfl) (.s rfl) rfl (mv rfl (.f rfl rfl) (.s rfl) (fz rfl (.tc rfl rfl) pR (.u rfl) (ld rfl (.tc rfl rfl) fF (.s rfl) (fun hc=>Rd.own aF (by first|exact aJ rfl|rfl)) ?_)))
   refine fz rfl (.tc rfl rfl) pR (.u rfl) (ld rfl (.tc rfl rfl) fF (.s rfl) (fun hc=>Rd.own .here (by first|exact aJ rfl|rfl)) ?_)
   refine cp rfl (.tc rfl rfl) (.s rfl) (.s rfl) rfl (cG rfl (.f rfl rfl) (.s rfl) (.s rfl) (cQ rfl .no (.u rfl) (.s rfl) (.g (cD rfl (fun c2=>?_) (fun c2=>?_)))))
   ·have c2k:=c2
    try simp only [aC,aD] at c2
    refine .seq (aM rfl rfl (aS rfl rfl (.nc (.ret (aP Tryz.results24 (.tmp rfl .nil) ?_)))))
    exact ⟨rfl,congrArg Value.bool (aIG hk.1 ex ey c2k).symm⟩
   have c2k:=c2
   try simp only [aC,aD] at c2
   refine .g (aW (((k+1):Nat):Int) rfl rfl rfl rfl ?_)
   refine .g (aZ (k+1) ?_ ?_ ?_ ?_ ?_)
   ·exact (aO rfl (aA rfl eZ))
   ·exact mN
   ·first|omega|(dsimp only; omega)
   ·exact hGl0
   refine ⟨?_,?_⟩
   ·(try dsimp only)<;>(first|omega|rfl|assumption|(simp; done))
   (try dsimp only)<;>(exact aIH hk.1 hj ex ey c2k)
  refine al rfl xQ ?_; intro b5
  refine .nil (Wp.b1 9 (by kernel_rfl) ?_)
  refine al rfl xQ ?_; intro b4
  refine .nil (Wp.b1 11 (by kernel_rfl) ?_)
  refine sw rfl (.u rfl) (.u rfl) rfl dD .here (by first|rfl|exact Ent.len _) (Ent.one _) ?_
  refine .nil (Wp.b1 12 (by kernel_rfl) ?_)
  refine sw rfl (.u rfl) (.u rfl) rfl dD aF (by first|rfl|exact Ent.len _) (Ent.one _) ?_
  refine .nil (Wp.last (by kernel_rfl) ?_)
  refine .g (fZ rfl gE rfl (lO rfl cE rfl aF (by first|exact aJ rfl|rfl) ?_))
  refine fZ rfl gE rfl (lO rfl cE rfl .here (by first|exact aJ rfl|rfl) ?_)
  refine cs rfl .no (.u rfl) (.u rfl) rfl (.p (fz rfl (.f rfl rfl) gE (.u rfl) (ld rfl (.f rfl rfl) cE (.s rfl) (fun hc=>Rd.own aF (by first|exact aJ rfl|rfl)) ?_)))
  refine fz rfl (.f rfl rfl) gE (.u rfl) (ld rfl (.f rfl rfl) cE (.s rfl) (fun hc=>Rd.own .here (by first|exact aJ rfl|rfl)) ?_)
  refine cs rfl (.f rfl rfl) (.s rfl) (.s rfl) rfl (mv rfl (.f rfl rfl) (.s rfl) (fz rfl (.tc rfl rfl) pR (.u rfl) (ld rfl (.tc rfl rfl) fF (.s rfl) (fun hc=>Rd.own aF (by first|exact aJ rfl|rfl)) ?_)))
  refine fz rfl (.tc rfl rfl) pR (.u rfl) (ld rfl (.tc rfl rfl) fF (.s rfl) (fun hc=>Rd.own .here (by first|exact aJ rfl|rfl)) ?_)
  refine cp rfl (.tc rfl rfl) (.s rfl) (.s rfl) rfl (cG rfl (.f rfl rfl) (.s rfl) (.s rfl) (cQ rfl .no (.u rfl) (.s rfl) (.g (cD rfl (fun c2=>?_) (fun c2=>?_)))))
  ·have c2k:=c2
   try simp only [aC,aD] at c2
   refine .seq (aM rfl rfl (aS rfl rfl (.nc (.ret (aP Tryz.results24 (.tmp rfl .nil) ?_)))))
   exact ⟨rfl,congrArg Value.bool (aIG hk.1 ex ey c2k).symm⟩
  have c2k:=c2
  try simp only [aC,aD] at c2
  refine .g (aW (((k+1):Nat):Int) rfl rfl rfl rfl ?_)
  refine .g (aZ (k+1) ?_ ?_ ?_ ?_ ?_)
  ·exact (aO rfl (aA rfl eZ))
  ·exact mN
  ·first|omega|(dsimp only; omega)
  ·exact hGl0
  refine ⟨?_,?_⟩
  ·(try dsimp only)<;>(first|omega|rfl|assumption|(simp; done))
  (try dsimp only)<;>(exact aIH hk.1 hj ex ey c2k)
 have c1k:=c1
 try simp only [aC,aD] at c1
 refine .exit (.xcode (.xlp (.xblk (.code (.seq (aM rfl rfl (aS rfl rfl (.nc (.ret (aP Tryz.results24 (.tmp rfl .nil) ?_))))))))))
 exact ⟨rfl,congrArg Value.bool (aII (by omega) hj).symm⟩
theorem aMu (h:Sh) (l:List Ent) (least:Int) (G:PM) (hs:SlR G 4 Ent.cells h l) (hw:dM l≤100000000) (hl:l.length≤100000000):Ct Tryz.prog 27 ([h.val l.length,.int .i64 least]:List Value).toArray G [] (fun _ μ' u=>μ'=[]∧u=.int .i64 (gN least 0 l:Int)):=by
 refine Ct.of Tryz.func27 rfl Tryz.ntmps27 rfl fun w0 hs0=>?_
 refine .g (lE rfl jS rfl (mV rfl rfl (.nc (.block ?_))))
 refine bD (α:=Nat) (fun k=>[(5,true,.int .i64 (gI l k)),(10,true,.int .i64 (k:Int))]) (fun _=>[])
  (fun k Gl=>(k≤l.length)∧(∀ j,j<k→gI l (j+1)<least)) (fun k=>l.length-k) 0 [(0,true,_),(1,true,_),(8,true,_),(9,true,_)] []
  (aO rfl (aO rfl (aA rfl (aA rfl (aA rfl (aA rfl eZ))))))
  mN ?_ ?_
 ·refine ⟨?_,?_⟩
  ·(try dsimp only)<;>(first|omega|rfl|assumption|(simp; done))
  (try dsimp only)<;>(exact fun j h=>absurd h (Nat.not_lt_zero _))
 intro k N0 Gl0 hN0 hGl0 hF0
 try dsimp only at hF0 hN0 ⊢
 obtain ⟨hk,hj⟩:=hF0
 have hs:=hs.mono hGl0
 have h1:=aI3 hw hl (k:=k) (by omega)
 refine .g (cP rfl rfl rfl rfl (.g (cD rfl (fun c1=>?_) (fun c1=>?_))))
 ·have c1k:=c1
  try simp only [aC,aD] at c1
  refine .skip (.code (.seq (.block (.seq (nR rfl rfl (mV rfl rfl (ih rfl .no fE (.u rfl) (.u rfl) (by omega) (by omega) (fun _=>hs.nn (k:=k) (by first|omega|(simp only [Bool.and_eq_true,decide_eq_true_eq] at hc; omega)|(simp only [List.length_cons,List.length_nil]; omega))) ?_)))))))
  obtain ⟨x,ex⟩:=eG (k:=k) (xs:=l) (by omega)
  refine lA rfl .no cC (.u rfl) (fun _=>(hs.at (by omega) ex).rd) (fun _=>Ent.len _) ?_
  refine al rfl xQ ?_; intro b7
  refine .p (sw rfl (.u rfl) (.u rfl) rfl dD .here (by first|rfl|exact Ent.len _) (Ent.one _) ?_)
  refine .g (fZ rfl gE rfl (lO rfl cE rfl .here (by first|exact aJ rfl|rfl) ?_))
  refine ls rfl .no cI (.u rfl) (fZ rfl mB rfl (lO rfl cE rfl .here (by first|exact aJ rfl|rfl) ?_))
  refine ls rfl .no cI (.u rfl) ?_
  have hn:=aRX ex
  have h2:=aI3 hw hl (k:=k+1) (by omega)
  refine aW (((x.user.size+x.value.size):Nat):Int) rfl rfl rfl rfl ?_
  refine dR ((((x.user.size+x.value.size)+8):Nat):Int) rfl .no (.u rfl) (.u rfl) rfl (by omega) (fun _=>cB (by omega) (by omega)) ?_
  refine aR rfl rfl rfl rfl ?_
  refine .g (cP rfl rfl rfl rfl (.g (cD rfl (fun c2=>?_) (fun c2=>?_))))
  ·have c2k:=c2
   try simp only [aC,aD] at c2
   refine .g (aW (((k+1):Nat):Int) rfl rfl rfl rfl ?_)
   refine aS rfl rfl (.nc (.ret (aP Tryz.results27 (.tmp rfl .nil) ?_)))
   exact ⟨rfl,by rw [aF1 least l 0 k (by omega) (fun j h=>by have:=hj j h; omega) (by omega)]; rfl⟩
  have c2k:=c2
  try simp only [aC,aD] at c2
  refine .g (aW (((k+1):Nat):Int) rfl rfl rfl rfl ?_)
  refine .g (aZ (k+1) ?_ ?_ ?_ ?_ ?_)
  ·exact (eY rfl (oC (by omega)) (aO rfl (aA rfl (aA rfl (aA rfl (aA rfl eZ))))))
  ·exact mN
  ·first|omega|(dsimp only; omega)
  ·exact hGl0
  refine ⟨?_,?_⟩
  ·(try dsimp only)<;>(first|omega|rfl|assumption|(simp; done))
  (try dsimp only)<;>(exact aMv hj (by omega))
 have c1k:=c1
 try simp only [aC,aD] at c1
 refine .g (lE rfl jS rfl (aS rfl rfl (.nc (.ret (aP Tryz.results27 (.tmp rfl .nil) ?_)))))
 exact ⟨rfl,by rw [aF0 least l 0 (fun j h=>by have:=hj j (by omega); omega)]; rfl⟩
theorem aI6 (m:Meta) (G:PM) (hw:m.wf):Ct Tryz.prog 10 ([m.val]:List Value).toArray G [] (fun _ μ' u=>μ'=[]∧u=.agg ((bI m).cells).toArray):=by
 refine Ct.of Tryz.func10 rfl Tryz.ntmps10 rfl fun w0 hs0=>?_
 refine .seq (bE rfl rfl ?_)
 refine bX rfl rfl rfl ?_; intro b1
 refine al rfl rE ?_; intro b2
 refine .g (fZ rfl aKF rfl (lO rfl bW rfl aF (by first|exact aJ rfl|rfl) ?_))
 refine fZ rfl aKG rfl (lO rfl fF rfl aF (by first|exact aJ rfl|rfl) ?_)
 refine fZ rfl aKH rfl (lO rfl fF rfl aF (by first|exact aJ rfl|rfl) ?_)
 refine fZ rfl aKI rfl (lO rfl fF rfl aF (by first|exact aJ rfl|rfl) ?_)
 refine bC rfl .no aJ5 (.cons (.u rfl) rfl (.cons (.u rfl) rfl (.cons (.u rfl) rfl (.cons (.u rfl) rfl (.cons (.u rfl) rfl .nil))))) rfl ?_
 refine sw rfl (.u rfl) (.u rfl) rfl mD .here (by first|rfl|exact Meta.len _) (lS rfl rfl rfl rfl rfl) ?_
 refine .nil (.code (.ret (aP Tryz.results10 (.cell rfl (fun w hw=>bK fG (RdN.own .here) ((by first|rfl|exact Meta.len _)) hw) .nil) ?_)))
 exact ⟨rfl,by rw [← aGt hw]; rfl⟩
theorem aS0:jX Tryz.prog 3 128=some .u64:=by kernel_rfl
theorem vH:aT Tryz.prog 100=true:=by kernel_rfl
theorem aAV:iX Tryz.prog 198=some ([.int .u32 0,.int .u32 0,.int .u32 0,.int .u32 0,.int .u32 0,.int .u32 0,.int .u32 0,.int .u32 0,.int .u32 0,.int .u32 0,.int .u32 0,.int .u32 0,.int .u32 0,.int .u32 0,.int .u32 0,.int .u32 0]):=by kernel_rfl
theorem bY:iH Tryz.prog 198=some (16,139,1):=by kernel_rfl
theorem bG:dT Tryz.prog 139=some none:=by kernel_rfl
theorem dY:dF Tryz.prog 139=some 1:=by kernel_rfl
theorem aB3:aT Tryz.prog 156=true:=by kernel_rfl
theorem xI:dT Tryz.prog 198=some (some 16):=by kernel_rfl
theorem vK:dF Tryz.prog 198=some 16:=by kernel_rfl
theorem oQ:jX Tryz.prog 5 139=some .u32:=by kernel_rfl
theorem uR (x:W) (k:Int) (G:PM):Ct Tryz.prog 100 ([U x,.int .i64 k]:List Value).toArray G [] (fun _ μ' u=>μ'=[]∧u=U (aIS x k)):=by
 refine Ct.of Tryz.func100 rfl Tryz.ntmps100 rfl fun w0 hs0=>?_
 refine .g (ci rfl .no rfl aS0 (.u rfl) ?_)
 refine bw (k:=.u64) (b:=31#64) rfl .no rfl (.u rfl) (.u rfl) rfl (.g (lw (k:=.u32) rfl .no rfl (.u rfl) (.u rfl) (fun _=>Int.natCast_nonneg _) ?_))
 refine .p (bw (k:=.u64) (a:=32#64) rfl .no rfl (.u rfl) (.u rfl) rfl (gY (k:=.u32) rfl .no (.u rfl) (.u rfl) (fun _=>Int.natCast_nonneg _) ?_))
 refine bw (k:=.u32) rfl .no rfl (.u rfl) (.u rfl) rfl (aS rfl rfl (.nc (.ret (aP Tryz.results100 (.tmp rfl .nil) ?_))))
 exact ⟨rfl,rfl⟩
theorem yW (a b c d:W) (G:PM):Ct Tryz.prog 151 ([U a,U b,U c,U d]:List Value).toArray G [] (fun _ μ' u=>μ'=[]∧u=aOU (wL a b c d)):=by
 refine Ct.of Tryz.func151 rfl Tryz.ntmps151 rfl fun w0 hs0=>?_
 refine .g (bw (k:=.u32) rfl .no rfl (.u rfl) (.u rfl) rfl (.g (bw (k:=.u32) rfl .no rfl (.u rfl) (.u rfl) rfl (kV rfl vH (aB rfl (aB rfl aE)) (uR _ _ _) ?_))))
 refine .g (bw (k:=.u32) rfl .no rfl (.u rfl) (.u rfl) rfl (.g (bw (k:=.u32) rfl .no rfl (.u rfl) (.u rfl) rfl (kV rfl vH (aB rfl (aB rfl aE)) (uR _ _ _) ?_))))
 refine .g (bw (k:=.u32) rfl .no rfl (.u rfl) (.u rfl) rfl (.g (bw (k:=.u32) rfl .no rfl (.u rfl) (.u rfl) rfl (kV rfl vH (aB rfl (aB rfl aE)) (uR _ _ _) ?_))))
 refine .g (bw (k:=.u32) rfl .no rfl (.u rfl) (.u rfl) rfl (.g (bw (k:=.u32) rfl .no rfl (.u rfl) (.u rfl) rfl (kV rfl vH (aB rfl (aB rfl aE)) (uR _ _ _) ?_))))
 refine aS rfl rfl (.nc (.seq (zJ rfl rfl (mV rfl rfl (mV rfl rfl (mV rfl rfl (mV rfl rfl (aS rfl rfl (aS rfl rfl (aS rfl rfl (aS rfl rfl (.nc (.ret (aP Tryz.results151 (.tmp rfl (.tmp rfl (.tmp rfl (.tmp rfl .nil)))) ?_))))))))))))))
 exact ⟨rfl,rfl⟩
theorem aBh (x:W) (k:Nat) (G:PM) (hk:k≤32):Ct Tryz.prog 156 ([U x,.int .i64 (k:Int)]:List Value).toArray G [] (fun _ μ' u=>μ'=[]∧u=U (nO x k)):=by
 refine Ct.of Tryz.func156 rfl Tryz.ntmps156 rfl fun w0 hs0=>?_
 refine .g (bH (mc:=⟨false,false⟩) [0,1,2,3,4,5,6,7,8] aV (by kernel_rfl) ?_)
 refine .p (lw (k:=.u32) rfl .no rfl (.u rfl) (.u rfl) (by omega) ?_)
 refine .p (aR rfl rfl rfl rfl ?_)
 refine gY (k:=.u32) rfl .no (.u rfl) (.u rfl) (by omega) ?_
 refine bw (k:=.u32) rfl .no rfl (.u rfl) (.u rfl) rfl (aS rfl rfl (.nc (.ret (aP Tryz.results156 (.tmp rfl .nil) ?_))))
 exact ⟨rfl,aR7 x hk⟩
theorem aHs (y:Nat→W) (a b c d:Nat) (ia ib ic id:Int) (G:PM) (ea:ia=(a:Int)) (eb0:ib=(b:Int)) (ec:ic=(c:Int)) (ed:id=(d:Int)) (ha:a<16) (hb:b<16) (hc0:c<16) (hd:d<16):Ct Tryz.prog 154 ([.agg (wa 16 y).toArray,.int .i64 ia,.int .i64 ib,.int .i64 ic,.int .i64 id]:List Value).toArray G [] (fun _ μ' u=>μ'=[]∧u=.agg (wa 16 (rU y a b c d)).toArray):=by
 refine Ct.of Tryz.func154 rfl Tryz.ntmps154 rfl fun w0 hs0=>?_
 refine .seq (bE rfl rfl ?_)
 refine bX rfl rfl rfl ?_; intro b5
 refine al rfl aAV ?_; intro b10
 refine .g (bH (mc:=⟨false,false⟩) [0,1,2,3,4,5,6,7,8,9] aV (by kernel_rfl) ?_)
 refine .p (iW rfl bY rfl rfl ?_)
 refine lO rfl bG rfl aF (bF a (by omega) (by omega)) ?_
 refine .p (iW rfl bY rfl rfl ?_)
 refine lO rfl bG rfl aF (bF b (by omega) (by omega)) ?_
 refine bw (k:=.u32) rfl .no rfl (.u rfl) (.u rfl) rfl (iW rfl bY rfl rfl ?_)
 refine s1 rfl (.u rfl) (.u rfl) rfl dY aF (by rw [bO]; omega) (cV a (by omega)) ?_
 refine .g (bH (mc:=⟨false,false⟩) [0,1,2,3,4,5,6,7,8,9,10] aV (by kernel_rfl) ?_)
 refine .p (iW rfl bY rfl rfl ?_)
 refine lO rfl bG rfl .here (bF d (by omega) (by omega)) ?_
 refine .p (iW rfl bY rfl rfl ?_)
 refine lO rfl bG rfl .here (bF a (by omega) (by omega)) ?_
 refine bw (k:=.u32) rfl .no rfl (.u rfl) (.u rfl) rfl (kV rfl aB3 (aB rfl (aB rfl aE)) (aBh _ 16 _ (by decide)) ?_)
 refine iW rfl bY rfl rfl ?_
 refine s1 rfl (.u rfl) (.u rfl) rfl dY .here (by rw [bO]; omega) (cV d (by omega)) ?_
 refine .g (bH (mc:=⟨false,false⟩) [0,1,2,3,4,5,6,7,8,9] aV (by kernel_rfl) ?_)
 refine .p (iW rfl bY rfl rfl ?_)
 refine lO rfl bG rfl .here (bF c (by omega) (by omega)) ?_
 refine .p (iW rfl bY rfl rfl ?_)
 refine lO rfl bG rfl .here (bF d (by omega) (by omega)) ?_
 refine bw (k:=.u32) rfl .no rfl (.u rfl) (.u rfl) rfl (iW rfl bY rfl rfl ?_)
 refine s1 rfl (.u rfl) (.u rfl) rfl dY .here (by rw [bO]; omega) (cV c (by omega)) ?_
 refine .g (bH (mc:=⟨false,false⟩) [0,1,2,3,4,5,6,7,8,9,10] aV (by kernel_rfl) ?_)
 refine .p (iW rfl bY rfl rfl ?_)
 refine lO rfl bG rfl .here (bF b (by omega) (by omega)) ?_
 refine .p (iW rfl bY rfl rfl ?_)
 refine lO rfl bG rfl .here (bF c (by omega) (by omega)) ?_
 refine bw (k:=.u32) rfl .no rfl (.u rfl) (.u rfl) rfl (kV rfl aB3 (aB rfl (aB rfl aE)) (aBh _ 12 _ (by decide)) ?_)
 refine iW rfl bY rfl rfl ?_
 refine s1 rfl (.u rfl) (.u rfl) rfl dY .here (by rw [bO]; omega) (cV b (by omega)) ?_
 refine .g (bH (mc:=⟨false,false⟩) [0,1,2,3,4,5,6,7,8,9] aV (by kernel_rfl) ?_)
 refine .p (iW rfl bY rfl rfl ?_)
 refine lO rfl bG rfl .here (bF a (by omega) (by omega)) ?_
 refine .p (iW rfl bY rfl rfl ?_)
 refine lO rfl bG rfl .here (bF b (by omega) (by omega)) ?_
 refine bw (k:=.u32) rfl .no rfl (.u rfl) (.u rfl) rfl (iW rfl bY rfl rfl ?_)
 refine s1 rfl (.u rfl) (.u rfl) rfl dY .here (by rw [bO]; omega) (cV a (by omega)) ?_
 refine .g (bH (mc:=⟨false,false⟩) [0,1,2,3,4,5,6,7,8,9,10] aV (by kernel_rfl) ?_)
 refine .p (iW rfl bY rfl rfl ?_)
 refine lO rfl bG rfl .here (bF d (by omega) (by omega)) ?_
 refine .p (iW rfl bY rfl rfl ?_)
 refine lO rfl bG rfl .here (bF a (by omega) (by omega)) ?_
 refine bw (k:=.u32) rfl .no rfl (.u rfl) (.u rfl) rfl (kV rfl aB3 (aB rfl (aB rfl aE)) (aBh _ 8 _ (by decide)) ?_)
 refine iW rfl bY rfl rfl ?_
 refine s1 rfl (.u rfl) (.u rfl) rfl dY .here (by rw [bO]; omega) (cV d (by omega)) ?_
 refine .g (bH (mc:=⟨false,false⟩) [0,1,2,3,4,5,6,7,8,9] aV (by kernel_rfl) ?_)
 refine .p (iW rfl bY rfl rfl ?_)
 refine lO rfl bG rfl .here (bF c (by omega) (by omega)) ?_
 refine .p (iW rfl bY rfl rfl ?_)
 refine lO rfl bG rfl .here (bF d (by omega) (by omega)) ?_
 refine bw (k:=.u32) rfl .no rfl (.u rfl) (.u rfl) rfl (iW rfl bY rfl rfl ?_)
 refine s1 rfl (.u rfl) (.u rfl) rfl dY .here (by rw [bO]; omega) (cV c (by omega)) ?_
 refine .g (bH (mc:=⟨false,false⟩) [0,1,2,3,4,5,6,7,8,9,10] aV (by kernel_rfl) ?_)
 refine .p (iW rfl bY rfl rfl ?_)
 refine lO rfl bG rfl .here (bF b (by omega) (by omega)) ?_
 refine .p (iW rfl bY rfl rfl ?_)
 refine lO rfl bG rfl .here (bF c (by omega) (by omega)) ?_
 refine bw (k:=.u32) rfl .no rfl (.u rfl) (.u rfl) rfl (kV rfl aB3 (aB rfl (aB rfl aE)) (aBh _ 7 _ (by decide)) ?_)
 refine iW rfl bY rfl rfl ?_
 refine s1 rfl (.u rfl) (.u rfl) rfl dY .here (by rw [bO]; omega) (cV b (by omega)) ?_
 refine .g (lB rfl xI rfl .here ?_)
 refine sw rfl (.u rfl) (.u rfl) rfl vK aF rfl (mU _ _) ?_
 refine .nil (.code (.ret (aP Tryz.results154 (.cell rfl (fun w hw=>bK xI (RdN.own .here) rfl hw) .nil) ?_)))
 exact ⟨rfl,rfl⟩
theorem aSY (h:Sh) (xs:List Y) (j:Int) (k:Nat) (G:PM) (hs:SlR G 1 aL h xs) (hj:j=(k:Int)) (hk:k+3<xs.length) (hl:xs.length≤140737488351232):Ct Tryz.prog 153 ([h.val xs.length,.int .i64 j]:List Value).toArray G [] (fun _ μ' u=>μ'=[]∧u=U (qQ (fun i=>xs.getD i 0) k)):=by
 refine Ct.of Tryz.func153 rfl Tryz.ntmps153 rfl fun w0 hs0=>?_
 refine .g (bH (mc:=⟨false,false⟩) [0,1,2,3,4,5,6,7,8,9,10,11,12,13,14,15,16,17,18,19,20,21,22,23,24,25,26,27,28,29] aV (by kernel_rfl) ?_)
 refine mV rfl rfl (mV rfl rfl (ih rfl .no aH (.u rfl) (.u rfl) (by omega) (by omega) (fun _=>hs.nn (k:=k) (by omega)) ?_))
 refine lN rfl bW rfl ((hs.yat (k) (by omega) (by omega)).rd) ?_
 refine cu (k:=.u8) rfl .no rfl oQ (.u rfl) ?_
 refine .p (aR rfl rfl rfl rfl ?_)
 refine ih rfl .no aH (.u rfl) (.u rfl) (by omega) (by omega) (fun _=>hs.nn (k:=k+1) (by omega)) ?_
 refine lN rfl bW rfl ((hs.yat (k+1) (by omega) (by omega)).rd) ?_
 refine cu (k:=.u8) rfl .no rfl oQ (.u rfl) ?_
 refine bw (k:=.u32) (b:=256#32) rfl .no rfl (.u rfl) (.u rfl) rfl (bw (k:=.u32) rfl .no rfl (.u rfl) (.u rfl) rfl (.p (aR rfl rfl rfl rfl ?_)))
 refine ih rfl .no aH (.u rfl) (.u rfl) (by omega) (by omega) (fun _=>hs.nn (k:=k+2) (by omega)) ?_
 refine lN rfl bW rfl ((hs.yat (k+2) (by omega) (by omega)).rd) ?_
 refine cu (k:=.u8) rfl .no rfl oQ (.u rfl) ?_
 refine bw (k:=.u32) (b:=65536#32) rfl .no rfl (.u rfl) (.u rfl) rfl (bw (k:=.u32) rfl .no rfl (.u rfl) (.u rfl) rfl (.p (aR rfl rfl rfl rfl ?_)))
 refine ih rfl .no aH (.u rfl) (.u rfl) (by omega) (by omega) (fun _=>hs.nn (k:=k+3) (by omega)) ?_
 refine lN rfl bW rfl ((hs.yat (k+3) (by omega) (by omega)).rd) ?_
 refine cu (k:=.u8) rfl .no rfl oQ (.u rfl) ?_
 refine bw (k:=.u32) (b:=16777216#32) rfl .no rfl (.u rfl) (.u rfl) rfl (bw (k:=.u32) rfl .no rfl (.u rfl) (.u rfl) rfl (aS rfl rfl (.nc (.ret (aP Tryz.results153 (.tmp rfl .nil) ?_)))))
 exact ⟨rfl,rfl⟩
theorem rD:iX Tryz.prog 188=some (ba 64 (fun _=>0#8)):=by kernel_rfl
theorem aJ3:gG Tryz.prog 198 [0,1,2,3]=some ([.int .u32 0,.int .u32 0,.int .u32 0,.int .u32 0,.int .u32 0,.int .u32 0,.int .u32 0,.int .u32 0,.int .u32 0,.int .u32 0,.int .u32 0,.int .u32 0,.int .u32 0,.int .u32 0,.int .u32 0,.int .u32 0],[(0,1),(1,1),(2,1),(3,1)]):=by kernel_rfl
theorem tN:iH Tryz.prog 22=some (32,5,1):=by kernel_rfl
theorem aKe:aT Tryz.prog 153=true:=by kernel_rfl
theorem aJ2:iH Tryz.prog 124=some (12,5,1):=by kernel_rfl
theorem aKf:aT Tryz.prog 154=true:=by kernel_rfl
theorem vD:jX Tryz.prog 139 5=some .u8:=by kernel_rfl
theorem jK:iH Tryz.prog 188=some (64,5,1):=by kernel_rfl
theorem gF:dF Tryz.prog 5=some 1:=by kernel_rfl
theorem gM:dT Tryz.prog 188=some (some 64):=by kernel_rfl
theorem jT:dF Tryz.prog 188=some 64:=by kernel_rfl
theorem bL:(cH Tryz.prog 34).isSome=true:=by kernel_rfl
theorem vB:dT Tryz.prog 22=some (some 32):=by kernel_rfl
theorem aJ1:dT Tryz.prog 124=some (some 12):=by kernel_rfl
theorem aBz:jX Tryz.prog 3 139=some .u32:=by kernel_rfl
theorem aTP:aT Tryz.prog 138=true:=by kernel_rfl
theorem aJl (b n:Nat) (T:TypeId) (f:Nat→Y) (j:Int) (k:Nat) (G:PM) (hj:j=((4*k:Nat):Int)) (hk:4*k+3<n) (hn:n≤1000):Ct Tryz.prog 153 ([.slice (some ⟨b,0,none⟩) n n,.int .i64 j]:List Value).toArray (G.add b (cl (ba n f) T)) [] (fun _ μ' u=>μ'=[]∧u=U (qQ f (4*k))):=by
 have hw:=aSY ⟨some ⟨b,0,none⟩,n⟩ (yl n f) j (4*k) (G.add b (cl (ba n f) T)) aCN hj (by rw [bB]; exact hk) (by rw [bB]; omega)
 rw [aSX (f':=f) (fun j hj=>aEQ (by omega)),bB] at hw
 exact hw
theorem aPg (key nonce:Nat→Y) (count:W) (G:PM):Ct Tryz.prog 138 ([.agg (ba 32 key).toArray,.agg (ba 12 nonce).toArray,U count]:List Value).toArray G [] (fun _ μ' u=>μ'=[]∧u=.agg (ba 64 (jV key nonce count)).toArray):=by
 refine Ct.of Tryz.func138 rfl Tryz.ntmps138 rfl fun w0 hs0=>?_
 refine .seq (fC rfl rfl ?_)
 refine bX rfl rfl rfl ?_; intro b3
 refine bX rfl rfl rfl ?_; intro b4
 refine al rfl rD ?_; intro b6
 refine .g (bC rfl .no aJ3 (.cons (.u rfl) rfl (.cons (.u rfl) rfl (.cons (.u rfl) rfl (.cons (.u rfl) rfl .nil)))) rfl ?_)
 refine al rfl aAV ?_; intro b7
 refine sw rfl (.u rfl) (.u rfl) rfl vK .here rfl (by decide) ?_
 refine .nil (.code (.seq (.seq (aM rfl rfl (aS rfl rfl (.nc (.block ?_)))))))
 refine bD (α:=Nat) (fun k=>[(8,true,.int .i64 (k:Int))]) (fun k=>[.blk b7 (cl (wa 16 (x1 key k)) 198)])
  (fun k Gl=>k≤8) (fun k=>8-k) 0 [(2,true,_),(3,true,_),(4,true,_),(6,true,_),(7,true,_)] [.blk b6 _,.blk b4 _,.blk b3 _]
  (aA rfl (aA rfl (aA rfl (aA rfl (aA rfl (aA rfl eZ))))))
  (mS .here rfl (mS .here rfl (mS .here rfl (mS .here rfl mN)))) ?_ ?_
 ·show 0≤8; omega
 intro k N0 Gl0 hN0 hGl0 hF0
 try dsimp only at hF0 hN0 ⊢
 have hk:k≤8:=hF0
 refine .g (cP rfl rfl rfl rfl (.g (cD rfl (fun c1=>?_) (fun c1=>?_))))
 ·have c1k:=c1
  try simp only [aC] at c1
  refine .g (aR rfl rfl rfl rfl ?_)
  refine lV rfl .no tN (.u rfl) (.p (aR rfl rfl rfl rfl ?_))
  refine kp rfl .no aKe (aB rfl (aB rfl aE)) (Gp.add bP Gp.nil) (fun _ hle hq=>aJl _ _ _ key _ k _ (by omega) (by omega) (by decide)) ?_
  refine iW rfl bY rfl rfl ?_
  refine s1 rfl (.u rfl) (.u rfl) rfl dY .here (by rw [bO]; omega) (cV (4+k) (by omega)) ?_
  refine .g (aR rfl rfl rfl rfl ?_)
  refine .g (aZ (k+1) ?_ ?_ ?_ ?_ ?_)
  ·exact (aA rfl (aA rfl (aA rfl (aA rfl (aA rfl (aA rfl eZ))))))
  ·exact (mS .here rfl (mS .here rfl (mS .here rfl (mS .here rfl mN))))
  ·first|omega|(dsimp only; omega)
  ·exact hGl0
  show k+1≤8; omega
 have c1k:=c1
 try simp only [aC] at c1
 refine .exit (.xcode (.xlp (.xblk (.code (.seq (fC rfl rfl ?_))))))
 obtain rfl:k=8:=by omega
 refine .p (iW rfl bY rfl rfl ?_)
 refine s1 rfl (.u rfl) (.u rfl) rfl dY .here (by rw [bO]; decide) (cV 12 rfl) ?_
 refine .nil (.code (.seq (.seq (aM rfl rfl (aS rfl rfl (.nc (.block ?_)))))))
 refine bD (α:=Nat) (fun j=>[(9,true,.int .i64 (j:Int))]) (fun j=>[.blk b7 (cl (wa 16 (x2 key nonce count j)) 198)])
  (fun j Gl=>j≤3) (fun j=>3-j) 0 [(4,true,_),(6,true,_),(7,true,_)] [.blk b6 _,.blk b4 _,.blk b3 _]
  (aA rfl (aA rfl (aA rfl (aA rfl eZ))))
  (mS .here rfl (mS .here rfl (mS .here rfl (mS .here rfl mN)))) ?_ ?_
 ·show 0≤3; omega
 intro j N1 Gl1 hN1 hGl1 hF1
 try dsimp only at hF1 hN1 ⊢
 have hj:j≤3:=hF1
 refine .g (cP rfl rfl rfl rfl (.g (cD rfl (fun c2=>?_) (fun c2=>?_))))
 ·have c2k:=c2
  try simp only [aC] at c2
  refine .g (aR rfl rfl rfl rfl ?_)
  refine lV rfl .no aJ2 (.u rfl) (.p (aR rfl rfl rfl rfl ?_))
  refine kp rfl .no aKe (aB rfl (aB rfl aE)) (Gp.add aQ Gp.nil) (fun _ hle hq=>aJl _ _ _ nonce _ j _ (by omega) (by omega) (by decide)) ?_
  refine iW rfl bY rfl rfl ?_
  refine s1 rfl (.u rfl) (.u rfl) rfl dY .here (by rw [bO]; omega) (cV (13+j) (by omega)) ?_
  refine .g (aR rfl rfl rfl rfl ?_)
  refine .g (aZ (j+1) ?_ ?_ ?_ ?_ ?_)
  ·exact (aA rfl (aA rfl (aA rfl (aA rfl eZ))))
  ·exact (mS .here rfl (mS .here rfl (mS .here rfl (mS .here rfl mN))))
  ·first|omega|(dsimp only; omega)
  ·exact hGl1
  show j+1≤3; omega
 have c2k:=c2
 try simp only [aC] at c2
 refine .exit (.xcode (.xlp (.xblk (.code (.seq (fC rfl rfl ?_))))))
 obtain rfl:j=3:=by omega
 refine lB rfl xI rfl .here ?_
 refine al rfl aAV ?_; intro b10
 refine sw rfl (.u rfl) (.u rfl) rfl vK .here rfl (mU _ _) ?_
 refine .nil (.code (.seq (.seq (aM rfl rfl (aS rfl rfl (.nc (.block ?_)))))))
 refine bD (α:=Nat) (fun r=>[(11,true,.int .i64 (r:Int))]) (fun r=>[.blk b10 (cl (wa 16 (nP (x2 key nonce count 3) r)) 198)])
  (fun r Gl=>r≤10) (fun r=>10-r) 0 [(6,true,_),(7,true,_),(10,true,_)] [.blk b7 _,.blk b6 _,.blk b4 _,.blk b3 _]
  (aA rfl (aA rfl (aA rfl (aA rfl eZ))))
  (mS .here rfl (mS .here rfl (mS .here rfl (mS .here rfl (mS .here rfl mN))))) ?_ ?_
 ·show 0≤10; omega
 intro r N2 Gl2 hN2 hGl2 hF2
 try dsimp only at hF2 hN2 ⊢
 have hr:r≤10:=hF2
 refine .g (cP rfl rfl rfl rfl (.g (cD rfl (fun c3=>?_) (fun c3=>?_))))
 ·have c3k:=c3
  try simp only [aC] at c3
  refine .skip (.code (.seq (.block (.seq (.seq (aM rfl rfl (aS rfl rfl (.nc (.block ?_)))))))))
  refine bD (α:=Nat) (fun q=>[(12,true,.int .i64 (q:Int))]) (fun q=>[.blk b10 (cl (wa 16 (rJ (nP (x2 key nonce count 3) r) q)) 198)])
   (fun q Gl=>q≤4) (fun q=>4-q) 0 [(6,true,_),(7,true,_),(10,true,_),(11,true,_)] [.blk b7 _,.blk b6 _,.blk b4 _,.blk b3 _]
   (aA rfl (aA rfl (aA rfl (aA rfl (aA rfl eZ)))))
   (mS .here rfl (mS .here rfl (mS .here rfl (mS .here rfl (mS .here rfl mN))))) ?_ ?_
  ·show 0≤4; omega
  intro q N3 Gl3 hN3 hGl3 hF3
  try dsimp only at hF3 hN3 ⊢
  have hq:q≤4:=hF3
  refine .g (cP rfl rfl rfl rfl (.g (cD rfl (fun c4=>?_) (fun c4=>?_))))
  ·have c4k:=c4
   try simp only [aC] at c4
   refine .g (lB rfl xI rfl .here ?_)
   refine .p (aR rfl rfl rfl rfl ?_)
   refine .p (aR rfl rfl rfl rfl ?_)
   refine .p (aR rfl rfl rfl rfl ?_)
   refine kv rfl .no aKf (aB rfl (aB rfl (aB rfl (aB rfl (aB rfl aE))))) (fun _=>aHs (rJ (nP (x2 key nonce count 3) r) q) q (4+q) (8+q) (12+q) _ _ _ _ _ (by first|rfl|omega) (by omega) (by omega) (by omega) (by omega) (by omega) (by omega) (by omega)) ?_
   refine sw rfl (.u rfl) (.u rfl) rfl vK .here rfl (mU _ _) ?_
   refine .g (aR rfl rfl rfl rfl ?_)
   refine .g (aZ (q+1) ?_ ?_ ?_ ?_ ?_)
   ·exact (aA rfl (aA rfl (aA rfl (aA rfl (aA rfl eZ)))))
   ·exact (mS .here rfl (mS .here rfl (mS .here rfl (mS .here rfl (mS .here rfl mN)))))
   ·first|omega|(dsimp only; omega)
   ·exact hGl3
   show q+1≤4; omega
  have c4k:=c4
  try simp only [aC] at c4
  refine .exit (.xcode (.xlp (.xblk (.code (.seq (aM rfl rfl ?_))))))
  obtain rfl:q=4:=by omega
  refine aS rfl rfl (.nc (.block ?_))
  refine bD (α:=Nat) (fun p=>[(13,true,.int .i64 (p:Int))]) (fun p=>[.blk b10 (cl (wa 16 (vV (rJ (nP (x2 key nonce count 3) r) 4) p)) 198)])
   (fun p Gl=>p≤4) (fun p=>4-p) 0 [(6,true,_),(7,true,_),(10,true,_),(11,true,_)] [.blk b7 _,.blk b6 _,.blk b4 _,.blk b3 _]
   (aA rfl (aA rfl (aA rfl (aA rfl (aA rfl eZ)))))
   (mS .here rfl (mS .here rfl (mS .here rfl (mS .here rfl (mS .here rfl mN))))) ?_ ?_
  ·show 0≤4; omega
  intro p N4 Gl4 hN4 hGl4 hF4
  try dsimp only at hF4 hN4 ⊢
  have hp:p≤4:=hF4
  refine .g (cP rfl rfl rfl rfl (.g (cD rfl (fun c5=>?_) (fun c5=>?_))))
  ·have c5k:=c5
   try simp only [aC] at c5
   refine .g (lB rfl xI rfl .here ?_)
   refine .p (aR rfl rfl rfl rfl ?_)
   refine rm rfl .no (.u rfl) (.u rfl) (fun _=>by decide) ?_
   refine ar rfl .no (.u rfl) (.u rfl) rfl (fun _=>cB (by rw [nT (p+1) (by omega)]; omega) (by rw [nT (p+1) (by omega)]; omega)) ?_
   refine .p (aR rfl rfl rfl rfl ?_)
   refine rm rfl .no (.u rfl) (.u rfl) (fun _=>by decide) ?_
   refine ar rfl .no (.u rfl) (.u rfl) rfl (fun _=>cB (by rw [nT (p+2) (by omega)]; omega) (by rw [nT (p+2) (by omega)]; omega)) ?_
   refine .p (aR rfl rfl rfl rfl ?_)
   refine rm rfl .no (.u rfl) (.u rfl) (fun _=>by decide) ?_
   refine ar rfl .no (.u rfl) (.u rfl) rfl (fun _=>cB (by rw [nT (p+3) (by omega)]; omega) (by rw [nT (p+3) (by omega)]; omega)) ?_
   refine kv rfl .no aKf (aB rfl (aB rfl (aB rfl (aB rfl (aB rfl aE))))) (fun _=>aHs (vV (rJ (nP (x2 key nonce count 3) r) 4) p) p (4+(p+1)%4) (8+(p+2)%4) (12+(p+3)%4) _ _ _ _ _ (by first|rfl|omega) (by rw [nT (p+1) (by omega)]; omega) (by rw [nT (p+2) (by omega)]; omega) (by rw [nT (p+3) (by omega)]; omega) (by omega) (by omega) (by omega) (by omega)) ?_
   refine sw rfl (.u rfl) (.u rfl) rfl vK .here rfl (mU _ _) ?_
   refine .g (aR rfl rfl rfl rfl ?_)
   refine .g (aZ (p+1) ?_ ?_ ?_ ?_ ?_)
   ·exact (aA rfl (aA rfl (aA rfl (aA rfl (aA rfl eZ)))))
   ·exact (mS .here rfl (mS .here rfl (mS .here rfl (mS .here rfl (mS .here rfl mN)))))
   ·first|omega|(dsimp only; omega)
   ·exact hGl4
   show p+1≤4; omega
  have c5k:=c5
  try simp only [aC] at c5
  refine .g (aR rfl rfl rfl rfl ?_)
  refine aS rfl rfl (.nil ?_)
  obtain rfl:p=4:=by omega
  refine aZ (r+1) ?_ ?_ ?_ ?_ ?_
  ·exact (aA rfl (aA rfl (aA rfl (aA rfl eZ))))
  ·exact (mS .here rfl (mS .here rfl (mS .here rfl (mS .here rfl (mS .here rfl mN)))))
  ·first|omega|(dsimp only; omega)
  ·exact hGl2.trans (hGl3.trans hGl4)
  show r+1≤10; omega
 have c3k:=c3
 try simp only [aC] at c3
 refine .exit (.xcode (.xlp (.xblk (.code (.seq (aM rfl rfl ?_))))))
 obtain rfl:r=10:=by omega
 refine al rfl rD ?_; intro b14
 refine .nil (.code (.seq (.seq (aM rfl rfl (aS rfl rfl (.nc (.block ?_)))))))
 refine bD (α:=Nat) (fun i=>[(15,true,.int .i64 (i:Int))]) (fun i=>[.blk b14 (cl (ba 64 (fV (jV key nonce count) i)) 188)])
  (fun i Gl=>i≤64) (fun i=>64-i) 0 [(6,true,_),(7,true,_),(10,true,_),(14,true,_)] [.blk b10 _,.blk b7 _,.blk b6 _,.blk b4 _,.blk b3 _]
  (aA rfl (aA rfl (aA rfl (aA rfl (aA rfl eZ)))))
  (mS .here rfl (mS .here rfl (mS .here rfl (mS .here rfl (mS .here rfl (mS .here rfl mN)))))) ?_ ?_
 ·show 0≤64; omega
 intro i N5 Gl5 hN5 hGl5 hF5
 try dsimp only at hF5 hN5 ⊢
 have hi:i≤64:=hF5
 refine .g (cP rfl rfl rfl rfl (.g (cD rfl (fun c6=>?_) (fun c6=>?_))))
 ·have c6k:=c6
  try simp only [aC] at c6
  refine .g (bH (mc:=⟨false,false⟩) [0,1,2,3,4,5,6,7,8,9] aV (by kernel_rfl) ?_)
  refine .p (qu rfl .no (.u rfl) (.u rfl) (fun _=>by decide) ?_)
  refine iA rfl .no bY (.u rfl) (.u rfl) (fun _=>by rw [wP i rfl (by omega)]; omega) (fun _=>by rw [wP i rfl (by omega)]; omega) ?_
  refine lO rfl bG rfl aF (bF (i / 4) (by rw [wP i rfl (by omega)]; omega) (by omega)) ?_
  refine .p (qu rfl .no (.u rfl) (.u rfl) (fun _=>by decide) ?_)
  refine iA rfl .no bY (.u rfl) (.u rfl) (fun _=>by rw [wP i rfl (by omega)]; omega) (fun _=>by rw [wP i rfl (by omega)]; omega) ?_
  refine lO rfl bG rfl aQ (bF (i / 4) (by rw [wP i rfl (by omega)]; omega) (by omega)) ?_
  refine bw (k:=.u32) rfl .no rfl (.u rfl) (.u rfl) rfl (.g (rm rfl .no (.u rfl) (.u rfl) (fun _=>by decide) ?_))
  refine ar rfl .no (.u rfl) (.u rfl) rfl (fun _=>cB (by rw [nT i rfl]; omega) (by rw [nT i rfl]; omega)) ?_
  refine gY (k:=.u32) rfl .no (.u rfl) (.u rfl) (fun _=>by rw [nT i rfl]; omega) ?_
  refine cu (k:=.u32) rfl .no rfl vD (.u rfl) ?_
  refine iW rfl jK rfl rfl ?_
  refine s1 rfl (.u rfl) (.u rfl) rfl gF .here (by rw [aU]; omega) (hZ i (by omega)) ?_
  refine .g (aR rfl rfl rfl rfl ?_)
  refine .g (aZ (i+1) ?_ ?_ ?_ ?_ ?_)
  ·exact (aA rfl (aA rfl (aA rfl (aA rfl (aA rfl eZ)))))
  ·exact (mS .here (aOx (nT i rfl)) (mS .here rfl (mS .here rfl (mS .here rfl (mS .here rfl (mS .here rfl mN))))))
  ·first|omega|(dsimp only; omega)
  ·exact hGl5
  show i+1≤64; omega
 have c6k:=c6
 try simp only [aC] at c6
 refine .g (lB rfl gM rfl .here ?_)
 refine sw rfl (.u rfl) (.u rfl) rfl jT bP rfl (dV _ _) ?_
 refine .nil (.code (.ret (aP Tryz.results138 (.cell rfl (fun w hw=>bK gM (RdN.own .here) rfl hw) .nil) ?_)))
 obtain rfl:i=64:=by omega
 exact ⟨rfl,by rw [iK (fun i hi=>(kC (jV key nonce count) hi).symm)]; rfl⟩
theorem jM:cH Tryz.prog 137=some (139,1,4):=by kernel_rfl
theorem aK4:(cH Tryz.prog 137).isSome=true:=by kernel_rfl
theorem aKd:aT Tryz.prog 150=true:=by kernel_rfl
theorem aAN:aT Tryz.prog 151=true:=by kernel_rfl
theorem aJm (y:Nat→W) (f:Nat→Y) (m bt bk off n cap kn:Nat) (T T2:TypeId) (G:PM) (hm:off+n≤m) (hk4:4*n≤kn) (hn:n≤1000):Ct Tryz.prog 150 ([(Sh.mk (some ⟨bt,off,none⟩) cap).val n,(Sh.mk (some ⟨bk,0,none⟩) kn).val kn]:List Value).toArray G ([.blk bt (cl (wa m y) T),.blk bk (cl (ba kn f) T2)]:aG) (fun G' μ' u=>μ'=[.blk bt (cl (wa m (lY y f off n)) T),.blk bk (cl (ba kn f) T2)]∧u=.tuple #[]):=by
 refine Ct.of Tryz.func150 rfl Tryz.ntmps150 rfl fun w0 hs0=>?_
 refine .g (lE rfl aK4 rfl (mV rfl rfl (.nc (.block ?_))))
 refine bD (α:=Nat) (fun i=>[(8,true,.int .i64 (i:Int))]) (fun i=>[.blk bt (cl (wa m (lY y f off i)) T)])
  (fun i Gl=>i≤n) (fun i=>n-i) 0 [(0,true,_),(1,true,_),(7,true,_)] [.blk bk _]
  (aA rfl (aA rfl (aA rfl (aA rfl eZ))))
  (mS .here rfl (mS .here rfl mN)) ?_ ?_
 ·show 0≤n; omega
 intro i N0 Gl0 hN0 hGl0 hF0
 try dsimp only at hF0 hN0 ⊢
 have hi:i≤n:=hF0
 refine .g (cP rfl rfl rfl rfl (.g (cD rfl (fun c1=>?_) (fun c1=>?_))))
 ·have c1k:=c1
  try simp only [aC] at c1
  refine .skip (.code (.seq (.block (.seq (bE rfl rfl (mV rfl rfl (aS rfl rfl (.nc (.seq (aM rfl rfl (aS rfl rfl (.nc (.block ?_)))))))))))))
  refine bD (α:=Nat) (fun c=>[(5,true,.int .i64 (3-(c:Int)))]) (fun c=>[.blk bt (cl (wa m (bA (lY y f off i) (off+i) (pO (lY y f off i (off+i)) f i c))) T)])
   (fun c Gl=>c≤4) (fun c=>4-c) 0 [(0,true,_),(1,true,_),(4,true,_),(7,true,_),(8,true,_)] [.blk bk _]
   (aA rfl (aA rfl (aA rfl (aA rfl (aA rfl (aA rfl eZ))))))
   (mS .here aSf (mS .here rfl mN)) ?_ ?_
  ·show 0≤4; omega
  intro c N1 Gl1 hN1 hGl1 hF1
  try dsimp only at hF1 hN1 ⊢
  have hc:c≤4:=hF1
  refine .g (cP rfl rfl rfl rfl (.g (cD rfl (fun c2=>?_) (fun c2=>?_))))
  ·have c2k:=c2
   try simp only [aC] at c2
   refine .g (bH (mc:=⟨false,false⟩) [0,1,2,3,4,5,6,7,8,9,10,11,12,13,14,15,16,17] aV (by kernel_rfl) ?_)
   refine mV rfl rfl (mV rfl rfl (mV rfl rfl (mV rfl rfl (ih rfl .no jM (.u rfl) (.u rfl) (by omega) (by omega) (fun _=>rfl) ?_))))
   refine lO rfl bG rfl .here (bF (off+i) (by show off+_*1=off+i; omega) (by omega)) ?_
   refine lw (k:=.u32) rfl .no rfl (.u rfl) (.u rfl) (fun _=>by decide) ?_
   refine .p (aR rfl rfl rfl rfl ?_)
   refine .p (aR rfl rfl rfl rfl ?_)
   refine ih rfl .no aH (.u rfl) (.u rfl) (by omega) (by omega) (fun _=>rfl) ?_
   refine lO rfl bW rfl aF (cM (4*i+(3-c)) (by show 0+_*1=_; omega) (by omega)) ?_
   refine cu (k:=.u8) rfl .no rfl oQ (.u rfl) ?_
   refine bw (k:=.u32) rfl .no rfl (.u rfl) (.u rfl) rfl (ih rfl .no jM (.u rfl) (.u rfl) (by omega) (by omega) (fun _=>rfl) ?_)
   refine s1 rfl (.u rfl) (.u rfl) rfl dY .here (by rw [bO]; show off+_*1<m; omega) (cV (off+i) (by show off+_*1=off+i; omega)) ?_
   refine .g (aR rfl rfl rfl rfl ?_)
   refine .g (aZ (c+1) ?_ ?_ ?_ ?_ ?_)
   ·exact (eY rfl (congrArg _ (by omega)) (aA rfl (aA rfl (aA rfl (aA rfl (aA rfl eZ))))))
   ·exact (mS .here (aSg (by rw [uV]; rfl)) (mS .here rfl mN))
   ·first|omega|(dsimp only; omega)
   ·exact hGl1
   show c+1≤4; omega
  have c2k:=c2
  try simp only [aC] at c2
  refine .g (aR rfl rfl rfl rfl ?_)
  refine .g (aZ (i+1) ?_ ?_ ?_ ?_ ?_)
  ·exact (aA rfl (aA rfl (aA rfl (aA rfl eZ))))
  ·exact (mS .here (aSe (by omega)) (mS .here rfl mN))
  ·first|omega|(dsimp only; omega)
  ·exact hGl0.trans hGl1
  show i+1≤n; omega
 have c1k:=c1
 try simp only [aC] at c1
 refine .g (We.fin Tryz.results150 .nil (mS .here rfl (mS .here rfl mN)) ?_)
 obtain rfl:i=n:=by omega
 exact ⟨rfl,rfl⟩
theorem aJu (key nonce:Nat→Y) (count:W) (G:PM):Ct Tryz.prog 136 ([.agg (ba 32 key).toArray,.agg (ba 12 nonce).toArray,U count]:List Value).toArray G [] (fun _ μ' u=>μ'=[]∧u=.agg (ba 64 (jV key nonce count)).toArray):=by
 refine Ct.of Tryz.func136 rfl Tryz.ntmps136 rfl fun w0 hs0=>?_
 refine .seq (fC rfl rfl ?_)
 refine bX rfl rfl rfl ?_; intro b3
 refine bX rfl rfl rfl ?_; intro b4
 refine al rfl rD ?_; intro b6
 refine .g (bC rfl .no aJ3 (.cons (.u rfl) rfl (.cons (.u rfl) rfl (.cons (.u rfl) rfl (.cons (.u rfl) rfl .nil)))) rfl ?_)
 refine al rfl aAV ?_; intro b7
 refine sw rfl (.u rfl) (.u rfl) rfl vK .here rfl (by decide) ?_
 refine .g (bH (mc:=⟨true,false⟩) [0,1,2] aV (by kernel_rfl) ?_)
 refine sab rfl .no bY (.u rfl) (.u rfl) (.u rfl) (fun _=>by decide) (fun _=>by decide) (fun _=>by decide) (fun _=>by decide) ?_
 refine lV rfl .no tN (.u rfl) (ka rfl (.inl rfl) aKd (aB rfl (aB rfl aE)) (aJA .here aQ) (aJm (x0) key 16 b7 b3 4 8 12 32 198 22 _ (by decide) (by decide) (by decide)) ?_)
 rintro u G2 μ2 hG2 ⟨rfl,rfl⟩
 simp only [cR,List.cons_append,List.nil_append,aD1,aD2]
 refine .g (iW rfl bY rfl rfl ?_)
 refine s1 rfl (.u rfl) (.u rfl) rfl dY .here (by rw [bO]; decide) (cV 12 rfl) ?_
 refine .g (bH (mc:=⟨true,false⟩) [0,1,2] aV (by kernel_rfl) ?_)
 refine sal rfl .no bY (.u rfl) (.u rfl) (fun _=>by decide) (fun _=>by decide) ?_
 refine lV rfl .no aJ2 (.u rfl) (ka rfl (.inl rfl) aKd (aB rfl (aB rfl aE)) (aJA .here aQ) (aJm (bA (x1 key 8) 12 count) nonce 16 b7 b4 13 3 3 12 198 124 _ (by decide) (by decide) (by decide)) ?_)
 rintro u G2 μ2 hG2 ⟨rfl,rfl⟩
 simp only [cR,List.cons_append,List.nil_append,aD1,aD2]
 refine .g (lB rfl xI rfl .here ?_)
 refine al rfl aAV ?_; intro b8
 refine sw rfl (.u rfl) (.u rfl) rfl vK .here rfl (mU _ _) ?_
 refine .nil (.code (.seq (.seq (aM rfl rfl (mV rfl rfl (.nc (.block ?_)))))))
 refine bD (α:=Nat) (fun r=>[(24,true,.int .i64 (r:Int))]) (fun r=>[.blk b8 (cl (wa 16 (nP (x2 key nonce count 3) r)) 198)])
  (fun r Gl=>r≤10) (fun r=>10-r) 0 [(6,true,_),(7,true,_),(8,true,_)] [.blk b7 _,.blk b4 _,.blk b3 _,.blk b6 _]
  (aA rfl (aA rfl (aA rfl (aA rfl eZ))))
  (mS .here rfl (mS .here rfl (mS .here rfl (mS .here rfl (mS .here rfl mN))))) ?_ ?_
 ·show 0≤10; omega
 intro r N0 Gl0 hN0 hGl0 hF0
 try dsimp only at hF0 hN0 ⊢
 have hr:r≤10:=hF0
 refine .g (cP rfl rfl rfl rfl (.g (cD rfl (fun c1=>?_) (fun c1=>?_))))
 ·have c1k:=c1
  try simp only [aC] at c1
  refine .skip (.code (.seq (.block (.seq (.seq (aM rfl rfl (mV rfl rfl (.nc (.block ?_)))))))))
  refine bD (α:=Nat) (fun q=>[(26,true,.int .i64 (q:Int))]) (fun q=>[.blk b8 (cl (wa 16 (aAl (nP (x2 key nonce count 3) r) q)) 198)])
   (fun q Gl=>q≤4) (fun q=>4-q) 0 [(6,true,_),(7,true,_),(8,true,_),(24,true,_)] [.blk b7 _,.blk b4 _,.blk b3 _,.blk b6 _]
   (aA rfl (aA rfl (aA rfl (aA rfl (aA rfl eZ)))))
   (mS .here rfl (mS .here rfl (mS .here rfl (mS .here rfl (mS .here rfl mN))))) ?_ ?_
  ·show 0≤4; omega
  intro q N1 Gl1 hN1 hGl1 hF1
  try dsimp only at hF1 hN1 ⊢
  have hq:q≤4:=hF1
  refine .g (cP rfl rfl rfl rfl (.g (cD rfl (fun c2=>?_) (fun c2=>?_))))
  ·have c2k:=c2
   try simp only [aC] at c2
   refine .g (bH (mc:=⟨false,false⟩) [0,1,2,3,4,5,6,7,8,9,10,11,12,13,14,15,16,17,18,19,20,21,22,23,24,25,26,27,28,29,30,31,32,33,34,35] aV (by kernel_rfl) ?_)
   refine .p (aR rfl rfl rfl rfl ?_)
   refine .p (aR rfl rfl rfl rfl ?_)
   refine .p (aR rfl rfl rfl rfl ?_)
   refine .p (iW rfl bY rfl rfl ?_)
   refine lO rfl bG rfl .here (bF q (by omega) (by omega)) ?_
   refine .p (aR rfl rfl rfl rfl ?_)
   refine iW rfl bY rfl rfl ?_
   refine lO rfl bG rfl .here (bF (4+q) (by omega) (by omega)) ?_
   refine .p (aR rfl rfl rfl rfl ?_)
   refine iW rfl bY rfl rfl ?_
   refine lO rfl bG rfl .here (bF (8+q) (by omega) (by omega)) ?_
   refine .p (aR rfl rfl rfl rfl ?_)
   refine iW rfl bY rfl rfl ?_
   refine lO rfl bG rfl .here (bF (12+q) (by omega) (by omega)) ?_
   refine kV rfl aAN (aB rfl (aB rfl (aB rfl (aB rfl aE)))) (yW _ _ _ _ _) ?_
   refine .p (eX rfl rfl rfl (eX rfl rfl rfl (eX rfl rfl rfl (eX rfl rfl rfl (iW rfl bY rfl rfl ?_)))))
   refine s1 rfl (.u rfl) (.u rfl) rfl dY .here (by rw [bO]; omega) (cV q (by omega)) ?_
   refine iW rfl bY rfl rfl ?_
   refine s1 rfl (.u rfl) (.u rfl) rfl dY .here (by rw [bO]; omega) (cV (4+q) (by omega)) ?_
   refine iW rfl bY rfl rfl ?_
   refine s1 rfl (.u rfl) (.u rfl) rfl dY .here (by rw [bO]; omega) (cV (8+q) (by omega)) ?_
   refine iW rfl bY rfl rfl ?_
   refine s1 rfl (.u rfl) (.u rfl) rfl dY .here (by rw [bO]; omega) (cV (12+q) (by omega)) ?_
   refine .g (aR rfl rfl rfl rfl ?_)
   refine .g (aZ (q+1) ?_ ?_ ?_ ?_ ?_)
   ·exact (aA rfl (aA rfl (aA rfl (aA rfl (aA rfl eZ)))))
   ·exact (mS .here rfl (mS .here rfl (mS .here rfl (mS .here rfl (mS .here rfl mN)))))
   ·first|omega|(dsimp only; omega)
   ·exact hGl1
   show q+1≤4; omega
  have c2k:=c2
  try simp only [aC] at c2
  refine .exit (.xcode (.xlp (.xblk (.code (.seq (mF [0,1,2,3,4,5,6,7,8,9,10,11,12,13,14,15,16,17,18,19,20,21] rfl rfl ?_))))))
  obtain rfl:q=4:=by omega
  simp only [aFq (nP (x2 key nonce count 3) r) 4 (Nat.le_refl 4)]
  refine iW rfl bY rfl rfl ?_
  refine lO rfl bG rfl .here (bF 0 rfl (by decide)) ?_
  refine iW rfl bY rfl rfl ?_
  refine lO rfl bG rfl .here (bF 5 rfl (by decide)) ?_
  refine iW rfl bY rfl rfl ?_
  refine lO rfl bG rfl .here (bF 10 rfl (by decide)) ?_
  refine iW rfl bY rfl rfl ?_
  refine lO rfl bG rfl .here (bF 15 rfl (by decide)) ?_
  refine kV rfl aAN (aB rfl (aB rfl (aB rfl (aB rfl aE)))) (yW _ _ _ _ _) ?_
  refine .p (eX rfl rfl rfl (eX rfl rfl rfl (eX rfl rfl rfl (eX rfl rfl rfl (iW rfl bY rfl rfl ?_)))))
  refine s1 rfl (.u rfl) (.u rfl) rfl dY .here (by rw [bO]; decide) (cV 0 rfl) ?_
  refine iW rfl bY rfl rfl ?_
  refine s1 rfl (.u rfl) (.u rfl) rfl dY .here (by rw [bO]; decide) (cV 5 rfl) ?_
  refine iW rfl bY rfl rfl ?_
  refine s1 rfl (.u rfl) (.u rfl) rfl dY .here (by rw [bO]; decide) (cV 10 rfl) ?_
  refine iW rfl bY rfl rfl ?_
  refine s1 rfl (.u rfl) (.u rfl) rfl dY .here (by rw [bO]; decide) (cV 15 rfl) ?_
  refine .g (iW rfl bY rfl rfl ?_)
  refine lO rfl bG rfl .here (bF 1 rfl (by decide)) ?_
  refine iW rfl bY rfl rfl ?_
  refine lO rfl bG rfl .here (bF 6 rfl (by decide)) ?_
  refine iW rfl bY rfl rfl ?_
  refine lO rfl bG rfl .here (bF 11 rfl (by decide)) ?_
  refine iW rfl bY rfl rfl ?_
  refine lO rfl bG rfl .here (bF 12 rfl (by decide)) ?_
  refine kV rfl aAN (aB rfl (aB rfl (aB rfl (aB rfl aE)))) (yW _ _ _ _ _) ?_
  refine .p (eX rfl rfl rfl (eX rfl rfl rfl (eX rfl rfl rfl (eX rfl rfl rfl (iW rfl bY rfl rfl ?_)))))
  refine s1 rfl (.u rfl) (.u rfl) rfl dY .here (by rw [bO]; decide) (cV 1 rfl) ?_
  refine iW rfl bY rfl rfl ?_
  refine s1 rfl (.u rfl) (.u rfl) rfl dY .here (by rw [bO]; decide) (cV 6 rfl) ?_
  refine iW rfl bY rfl rfl ?_
  refine s1 rfl (.u rfl) (.u rfl) rfl dY .here (by rw [bO]; decide) (cV 11 rfl) ?_
  refine iW rfl bY rfl rfl ?_
  refine s1 rfl (.u rfl) (.u rfl) rfl dY .here (by rw [bO]; decide) (cV 12 rfl) ?_
  refine .g (iW rfl bY rfl rfl ?_)
  refine lO rfl bG rfl .here (bF 2 rfl (by decide)) ?_
  refine iW rfl bY rfl rfl ?_
  refine lO rfl bG rfl .here (bF 7 rfl (by decide)) ?_
  refine iW rfl bY rfl rfl ?_
  refine lO rfl bG rfl .here (bF 8 rfl (by decide)) ?_
  refine iW rfl bY rfl rfl ?_
  refine lO rfl bG rfl .here (bF 13 rfl (by decide)) ?_
  refine kV rfl aAN (aB rfl (aB rfl (aB rfl (aB rfl aE)))) (yW _ _ _ _ _) ?_
  refine .p (eX rfl rfl rfl (eX rfl rfl rfl (eX rfl rfl rfl (eX rfl rfl rfl (iW rfl bY rfl rfl ?_)))))
  refine s1 rfl (.u rfl) (.u rfl) rfl dY .here (by rw [bO]; decide) (cV 2 rfl) ?_
  refine iW rfl bY rfl rfl ?_
  refine s1 rfl (.u rfl) (.u rfl) rfl dY .here (by rw [bO]; decide) (cV 7 rfl) ?_
  refine iW rfl bY rfl rfl ?_
  refine s1 rfl (.u rfl) (.u rfl) rfl dY .here (by rw [bO]; decide) (cV 8 rfl) ?_
  refine iW rfl bY rfl rfl ?_
  refine s1 rfl (.u rfl) (.u rfl) rfl dY .here (by rw [bO]; decide) (cV 13 rfl) ?_
  refine .g (iW rfl bY rfl rfl ?_)
  refine lO rfl bG rfl .here (bF 3 rfl (by decide)) ?_
  refine iW rfl bY rfl rfl ?_
  refine lO rfl bG rfl .here (bF 4 rfl (by decide)) ?_
  refine iW rfl bY rfl rfl ?_
  refine lO rfl bG rfl .here (bF 9 rfl (by decide)) ?_
  refine iW rfl bY rfl rfl ?_
  refine lO rfl bG rfl .here (bF 14 rfl (by decide)) ?_
  refine kV rfl aAN (aB rfl (aB rfl (aB rfl (aB rfl aE)))) (yW _ _ _ _ _) ?_
  refine .p (eX rfl rfl rfl (eX rfl rfl rfl (eX rfl rfl rfl (eX rfl rfl rfl (iW rfl bY rfl rfl ?_)))))
  refine s1 rfl (.u rfl) (.u rfl) rfl dY .here (by rw [bO]; decide) (cV 3 rfl) ?_
  refine iW rfl bY rfl rfl ?_
  refine s1 rfl (.u rfl) (.u rfl) rfl dY .here (by rw [bO]; decide) (cV 4 rfl) ?_
  refine iW rfl bY rfl rfl ?_
  refine s1 rfl (.u rfl) (.u rfl) rfl dY .here (by rw [bO]; decide) (cV 9 rfl) ?_
  refine iW rfl bY rfl rfl ?_
  refine s1 rfl (.u rfl) (.u rfl) rfl dY .here (by rw [bO]; decide) (cV 14 rfl) ?_
  refine .g (aR rfl rfl rfl rfl ?_)
  refine .g (aZ (r+1) ?_ ?_ ?_ ?_ ?_)
  ·exact (aA rfl (aA rfl (aA rfl (aA rfl eZ))))
  ·exact (mS .here (congrArg (fun z=>Res.blk b8 (cl (wa 16 z) 198)) (aMx (rJ (nP (x2 key nonce count 3) r) 4))) (mS .here rfl (mS .here rfl (mS .here rfl (mS .here rfl mN)))))
  ·first|omega|(dsimp only; omega)
  ·exact hGl0.trans hGl1
  show r+1≤10; omega
 have c1k:=c1
 try simp only [aC] at c1
 refine .exit (.xcode (.xlp (.xblk (.code (.seq (aM rfl rfl ?_))))))
 obtain rfl:r=10:=by omega
 refine al rfl rD ?_; intro b10
 refine .nil (.code (.seq (.seq (aM rfl rfl (mV rfl rfl (.nc (.block ?_)))))))
 refine bD (α:=Nat) (fun i=>[(135,true,.int .i64 (i:Int))]) (fun i=>[.blk b10 (cl (ba 64 (fV (jV key nonce count) (4*i))) 188)])
  (fun i Gl=>i≤16) (fun i=>16-i) 0 [(6,true,_),(7,true,_),(8,true,_),(10,true,_)] [.blk b8 _,.blk b7 _,.blk b4 _,.blk b3 _,.blk b6 _]
  (aA rfl (aA rfl (aA rfl (aA rfl (aA rfl eZ)))))
  (mS .here rfl (mS .here rfl (mS .here rfl (mS .here rfl (mS .here rfl (mS .here rfl mN)))))) ?_ ?_
 ·show 0≤16; omega
 intro i N2 Gl2 hN2 hGl2 hF2
 try dsimp only at hF2 hN2 ⊢
 have hi:i≤16:=hF2
 refine .g (cP rfl rfl rfl rfl (.g (cD rfl (fun c3=>?_) (fun c3=>?_))))
 ·have c3k:=c3
  try simp only [aC] at c3
  refine .g (bH (mc:=⟨false,false⟩) [0,1,2,3,4,5,6,7] aV (by kernel_rfl) ?_)
  refine .p (iW rfl bY rfl rfl ?_)
  refine lO rfl bG rfl aF (bF i (by omega) (by omega)) ?_
  refine .p (iW rfl bY rfl rfl ?_)
  refine lO rfl bG rfl aQ (bF i (by omega) (by omega)) ?_
  refine bw (k:=.u32) rfl .no rfl (.u rfl) (.u rfl) rfl (aS rfl rfl (.nc (.seq (aM rfl rfl (mV rfl rfl (.nc (.block ?_)))))))
  refine bD (α:=Nat) (fun c=>[(12,true,U (yE key nonce count i >>> (8*c))),(145,true,.int .i64 (c:Int))]) (fun c=>[.blk b10 (cl (ba 64 (fV (jV key nonce count) (4*i+c))) 188)])
   (fun c Gl=>c≤4) (fun c=>4-c) 0 [(6,true,_),(7,true,_),(8,true,_),(10,true,_),(11,true,_),(135,true,_)] [.blk b8 _,.blk b7 _,.blk b4 _,.blk b3 _,.blk b6 _]
   (eY rfl aRG (aA rfl (aA rfl (aA rfl (aA rfl (aA rfl (aA rfl (aA rfl eZ))))))))
   (mS .here rfl (mS .here rfl (mS .here rfl (mS .here rfl (mS .here rfl (mS .here rfl mN)))))) ?_ ?_
  ·show 0≤4; omega
  intro c N3 Gl3 hN3 hGl3 hF3
  try dsimp only at hF3 hN3 ⊢
  have hc:c≤4:=hF3
  refine .g (cP rfl rfl rfl rfl (.g (cD rfl (fun c4=>?_) (fun c4=>?_))))
  ·have c4k:=c4
   try simp only [aC] at c4
   refine .g (aR rfl rfl rfl rfl ?_)
   refine .p (aR rfl rfl rfl rfl ?_)
   refine .p (cu (k:=.u32) rfl .no rfl vD (.u rfl) ?_)
   refine iW rfl jK rfl rfl ?_
   refine s1 rfl (.u rfl) (.u rfl) rfl gF .here (by rw [aU]; omega) (hZ (4*i+c) (by omega)) ?_
   refine .g (gY (k:=.u32) rfl .no (.u rfl) (.u rfl) (fun _=>by decide) ?_)
   refine .g (aR rfl rfl rfl rfl ?_)
   refine .g (aZ (c+1) ?_ ?_ ?_ ?_ ?_)
   ·exact (eY rfl aRF (aA rfl (aA rfl (aA rfl (aA rfl (aA rfl (aA rfl (aA rfl eZ))))))))
   ·exact (mS .here (aOw (by omega)) (mS .here rfl (mS .here rfl (mS .here rfl (mS .here rfl (mS .here rfl mN))))))
   ·first|omega|(dsimp only; omega)
   ·exact hGl3
   show c+1≤4; omega
  have c4k:=c4
  try simp only [aC] at c4
  refine .g (aR rfl rfl rfl rfl ?_)
  refine mV rfl rfl (.nil ?_)
  obtain rfl:c=4:=by omega
  refine aZ (i+1) ?_ ?_ ?_ ?_ ?_
  ·exact (aA rfl (aA rfl (aA rfl (aA rfl (aA rfl eZ)))))
  ·exact (mS .here rfl (mS .here rfl (mS .here rfl (mS .here rfl (mS .here rfl (mS .here rfl mN))))))
  ·first|omega|(dsimp only; omega)
  ·exact hGl2.trans hGl3
  show i+1≤16; omega
 have c3k:=c3
 try simp only [aC] at c3
 refine .g (lB rfl gM rfl .here ?_)
 refine sw rfl (.u rfl) (.u rfl) rfl jT nS rfl (dV _ _) ?_
 refine .nil (.code (.ret (aP Tryz.results136 (.cell rfl (fun w hw=>bK gM (RdN.own .here) rfl hw) .nil) ?_)))
 obtain rfl:i=16:=by omega
 exact ⟨rfl,by rw [iK (fun i hi=>(kC (jV key nonce count) hi).symm)]; rfl⟩
theorem aTw:iX Tryz.prog 192=some (wa 64 (fun _=>0#32)):=by kernel_rfl
theorem qU:iH Tryz.prog 192=some (64,139,1):=by kernel_rfl
theorem qZ:aT Tryz.prog 152=true:=by kernel_rfl
theorem oS:cL Tryz.prog 168 0=some 0:=by kernel_rfl
theorem dI:iH Tryz.prog 166=some (8,139,1):=by kernel_rfl
theorem aBw:gG Tryz.prog 166 [0,1,2,3,4,5,6,7]=some ([.int .u32 0,.int .u32 0,.int .u32 0,.int .u32 0,.int .u32 0,.int .u32 0,.int .u32 0,.int .u32 0],[(0,1),(1,1),(2,1),(3,1),(4,1),(5,1),(6,1),(7,1)]):=by kernel_rfl
theorem qK (x:W) (k:Nat) (G:PM) (hk:k∈[2,6,7,11,13,17,18,19,22,25]):Ct Tryz.prog 152 ([U x,.int .i64 (k:Int)]:List Value).toArray G [] (fun _ μ' u=>μ'=[]∧u=U (iJ x k)):=by
 refine Ct.of Tryz.func152 rfl Tryz.ntmps152 rfl fun w0 hs0=>?_
 have hk2:k≤31:=by simp only [List.mem_cons,List.not_mem_nil,or_false] at hk; omega
 refine .g (ng rfl .no (.u rfl) (fun _=>cB (by omega) (by omega)) ?_)
 refine kV rfl vH (aB rfl (aB rfl aE)) (uR _ _ _) ?_
 refine aS rfl rfl (.nc (.ret (aP Tryz.results152 (.tmp rfl .nil) ?_)))
 exact ⟨rfl,by rw [← aQV hk]; rfl⟩
set_option maxHeartbeats 1000000 in
theorem aCW (s:Nat→W) (xs:List Y) (h:Sh) (vp nn:Value) (bs:Nat) (G:PM) (hs:SlR G 1 aL h xs) (hK:RdNP G 1 0 (wa 64 kW)) (hl:64≤xs.length):Ct Tryz.prog 137 ([.pointer (some ⟨bs,0,none⟩),h.val xs.length]:List Value).toArray G [.blk bs (cl (wa 8 s++[vp,nn]) 168)] (fun _ μ' u=>μ'=[.blk bs (cl (wa 8 (oM s (fun i=>xs.getD i 0))++[vp,nn]) 168)]∧u=.tuple #[]):=by
 refine Ct.of Tryz.func137 rfl Tryz.ntmps137 rfl fun w0 hs0=>?_
 refine .seq (aM rfl rfl ?_)
 refine al rfl aTw ?_; intro b4
 refine .nil (.code (.seq (.seq (aM rfl rfl (mV rfl rfl (.nc (.block ?_)))))))
 refine bD (α:=Nat×(Nat→W)) (fun gh=>[(24,true,.int .i64 (gh.1:Int))]) (fun gh=>[.blk b4 (cl (wa 64 gh.2) 192)])
  (fun gh Gl=>(gh.1≤16)∧(gh.2=nU (fun i=>xs.getD i 0) gh.1)) (fun gh=>16-gh.1) (0,fun _=>0#32) [(0,true,_),(1,true,_),(4,true,_)] [_]
  (aO rfl (aA rfl (aA rfl (aA rfl eZ))))
  (mS .here rfl (mS .here rfl mN)) ?_ ?_
 ·refine ⟨?_,?_⟩
  ·(try dsimp only)<;>(first|omega|rfl|assumption|(simp; done))
  (try dsimp only)<;>(first|omega|rfl|assumption|(simp; done))
 intro gh N0 Gl0 hN0 hGl0 hF0
 obtain ⟨k,y⟩:=gh; dsimp only at hF0 hN0 ⊢
 obtain ⟨hk,ey⟩:=hF0
 have hs:=hs.mono hGl0
 have hK:=hK.mono hGl0
 refine .g (cP rfl rfl rfl rfl (.g (cD rfl (fun c1=>?_) (fun c1=>?_))))
 ·have c1k:=c1
  try simp only [aC,aD] at c1
  refine .g (aW (((4*k):Nat):Int) rfl rfl rfl rfl ?_)
  refine .p (aW (((4*k):Nat):Int) rfl rfl rfl rfl ?_)
  refine dR ((((4*k)+4):Nat):Int) rfl .no (.u rfl) (.u rfl) rfl (by omega) (fun _=>cB (by omega) (by omega)) ?_
  refine kS ((4*k)) (((4*k)+4)) rfl .no aH hs (.u rfl) (.u rfl) (.u rfl) (by omega) (by omega) (by omega) (by omega) ?_
  intro h33 L33 eL33 lL33 hs33
  have lL33:=lL33 rfl
  refine lE rfl bL rfl (mV rfl rfl (.nc (.block ?_)))
  refine bD (α:=Nat×(Nat→W)) (fun gh=>[(35,true,.int .i64 (gh.1:Int))]) (fun gh=>[.blk b4 (cl (wa 64 gh.2) 192)])
   (fun gh Gl=>(gh.1≤4)∧(gh.2=bA y k (zQ (fun i=>xs.getD i 0) k gh.1))) (fun gh=>4-gh.1) (0,y) [(0,true,_),(1,true,_),(4,true,_),(5,true,_),(24,true,_),(33,true,_),(34,true,_)] [_]
   (aO rfl (aA rfl (aA rfl (aA rfl (aA rfl (aA rfl (aA rfl (aA rfl eZ))))))))
   (mS .here rfl (mS .here rfl mN)) ?_ ?_
  ·refine ⟨?_,?_⟩
   ·(try dsimp only)<;>(first|omega|rfl|assumption|(simp; done))
   (try dsimp only)<;>(rw [ey]; exact (aSI _ (Nat.le_refl k)).symm)
  intro gh N1 Gl1 hN1 hGl1 hF1
  obtain ⟨c,y2⟩:=gh; dsimp only at hF1 hN1 ⊢
  obtain ⟨hc,ey2⟩:=hF1
  have hK:=hK.mono hGl1
  have hs33:=hs33.mono hGl1
  refine .g (cP rfl rfl rfl rfl (.g (cD rfl (fun c2=>?_) (fun c2=>?_))))
  ·have c2k:=c2
   try simp only [aC,aD] at c2
   refine .skip (.code (.seq (.block (.seq (fC rfl rfl (ih rfl .no aH (.u rfl) (.u rfl) (by omega) (by omega) (fun _=>hs33.nn (k:=c) (by omega)) ?_))))))
   refine lN rfl bW rfl ((hs33.yat (c) (by omega) (by omega)).rd) ?_
   refine .g (iW rfl qU rfl rfl ?_)
   refine lO rfl bG rfl .here (by first|exact bF (k) (by omega) (by omega)|exact cM (k) (by omega) (by omega)|exact cW (k) (by omega) (by omega)|rfl) ?_
   refine lw (k:=.u32) rfl .no rfl (.u rfl) (.u rfl) (fun _=>by decide) ?_
   refine .p (cu (k:=.u8) rfl .no rfl oQ (.u rfl) ?_)
   refine bw (k:=.u32) rfl .no rfl (.u rfl) (.u rfl) rfl (iW rfl qU rfl rfl ?_)
   refine s1 rfl (.u rfl) (.u rfl) rfl dY .here (by first|decide|(simp only [bO,aU,bJ]; omega)) (by first|exact cV (k) (by omega)|exact hZ (k) (by omega)|exact lZ (k) (by omega) (by omega)|rfl) ?_
   refine .g (aW (((c+1):Nat):Int) rfl rfl rfl rfl ?_)
   refine .g (aZ (c+1,bA y2 k (y2 k <<< Int.toNat 8 ||| BitVec.setWidth 32 (L33.getD c 0))) ?_ ?_ ?_ ?_ ?_)
   ·exact (aO rfl (aA rfl (aA rfl (aA rfl (aA rfl (aA rfl (aA rfl (aA rfl eZ))))))))
   ·exact (mS .here rfl (mS .here rfl mN))
   ·first|omega|(dsimp only; omega)
   ·exact hGl1
   refine ⟨?_,?_⟩
   ·(try dsimp only)<;>(first|omega|rfl|assumption|(simp; done))
   (try dsimp only)<;>(rw [ey2,uV,aEH,zQ,eL33,aGh (by omega)]; rfl)
  have c2k:=c2
  try simp only [aC,aD] at c2
  refine .g (aW (((k+1):Nat):Int) rfl rfl rfl rfl ?_)
  refine .g (aZ (k+1,y2) ?_ ?_ ?_ ?_ ?_)
  ·exact (aO rfl (aA rfl (aA rfl (aA rfl eZ))))
  ·exact (mS .here rfl (mS .here rfl mN))
  ·first|omega|(dsimp only; omega)
  ·exact (hGl0).trans hGl1
  refine ⟨?_,?_⟩
  ·(try dsimp only)<;>(first|omega|rfl|assumption|(simp; done))
  (try dsimp only)<;>(obtain rfl:c=4:=(by omega); rw [ey2,ey,aQ1]; rfl)
 have c1k:=c1
 try simp only [aC,aD] at c1
 refine .exit (.xcode (.xlp (.xblk (.code (.seq (.seq ?_))))))
 obtain rfl:k=16:=by omega
 refine aM rfl rfl (aS rfl rfl (.nc (.block ?_)))
 refine bD (α:=Nat×(Nat→W)) (fun gh=>[(8,true,.int .i64 ((16+gh.1:Nat):Int))]) (fun gh=>[.blk b4 (cl (wa 64 gh.2) 192)])
  (fun gh Gl=>(gh.1≤48)∧(gh.2=iQ (fun i=>xs.getD i 0) gh.1)) (fun gh=>48-gh.1) (0,_) [(0,true,_),(4,true,_)] [_]
  (aO rfl (aA rfl (aA rfl eZ)))
  (mS .here rfl (mS .here rfl mN)) ?_ ?_
 ·refine ⟨?_,?_⟩
  ·(try dsimp only)<;>(first|omega|rfl|assumption|(simp; done))
  (try dsimp only)<;>(first|omega|rfl|assumption|(simp; done))
 intro gh N2 Gl2 hN2 hGl2 hF2
 obtain ⟨k1,y⟩:=gh; dsimp only at hF2 hN2 ⊢
 obtain ⟨hk1,ey⟩:=hF2
 have hK:=hK.mono hGl2
 refine .g (cP rfl rfl rfl rfl (.g (cD rfl (fun c3=>?_) (fun c3=>?_))))
 ·have c3k:=c3
  try simp only [aC,aD] at c3
  refine .g (bH (mc:=⟨false,false⟩) [0,1,2,3,4,5,6,7,8,9] aV (by kernel_rfl) ?_)
  refine .p (aW (((1+k1):Nat):Int) rfl rfl rfl rfl ?_)
  refine iW rfl qU rfl rfl ?_
  refine lO rfl bG rfl .here (by first|exact bF ((1+k1)) (by omega) (by omega)|exact cM ((1+k1)) (by omega) (by omega)|exact cW ((1+k1)) (by omega) (by omega)|rfl) ?_
  refine .p (aW (((14+k1):Nat):Int) rfl rfl rfl rfl ?_)
  refine iW rfl qU rfl rfl ?_
  refine lO rfl bG rfl .here (by first|exact bF ((14+k1)) (by omega) (by omega)|exact cM ((14+k1)) (by omega) (by omega)|exact cW ((14+k1)) (by omega) (by omega)|rfl) ?_
  refine .g (bH (mc:=⟨false,false⟩) [0,1,2,3,4,5,6,7,8,9,10,12,15,16,19,21,24,25,11,13,14,17,18,20,22,23,26,27,28,29] aV (by kernel_rfl) ?_)
  refine .p (aW ((k1:Nat):Int) rfl rfl rfl rfl ?_)
  refine iW rfl qU rfl rfl ?_
  refine lO rfl bG rfl .here (by first|exact bF (k1) (by omega) (by omega)|exact cM (k1) (by omega) (by omega)|exact cW (k1) (by omega) (by omega)|rfl) ?_
  refine .p (aW (((9+k1):Nat):Int) rfl rfl rfl rfl ?_)
  refine iW rfl qU rfl rfl ?_
  refine lO rfl bG rfl .here (by first|exact bF ((9+k1)) (by omega) (by omega)|exact cM ((9+k1)) (by omega) (by omega)|exact cW ((9+k1)) (by omega) (by omega)|rfl) ?_
  refine bw (k:=.u32) rfl .no rfl (.u rfl) (.u rfl) rfl (.p (gY (k:=.u32) rfl .no (.u rfl) (.u rfl) (fun _=>by decide) ?_))
  refine .p (gY (k:=.u32) rfl .no (.u rfl) (.u rfl) (fun _=>by decide) ?_)
  refine kV rfl qZ (aB rfl (aB rfl aE)) (qK _ 7 _ (by decide)) ?_
  refine kV rfl qZ (aB rfl (aB rfl aE)) (qK _ 18 _ (by decide)) ?_
  refine bw (k:=.u32) rfl .no rfl (.u rfl) (.u rfl) rfl (bw (k:=.u32) rfl .no rfl (.u rfl) (.u rfl) rfl (bw (k:=.u32) rfl .no rfl (.u rfl) (.u rfl) rfl (kV rfl qZ (aB rfl (aB rfl aE)) (qK _ 17 _ (by decide)) ?_)))
  refine kV rfl qZ (aB rfl (aB rfl aE)) (qK _ 19 _ (by decide)) ?_
  refine bw (k:=.u32) rfl .no rfl (.u rfl) (.u rfl) rfl (bw (k:=.u32) rfl .no rfl (.u rfl) (.u rfl) rfl (bw (k:=.u32) rfl .no rfl (.u rfl) (.u rfl) rfl (iW rfl qU rfl rfl ?_)))
  refine s1 rfl (.u rfl) (.u rfl) rfl dY .here (by first|decide|(simp only [bO,aU,bJ]; omega)) (by first|exact cV (((16+k1:Nat))) (by omega)|exact hZ (((16+k1:Nat))) (by omega)|exact lZ (((16+k1:Nat))) (by omega) (by omega)|rfl) ?_
  refine .g (dR (((((16+k1:Nat))+1):Nat):Int) rfl .no (.u rfl) (.u rfl) rfl (by omega) (fun _=>cB (by omega) (by omega)) ?_)
  refine .g (aZ (k1+1,_) (aO rfl (aA rfl (aA rfl eZ))) (mS .here rfl (mS .here rfl mN)) ?_ ?_ ?_)
  ·first|omega|(dsimp only; omega)
  ·exact hGl2
  refine ⟨?_,?_⟩
  ·(try dsimp only)<;>(first|omega|rfl|assumption|(simp; done))
  (try dsimp only)<;>(rw [ey]; rfl)
 have c3k:=c3
 try simp only [aC,aD] at c3
 refine .exit (.xcode (.xlp (.xblk (.code (.seq ?_)))))
 obtain rfl:k1=48:=by omega
 refine bH (mc:=⟨false,false⟩) [0,1,2,3,4,5,6,7,8,9,10,11,12,13,14,15,16,17,18,19,20,21,22,23,24,25,26,27,28,29,30,31,32,33,34,35,36,37,38,39,40,41,42,43,44,45,46,47] aV (by kernel_rfl) ?_
 refine .p (nC rfl rfl (fZ rfl oS rfl (iW rfl dI rfl rfl ?_)))
 refine lO rfl bG rfl aF (by first|exact bF (0) (by omega) (by omega)|exact cM (0) (by omega) (by omega)|exact cW (0) (by omega) (by omega)|rfl) ?_
 refine .p (nC rfl rfl (fZ rfl oS rfl (iW rfl dI rfl rfl ?_)))
 refine lO rfl bG rfl aF (by first|exact bF (1) (by omega) (by omega)|exact cM (1) (by omega) (by omega)|exact cW (1) (by omega) (by omega)|rfl) ?_
 refine .p (nC rfl rfl (fZ rfl oS rfl (iW rfl dI rfl rfl ?_)))
 refine lO rfl bG rfl aF (by first|exact bF (2) (by omega) (by omega)|exact cM (2) (by omega) (by omega)|exact cW (2) (by omega) (by omega)|rfl) ?_
 refine .p (nC rfl rfl (fZ rfl oS rfl (iW rfl dI rfl rfl ?_)))
 refine lO rfl bG rfl aF (by first|exact bF (3) (by omega) (by omega)|exact cM (3) (by omega) (by omega)|exact cW (3) (by omega) (by omega)|rfl) ?_
 refine .p (nC rfl rfl (fZ rfl oS rfl (iW rfl dI rfl rfl ?_)))
 refine lO rfl bG rfl aF (by first|exact bF (4) (by omega) (by omega)|exact cM (4) (by omega) (by omega)|exact cW (4) (by omega) (by omega)|rfl) ?_
 refine .p (nC rfl rfl (fZ rfl oS rfl (iW rfl dI rfl rfl ?_)))
 refine lO rfl bG rfl aF (by first|exact bF (5) (by omega) (by omega)|exact cM (5) (by omega) (by omega)|exact cW (5) (by omega) (by omega)|rfl) ?_
 refine .p (nC rfl rfl (fZ rfl oS rfl (iW rfl dI rfl rfl ?_)))
 refine lO rfl bG rfl aF (by first|exact bF (6) (by omega) (by omega)|exact cM (6) (by omega) (by omega)|exact cW (6) (by omega) (by omega)|rfl) ?_
 refine .p (nC rfl rfl (fZ rfl oS rfl (iW rfl dI rfl rfl ?_)))
 refine lO rfl bG rfl aF (by first|exact bF (7) (by omega) (by omega)|exact cM (7) (by omega) (by omega)|exact cW (7) (by omega) (by omega)|rfl) ?_
 refine aS rfl rfl (aS rfl rfl (aS rfl rfl (aS rfl rfl (aS rfl rfl (aS rfl rfl (aS rfl rfl (aS rfl rfl (.nc (.seq (.seq (aM rfl rfl (mV rfl rfl (.nc (.block ?_))))))))))))))
 refine bD (α:=Nat×(Nat→W)) (fun gh=>[(11,true,U (gh.2 0)),(12,true,U (gh.2 1)),(13,true,U (gh.2 2)),(14,true,U (gh.2 3)),(15,true,U (gh.2 4)),(16,true,U (gh.2 5)),(17,true,U (gh.2 6)),(18,true,U (gh.2 7)),(131,true,.int .i64 (gh.1:Int))]) (fun _=>[])
  (fun gh Gl=>(gh.1≤64)∧(gh.2=uQ y s gh.1)) (fun gh=>64-gh.1) (0,s) [(0,true,_),(4,true,_)] [_,_]
  (aA rfl (aA rfl (aA rfl (aA rfl (aA rfl (aA rfl (aA rfl (aA rfl (aO rfl (aA rfl (aA rfl eZ)))))))))))
  (mS .here rfl (mS .here rfl mN)) ?_ ?_
 ·refine ⟨?_,?_⟩
  ·(try dsimp only)<;>(first|omega|rfl|assumption|(simp; done))
  (try dsimp only)<;>(first|omega|rfl|assumption|(simp; done))
 intro gh N3 Gl3 hN3 hGl3 hF3
 obtain ⟨k2,x⟩:=gh; dsimp only at hF3 hN3 ⊢
 obtain ⟨hk2,ex⟩:=hF3
 have hK:=hK.mono hGl3
 refine .g (cP rfl rfl rfl rfl (.g (cD rfl (fun c4=>?_) (fun c4=>?_))))
 ·have c4k:=c4
  try simp only [aC,aD] at c4
  refine .g (bH (mc:=⟨false,false⟩) [0,1,3,6,10,11,12,13,14,15,16,18,19,20,22,23,24,2,4,5,7,8,9,17,21,25,26] aV (by kernel_rfl) ?_)
  refine .p (bw (k:=.u32) rfl .no rfl (.u rfl) (.u rfl) rfl (bw (k:=.u32) rfl .no rfl (.u rfl) (.u rfl) rfl (bw (k:=.u32) rfl .no rfl (.u rfl) (.u rfl) rfl (.p (iW rfl qU rfl rfl ?_)))))
  refine lN rfl bG rfl ((hK.wat (k2) (by omega) (by omega)).rd) ?_
  refine .p (iW rfl qU rfl rfl ?_)
  refine lO rfl bG rfl .here (by first|exact bF (k2) (by omega) (by omega)|exact cM (k2) (by omega) (by omega)|exact cW (k2) (by omega) (by omega)|rfl) ?_
  refine kV rfl qZ (aB rfl (aB rfl aE)) (qK _ 6 _ (by decide)) ?_
  refine kV rfl qZ (aB rfl (aB rfl aE)) (qK _ 11 _ (by decide)) ?_
  refine bw (k:=.u32) rfl .no rfl (.u rfl) (.u rfl) rfl (kV rfl qZ (aB rfl (aB rfl aE)) (qK _ 25 _ (by decide)) ?_)
  refine bw (k:=.u32) rfl .no rfl (.u rfl) (.u rfl) rfl (bw (k:=.u32) rfl .no rfl (.u rfl) (.u rfl) rfl (bw (k:=.u32) rfl .no rfl (.u rfl) (.u rfl) rfl (bw (k:=.u32) rfl .no rfl (.u rfl) (.u rfl) rfl (bw (k:=.u32) rfl .no rfl (.u rfl) (.u rfl) rfl (.g (kV rfl qZ (aB rfl (aB rfl aE)) (qK _ 2 _ (by decide)) ?_))))))
  refine .p (kV rfl qZ (aB rfl (aB rfl aE)) (qK _ 13 _ (by decide)) ?_)
  refine bw (k:=.u32) rfl .no rfl (.u rfl) (.u rfl) rfl (.p (kV rfl qZ (aB rfl (aB rfl aE)) (qK _ 22 _ (by decide)) ?_))
  refine bw (k:=.u32) rfl .no rfl (.u rfl) (.u rfl) rfl (.p (bw (k:=.u32) rfl .no rfl (.u rfl) (.u rfl) rfl (.p (bw (k:=.u32) rfl .no rfl (.u rfl) (.u rfl) rfl (bw (k:=.u32) rfl .no rfl (.u rfl) (.u rfl) rfl (bw (k:=.u32) rfl .no rfl (.u rfl) (.u rfl) rfl (bw (k:=.u32) rfl .no rfl (.u rfl) (.u rfl) rfl (.g (bw (k:=.u32) rfl .no rfl (.u rfl) (.u rfl) rfl (.p (bw (k:=.u32) rfl .no rfl (.u rfl) (.u rfl) rfl (.g (aW (((k2+1):Nat):Int) rfl rfl rfl rfl ?_)))))))))))))
  refine .g (aZ (k2+1,rV x (kW k2) (y k2)) ?_ ?_ ?_ ?_ ?_)
  ·exact (aA rfl (aA rfl (aA rfl (aA rfl (aA rfl (aA rfl (aA rfl (aA rfl (aO rfl (aA rfl (aA rfl eZ)))))))))))
  ·exact (mS .here rfl (mS .here rfl mN))
  ·first|omega|(dsimp only; omega)
  ·exact hGl3
  refine ⟨?_,?_⟩
  ·(try dsimp only)<;>(first|omega|rfl|assumption|(simp; done))
  (try dsimp only)<;>(rw [ex]; rfl)
 have c4k:=c4
 try simp only [aC,aD] at c4
 refine .exit (.xcode (.xlp (.xblk (.code (.seq ?_)))))
 obtain rfl:k2=64:=by omega
 refine .g (dB (wa 8 x) rfl .no aBw (.cons (.u rfl) rfl (.cons (.u rfl) rfl (.cons (.u rfl) rfl (.cons (.u rfl) rfl (.cons (.u rfl) rfl (.cons (.u rfl) rfl (.cons (.u rfl) rfl (.cons (.u rfl) rfl .nil)))))))) rfl (by simp [pX,put,wa,List.range_succ]) ?_)
 refine mV rfl rfl (.nc (.block ?_))
 refine bD (α:=Nat×(Nat→W)) (fun gh=>[(200,true,.int .i64 (gh.1:Int))]) (fun gh=>[.blk bs (cl (wa 8 gh.2++[vp,nn]) 168)])
  (fun gh Gl=>(gh.1≤8)∧(gh.2=fun i=>if i<gh.1 then s i+x i else s i)) (fun gh=>8-gh.1) (0,s) [(0,true,_),(199,true,_)] [_]
  (aO rfl (aA rfl (aA rfl eZ)))
  (mS aF rfl (mS .here rfl mN)) ?_ ?_
 ·refine ⟨?_,?_⟩
  ·(try dsimp only)<;>(first|omega|rfl|assumption|(simp; done))
  (try dsimp only)<;>(funext i; simp)
 intro gh N4 Gl4 hN4 hGl4 hF4
 obtain ⟨k3,z⟩:=gh; dsimp only at hF4 hN4 ⊢
 obtain ⟨hk3,ez⟩:=hF4
 refine .g (cP rfl rfl rfl rfl (.g (cD rfl (fun c5=>?_) (fun c5=>?_))))
 ·have c5k:=c5
  try simp only [aC,aD] at c5
  refine .g (ix rfl .no dI bG (.u rfl) (.u rfl) (by omega) (by omega) (fun _=>tK (n:=8) (y:=x) (j:=k3) (by omega)) ?_)
  refine .g (bH (mc:=⟨false,false⟩) [0,1,2,3,4,5,6,7,8,9,10,11] aV (by kernel_rfl) ?_)
  refine .p (nC rfl rfl (fZ rfl oS rfl (iW rfl dI rfl rfl ?_)))
  refine lO rfl bG rfl .here (by first|exact bF (k3) (by omega) (by omega)|exact cM (k3) (by omega) (by omega)|exact cW (k3) (by omega) (by omega)|rfl) ?_
  refine .p (bw (k:=.u32) rfl .no rfl (.u rfl) (.u rfl) rfl (nC rfl rfl (fZ rfl oS rfl (iW rfl dI rfl rfl ?_))))
  refine s1 rfl (.u rfl) (.u rfl) rfl dY .here (by first|decide|(simp only [bO,aU,bJ]; omega)) (by first|exact cV (k3) (by omega)|exact hZ (k3) (by omega)|exact lZ (k3) (by omega) (by omega)|rfl) ?_
  refine .g (aW (((k3+1):Nat):Int) rfl rfl rfl rfl ?_)
  refine .g (aZ (k3+1,_) (aO rfl (aA rfl (aA rfl eZ))) (mS .here rfl (mS .here rfl mN)) ?_ ?_ ?_)
  ·first|omega|(dsimp only; omega)
  ·exact hGl4
  refine ⟨?_,?_⟩
  ·(try dsimp only)<;>(first|omega|rfl|assumption|(simp; done))
  (try dsimp only)<;>(rw [ez]; exact aSG)
 have c5k:=c5
 try simp only [aC,aD] at c5
 refine .g (We.fin Tryz.results137 .nil (mS .here rfl mN) ?_)
 obtain rfl:k3=8:=by omega
 refine ⟨?_,rfl⟩
 rw [ez,ex,ey,aJd (f:=fun i=>if i<8 then s i+uQ (iQ (fun i=>xs.getD i 0) 48) s 64 i else s i) (f':=oM s (fun i=>xs.getD i 0)) (fun i hi=>by rw [if_pos hi]; rfl)]
theorem aAK:cL Tryz.prog 168 2=some 9:=by kernel_rfl
theorem dG:dT Tryz.prog 3=some none:=by kernel_rfl
theorem rC:dF Tryz.prog 3=some 1:=by kernel_rfl
theorem qW:cL Tryz.prog 168 1=some 8:=by kernel_rfl
theorem bZ:dT Tryz.prog 34=some none:=by kernel_rfl
theorem iF:dF Tryz.prog 34=some 1:=by kernel_rfl
theorem aEr:aT Tryz.prog 137=true:=by kernel_rfl
theorem aMJ (s:Nat→W) (xs:List Y) (v vp nn:Value) (bs:Nat) (G:PM) (hK:RdNP G 1 0 (wa 64 kW)) (hl:64≤xs.length):Ct Tryz.prog 137 ([.pointer (some ⟨bs,0,none⟩),v]:List Value).toArray G [rB v 5 xs,.blk bs (cl (wa 8 s++[vp,nn]) 168)] (fun _ μ' u=>∃ ν,μ'=rB v 5 xs :: ν∧ν=[.blk bs (cl (wa 8 (oM s (fun i=>xs.getD i 0))++[vp,nn]) 168)]∧u=.tuple #[]) :=
 xG (fun h G2 hle hv hs=>by subst hv; exact aCW s xs h vp nn bs G2 hs (hK.mono hle) hl)
theorem zS {y:Nat→W} {a b v:Value}:(wa 8 y++[a,b]).set 8 v=wa 8 y++[v,b]:=aJf rfl
theorem zT {y:Nat→W} {a b v:Value}:(wa 8 y++[a,b]).set 9 v=wa 8 y++[a,v]:=aJf rfl
theorem aD6 {zs:List Y} {j m b T:Nat} {vp:Value} (hj:zs.length / 64=j) (hm:m=zs.length):Res.blk b (cl (wa 8 (fJ zs j)++[vp,.int .i64 (m:Int)]) T)=.blk b (cl (iR zs vp) T):=by
 subst hj; subst hm; rfl
theorem aHp {zs L:List Y} {j b T:Nat} {vq nn:Value} (eL:L=zs.drop (64*j)) (h:64≤L.length):Res.blk b (cl (wa 8 (oM (fJ zs j) (fun i=>L.getD i 0))++[vq,nn]) T)=.blk b (cl (wa 8 (fJ zs (j+1))++[vq,nn]) T):=by
 rw [fJ,aBa (b':=uB zs j)]
 intro i hi
 rw [eL,uB]; simp [List.getD_eq_getElem?_getD,List.getElem?_drop]
theorem aPM {xs ys L:List Y} {b T k:Nat} {vq nn:Value} (eL:L=fB xs++ys.take k) (hk:k=min (64-(fB xs).length) ys.length) (h:64≤L.length):Res.blk b (cl (wa 8 (oM (fJ xs (xs.length / 64)) (fun i=>L.getD i 0))++[vq,nn]) T)=.blk b (cl (wa 8 (fJ (xs++ys) (xs.length / 64+1))++[vq,nn]) T):=by
 have hr:=wT xs
 rw [eL,List.length_append,List.length_take] at h
 rw [fJ,aD3 (by omega),aBa (b':=uB (xs++ys) (xs.length / 64))]
 intro i hi
 rw [eL,uB]
 simp only [List.getD_eq_getElem?_getD,List.getElem?_append,List.getElem?_take,hr]
 by_cases h1:i<xs.length%64
 ·simp [h1,fB,show 64*(xs.length / 64)+i<xs.length by omega]
 ·rw [if_neg h1,if_pos (by omega),if_neg (by omega)]
  congr 2; omega
theorem aPO {xs ys L:List Y} (eL:L=fB xs++ys.take (min (64-(fB xs).length) ys.length)) (h:L.length<64):L=fB (xs++ys)∧(xs++ys).length / 64=xs.length / 64∧fJ (xs++ys) (xs.length / 64)=fJ xs (xs.length / 64):=by
 have hr:=wT xs
 rw [eL,List.length_append,List.length_take] at h
 have e:(xs++ys).length / 64=xs.length / 64:=by rw [List.length_append]; omega
 refine ⟨?_,e,aD3 (by omega)⟩
 have h5:min (64-(fB xs).length) ys.length=ys.length:=by omega
 rw [eL,h5,List.take_length,fB,fB,e,List.drop_append_of_le_length (by omega)]
theorem aPK {xs ys:List Y} (h:64≤(fB xs).length+ys.length):ys.drop (min (64-(fB xs).length) ys.length)=(xs++ys).drop (64*(xs.length / 64+1)):=by
 have hr:=wT xs
 rw [List.drop_append,List.drop_of_length_le (show xs.length≤64*(xs.length / 64+1) by omega),List.nil_append]
 congr 1; omega
theorem aPL {xs ys:List Y} (h:(fB xs).length=0):ys=(xs++ys).drop (64*(xs.length / 64)):=by
 have hr:=wT xs
 rw [show 64*(xs.length / 64)=xs.length by omega,List.drop_left]
theorem aPP {xs ys:List Y} {b T:Nat} {vq nn:Value} (h:(fB xs).length=0):Res.blk b (cl (wa 8 (fJ xs (xs.length / 64))++[vq,nn]) T)=.blk b (cl (wa 8 (fJ (xs++ys) (xs.length / 64))++[vq,nn]) T):=by
 rw [aD3 (by omega)]
theorem aDg (xs ys:List Y) (h:Sh) (vp:Value) (bs:Nat) (G:PM) (hs:SlR G 1 aL h ys) (hK:RdNP G 1 0 (wa 64 kW)) (hl:xs.length+ys.length≤4611686018427387904):Ct Tryz.prog 115 ([.pointer (some ⟨bs,0,none⟩),h.val ys.length]:List Value).toArray G [.blk bs (cl (iR xs vp) 168),rB vp 5 (fB xs)] (fun _ μ' u=>∃ vp',μ'=[.blk bs (cl (iR (xs++ys) vp') 168),rB vp' 5 (fB (xs++ys))]∧u=.tuple #[]):=by
 refine Ct.of Tryz.func115 rfl Tryz.ntmps115 rfl fun w0 hs0=>?_
 have hr:=wT xs
 refine .g (nC rfl rfl (fZ rfl aAK rfl (lO rfl dG rfl .here (by first|exact aJ rfl|rfl) ?_)))
 refine .p (lE rfl bL rfl (aW (((xs.length+ys.length):Nat):Int) rfl rfl rfl rfl ?_))
 refine nC rfl rfl (fZ rfl aAK rfl (s1 rfl (.u rfl) (.u rfl) rfl rC .here (by first|decide|(simp only [iR,bO,aU,bJ]; omega)) (by first|exact zS|exact zT) ?_))
 refine .g (nC rfl rfl (fZ rfl qW rfl (lO rfl bZ rfl .here (by first|exact aJ rfl|rfl) ?_)))
 refine lr rfl .no bL (.u rfl) aF ?_
 refine cP rfl rfl rfl rfl (.g (cD rfl (fun c1=>?_) (fun c1=>?_)))
 ·have c1k:=c1
  try simp only [aC,aD] at c1
  refine .g (nC rfl rfl (fZ rfl qW rfl (lO rfl bZ rfl .here (by first|exact aJ rfl|rfl) ?_)))
  refine lr rfl .no bL (.u rfl) aF ?_
  refine dR (((64-(fB xs).length):Nat):Int) rfl .no (.u rfl) (.u rfl) rfl (by omega) (fun _=>cB (by omega) (by omega)) ?_
  refine .p (lE rfl bL rfl (wK ((64-(fB xs).length)) (ys.length) rfl .no (.u rfl) (.u rfl) (by omega) (by omega) ?_))
  refine .g (bH (mc:=⟨false,false⟩) [0,1,2,3,4,5,6,7,8,9,10,11] aV (by kernel_rfl) ?_)
  refine .p (nC rfl rfl (fZ rfl qW rfl (lO rfl bZ rfl .here (by first|exact aJ rfl|rfl) ?_)))
  refine .p (kE ((min (64-(fB xs).length) ys.length)) rfl .no aH hs (.u rfl) (.u rfl) (by omega) (by omega) ?_)
  intro h36 L36 eL36 lL36 hs36
  have lL36:=lL36 rfl
  refine cF rfl aH aX (.u rfl) (.u rfl) aF hs36.sc (by (try simp only [bJ,bB]); omega) ?_
  intro v37 L37 ov37 eL37
  have lL37:L37.length=(fB xs).length+L36.length:=by rw [eL37,List.length_append]
  refine nC rfl rfl (fZ rfl qW rfl (fW rfl (.u rfl) (.u rfl) .here iF aF (by first|decide|(simp only [iR,bO,aU,bJ]; omega)) (by first|exact zS|exact zT) ?_))
  refine .g (kD ((min (64-(fB xs).length) ys.length)) rfl .no aH hs (.u rfl) (.u rfl) (by omega) (by omega) ?_)
  intro h42 L42 eL42 lL42 hs42
  have lL42:=lL42 rfl
  refine .g (nC rfl rfl (fZ rfl qW rfl (lO rfl bZ rfl .here (by first|exact aJ rfl|rfl) ?_)))
  refine lr rfl .no bL (.u rfl) aF ?_
  refine cP rfl rfl rfl rfl (.g (cD rfl (fun c2=>?_) (fun c2=>?_)))
  ·have c2k:=c2
   try simp only [aC,aD] at c2
   refine .ret (We.fin Tryz.results115 .nil (mS .here rfl (mS .here rfl mN)) ?_)
   obtain ⟨e1,e2,e3⟩:=aPO (eL37.trans (by rw [eL36])) (by omega)
   exact ⟨v37,by rw [← e1,←e3,aD6 e2 (by simp)],rfl⟩
  have c2k:=c2
  try simp only [aC,aD] at c2
  refine .g (nC rfl rfl (fZ rfl qW rfl (lO rfl bZ rfl .here (by first|exact aJ rfl|rfl) ?_)))
  refine ka rfl (.inr rfl) aEr (aB rfl (aB rfl aE)) (rP aF .here) (aMJ _ L37 _ _ _ _ _ hK (by omega)) ?_
  rintro _ G54 μ54 hG54 ⟨_,rfl,rfl,rfl⟩
  have hs:=hs.mono hG54
  have hK:=hK.mono hG54
  have hs42:=hs42.mono hG54
  refine .g (nC rfl rfl (fZ rfl qW rfl (s1 rfl (.u rfl) (.u rfl) rfl iF aF (by first|decide|(simp only [iR,bO,aU,bJ]; omega)) (by first|exact zS|exact zT) ?_)))
  refine .nil (kY 5 ?_)
  refine .code (.seq (.block ?_))
  refine bD (α:=Nat×Sh×List Y×Value) (fun gh=>[(1,true,gh.2.1.val gh.2.2.1.length)]) (fun gh=>[.blk bs (cl (wa 8 (fJ (xs++ys) gh.1)++[gh.2.2.2,.int .i64 ((xs.length+ys.length:Nat):Int)]) 168)])
   (fun gh Gl=>(64*gh.1≤xs.length+ys.length)∧(gh.2.2.1=(xs++ys).drop (64*gh.1))∧(SlR Gl 1 aL gh.2.1 gh.2.2.1)) (fun gh=>gh.2.2.1.length) (xs.length / 64+1,_,_,_) [(0,true,_)] [_]
   (aA rfl (aA rfl eZ))
   (mS aF (aPM (eL37.trans (by rw [eL36])) rfl (by omega)) (mS .here rfl mN)) ?_ ?_
  ·refine ⟨?_,?_,?_⟩
   ·(try dsimp only)<;>(omega)
   ·(try dsimp only)<;>(rw [eL42]; exact aPK (by omega))
   (try dsimp only)<;>(exact hs42)
  intro gh N0 Gl0 hN0 hGl0 hF0
  obtain ⟨j,h',L,vq⟩:=gh; dsimp only at hF0 hN0 ⊢
  obtain ⟨hj,eL,hL⟩:=hF0
  have hs:=hs.mono hGl0
  have hK:=hK.mono hGl0
  have lL:L.length=xs.length+ys.length-64*j:=by rw [eL]; simp
  refine .g (lE rfl bL rfl (cP rfl rfl rfl rfl (.g (cD rfl (fun c3=>?_) (fun c3=>?_)))))
  ·have c3k:=c3
   try simp only [aC,aD] at c3
   refine .g (ka rfl (.inr rfl) aEr (aB rfl (aB rfl aE)) (bR .here) (aCW _ L h' _ _ _ _ hL hK (by omega)) ?_)
   rintro _ G65 μ65 hG65 ⟨rfl,rfl⟩
   have hs:=hs.mono hG65
   have hK:=hK.mono hG65
   have hL:=hL.mono hG65
   refine .g (kD (64) rfl .no aH hL (.u rfl) (.u rfl) (by omega) (by omega) ?_)
   intro h62 L62 eL62 lL62 hs62
   have lL62:=lL62 rfl
   refine .g (aZ (j+1,h62,L62,vq) ?_ ?_ ?_ ?_ ?_)
   ·exact (aA rfl (aA rfl eZ))
   ·exact (mS .here (aHp eL (by omega)) (mS .here rfl mN))
   ·first|omega|(dsimp only; omega)
   ·exact (hGl0).trans hG65
   refine ⟨?_,?_,?_⟩
   ·(try dsimp only)<;>(omega)
   ·(try dsimp only)<;>(rw [eL62,eL,List.drop_drop]; congr 1)
   (try dsimp only)<;>(exact hs62)
  have c3k:=c3
  try simp only [aC,aD] at c3
  refine .exit (.xcode (.xlp (.xblk (.code (rW rfl rfl (mV rfl rfl ?_))))))
  refine nE rfl aH ?_; intro b67
  refine .p (oX rfl aH aX (.u rfl) (.u rfl) .here hL.sc (by (try simp only [bJ,bB]); omega) ?_)
  intro v69 L69 _ ov69 eL69
  have lL69:L69.length=L.length:=by rw [eL69]
  refine nC rfl rfl (fZ rfl qW rfl (fW rfl (.u rfl) (.u rfl) .here iF aF (by first|decide|(simp only [iR,bO,aU,bJ]; omega)) (by first|exact zS|exact zT) ?_))
  refine .g (We.fin Tryz.results115 .nil (mS .here rfl (mS .here rfl mN)) ?_)
  have ej:(xs++ys).length / 64=j:=by rw [List.length_append]; omega
  exact ⟨v69,by rw [aD6 ej (by simp),eL69,eL,fB,ej],rfl⟩
 have c1k:=c1
 try simp only [aC,aD] at c1
 refine .skip (.code (.seq (.block ?_)))
 refine bD (α:=Nat×Sh×List Y×Value) (fun gh=>[(1,true,gh.2.1.val gh.2.2.1.length)]) (fun gh=>[.blk bs (cl (wa 8 (fJ (xs++ys) gh.1)++[gh.2.2.2,.int .i64 ((xs.length+ys.length:Nat):Int)]) 168)])
  (fun gh Gl=>(64*gh.1≤xs.length+ys.length)∧(gh.2.2.1=(xs++ys).drop (64*gh.1))∧(SlR Gl 1 aL gh.2.1 gh.2.2.1)) (fun gh=>gh.2.2.1.length) (xs.length / 64,_,_,_) [(0,true,_)] [_]
  (aA rfl (aA rfl eZ))
  (mS .here (aPP (by omega)) (mS .here rfl mN)) ?_ ?_
 ·refine ⟨?_,?_,?_⟩
  ·(try dsimp only)<;>(omega)
  ·(try dsimp only)<;>(exact aPL (by omega))
  (try dsimp only)<;>(exact hs)
 intro gh N1 Gl1 hN1 hGl1 hF1
 obtain ⟨j,h',L,vq⟩:=gh; dsimp only at hF1 hN1 ⊢
 obtain ⟨hj,eL,hL⟩:=hF1
 have hK:=hK.mono hGl1
 have lL:L.length=xs.length+ys.length-64*j:=by rw [eL]; simp
 refine .g (lE rfl bL rfl (cP rfl rfl rfl rfl (.g (cD rfl (fun c4=>?_) (fun c4=>?_)))))
 ·have c4k:=c4
  try simp only [aC,aD] at c4
  refine .g (ka rfl (.inr rfl) aEr (aB rfl (aB rfl aE)) (bR .here) (aCW _ L h' _ _ _ _ hL hK (by omega)) ?_)
  rintro _ G65 μ65 hG65 ⟨rfl,rfl⟩
  have hL:=hL.mono hG65
  refine .g (kD (64) rfl .no aH hL (.u rfl) (.u rfl) (by omega) (by omega) ?_)
  intro h62 L62 eL62 lL62 hs62
  have lL62:=lL62 rfl
  refine .g (aZ (j+1,h62,L62,vq) ?_ ?_ ?_ ?_ ?_)
  ·exact (aA rfl (aA rfl eZ))
  ·exact (mS .here (aHp eL (by omega)) (mS .here rfl mN))
  ·first|omega|(dsimp only; omega)
  ·exact (hGl1).trans hG65
  refine ⟨?_,?_,?_⟩
  ·(try dsimp only)<;>(omega)
  ·(try dsimp only)<;>(rw [eL62,eL,List.drop_drop]; congr 1)
  (try dsimp only)<;>(exact hs62)
 have c4k:=c4
 try simp only [aC,aD] at c4
 refine .exit (.xcode (.xlp (.xblk (.code (rW rfl rfl (mV rfl rfl ?_))))))
 refine nE rfl aH ?_; intro b67
 refine .p (oX rfl aH aX (.u rfl) (.u rfl) .here hL.sc (by (try simp only [bJ,bB]); omega) ?_)
 intro v69 L69 _ ov69 eL69
 have lL69:L69.length=L.length:=by rw [eL69]
 refine nC rfl rfl (fZ rfl qW rfl (fW rfl (.u rfl) (.u rfl) .here iF aF (by first|decide|(simp only [iR,bO,aU,bJ]; omega)) (by first|exact zS|exact zT) ?_))
 refine .g (We.fin Tryz.results115 .nil (mS .here rfl (mS .here rfl mN)) ?_)
 have ej:(xs++ys).length / 64=j:=by rw [List.length_append]; omega
 exact ⟨v69,by rw [aD6 ej (by simp),eL69,eL,fB,ej],rfl⟩
theorem aCB:iX Tryz.prog 168=some ([.int .u32 0,.int .u32 0,.int .u32 0,.int .u32 0,.int .u32 0,.int .u32 0,.int .u32 0,.int .u32 0,.slice none 0 0,.int .i64 0]):=by kernel_rfl
theorem aSo:gG Tryz.prog 168 [0]=some ([.int .u32 0,.int .u32 0,.int .u32 0,.int .u32 0,.int .u32 0,.int .u32 0,.int .u32 0,.int .u32 0,.slice none 0 0,.int .i64 0],[(0,8)]):=by kernel_rfl
theorem aAS:dF Tryz.prog 168=some 10:=by kernel_rfl
theorem aSi:dT Tryz.prog 168=some (some 10):=by kernel_rfl
theorem aEo:aT Tryz.prog 114=true:=by kernel_rfl
theorem aK3:wO Tryz.prog 190=true:=by kernel_rfl
theorem aEp:aT Tryz.prog 115=true:=by kernel_rfl
theorem fX:iX Tryz.prog 23=some (ba 32 (fun _=>0#8)):=by kernel_rfl
theorem aAF:dT Tryz.prog 166=some (some 8):=by kernel_rfl
theorem aSp:gG Tryz.prog 168 [0,1,2]=some ([.int .u32 0,.int .u32 0,.int .u32 0,.int .u32 0,.int .u32 0,.int .u32 0,.int .u32 0,.int .u32 0,.slice none 0 0,.int .i64 0],[(0,8),(8,1),(9,1)]):=by kernel_rfl
theorem cX:jX Tryz.prog 3 24=some .u64:=by kernel_rfl
theorem lG:jX Tryz.prog 24 5=some .u8:=by kernel_rfl
theorem gJ:iH Tryz.prog 23=some (32,5,1):=by kernel_rfl
theorem cK:dT Tryz.prog 23=some (some 32):=by kernel_rfl
theorem fN:dF Tryz.prog 23=some 32:=by kernel_rfl
theorem aCS (G:PM):Ct Tryz.prog 114 ([]:List Value).toArray G [] (fun _ μ' u=>μ'=[]∧u=.agg (iR [] (.slice none 0 0)).toArray):=by
 refine Ct.of Tryz.func114 rfl Tryz.ntmps114 rfl fun w0 hs0=>?_
 refine .seq (aM rfl rfl ?_)
 refine al rfl aCB ?_; intro b0
 refine .g (dB (wa 8 ivW) rfl .no aBw (.cons (.u rfl) rfl (.cons (.u rfl) rfl (.cons (.u rfl) rfl (.cons (.u rfl) rfl (.cons (.u rfl) rfl (.cons (.u rfl) rfl (.cons (.u rfl) rfl (.cons (.u rfl) rfl .nil)))))))) rfl (by rfl) ?_)
 refine dB (iR [] (.slice none 0 0)) rfl .no aSo (.cons (.u rfl) rfl .nil) rfl (by rfl) ?_
 refine sw rfl (.u rfl) (.u rfl) rfl aAS .here (by rfl) (nL (mU _ _) (pK rfl rfl)) ?_
 refine .nil (.code (.ret (aP Tryz.results114 (.cell rfl (fun w hw=>bK aSi (RdN.own .here) ((by rfl)) hw) .nil) ?_)))
 exact ⟨rfl,rfl⟩
theorem aLI (G:PM):Ct Tryz.prog 148 ([]:List Value).toArray G [] (fun _ μ' u=>∃ b,μ'=[.blk b (cl (iR [] (.slice none 0 0)) 168),rB (.slice none 0 0) 5 (fB [])]∧u=.pointer (some ⟨b,0,none⟩)):=by
 refine Ct.of Tryz.func148 rfl Tryz.ntmps148 rfl fun w0 hs0=>?_
 refine .g (kv rfl .no aEo aE (fun _=>aCS _) ?_)
 refine al rfl aCB ?_; intro b1
 refine sw rfl (.u rfl) (.u rfl) rfl aAS .here (by rfl) (nL (mU _ _) (pK rfl rfl)) ?_
 refine .nil (.code (.seq (aM rfl rfl (aS rfl rfl (.nil (kY 5 ?_))))))
 refine .code (.ret (We.fin Tryz.results148 (.tmp rfl .nil) (mS aF rfl (mS .here rfl mN)) ?_))
 exact ⟨_,rfl,rfl⟩
theorem aFF (xs ys:List Y) (h:Sh) (vp:Value) (bs:Nat) (G:PM) (hs:SlR G 1 aL h ys) (hK:RdNP G 1 0 (wa 64 kW)) (hl:xs.length+ys.length≤4611686018427387904):Ct Tryz.prog 149 ([.pointer (some ⟨bs,0,none⟩),h.val ys.length]:List Value).toArray G [.blk bs (cl (iR xs vp) 168),rB vp 5 (fB xs)] (fun _ μ' u=>∃ vp',μ'=[.blk bs (cl (iR (xs++ys) vp') 168),rB vp' 5 (fB (xs++ys))]∧u=.tuple #[]):=by
 refine Ct.of Tryz.func149 rfl Tryz.ntmps149 rfl fun w0 hs0=>?_
 refine .g (pn rfl .no aK3 (.u rfl) (.u rfl) ?_)
 refine .g (tX rfl rfl ?_)
 refine .g (ka rfl (.inr rfl) aEp (aB rfl (aB rfl aE)) (rP .here .here) (aDg _ _ _ _ _ _ hs hK hl) ?_)
 rintro _ G8 μ8 hG8 ⟨vq,rfl,rfl⟩
 refine .g (We.fin Tryz.results149 .nil (mS .here rfl (mS .here rfl mN)) ?_)
 exact ⟨vq,rfl,rfl⟩
theorem aRQ {xs:List Y} {vp:Value}:((iR xs vp).drop 0).take 8=wa 8 (fJ xs (xs.length / 64)):=by
 rw [List.drop_zero,iR,List.take_append_of_le_length (by rw [bO]; exact Nat.le_refl _),List.take_of_length_le (by rw [bO]; exact Nat.le_refl _)]
theorem aRO {zs:List Value} {xs:List Y} {v:Value} (h:zs.length=10):pX zs [(0,8),(8,1),(9,1)] [wa 8 (fJ xs (xs.length / 64)),[v],[.int .i64 (xs.length:Int)]]=iR xs v:=by
 match zs,h with
 | [a,b,c,d,e,f,g,h,i,j],_=>rfl
theorem aOB {n q:Nat} (h:q<8):aA2 n q=((BitVec.ofInt 64 (n:Int)*8#64) >>> (56-8*(q:Int)).toNat).setWidth 8:=by
 rw [show (56-8*(q:Int)).toNat=56-8*q by omega]; rfl
theorem aFA (xs:List Y) (vp:Value) (bs:Nat) (G:PM) (hK:RdNP G 1 0 (wa 64 kW)) (hl:xs.length≤1152921504606846976):Ct Tryz.prog 116 ([.pointer (some ⟨bs,0,none⟩)]:List Value).toArray G [.blk bs (cl (iR xs vp) 168),rB vp 5 (fB xs)] (fun _ μ' u=>μ'=[.blk bs (cl (iR xs vp) 168),rB vp 5 (fB xs)]∧u=.agg (ba 32 (gP xs)).toArray):=by
 refine Ct.of Tryz.func116 rfl Tryz.ntmps116 rfl fun w0 hs0=>?_
 have hr:=wT xs
 have hz:jJ xs.length=(119-xs.length%64)%64:=rfl
 refine .seq (aM rfl rfl ?_)
 refine al rfl fX ?_; intro b2
 refine .g (kv rfl .no aEo aE (fun _=>aCS _) ?_)
 refine al rfl aCB ?_; intro b3
 refine sw rfl (.u rfl) (.u rfl) rfl aAS .here (by rfl) (nL (mU _ _) (pK rfl rfl)) ?_
 refine .g (pn rfl .no aK3 (.u rfl) (.u rfl) ?_)
 refine .g (tX rfl rfl ?_)
 refine zZ bP ?_; intro sRP bbRP evRP lcRP oaRP; subst evRP
 refine bH (mc:=⟨false,true⟩) [0,1,2,3,5,6,7,8,10,11,12,13,4,9,14,15] aV (by kernel_rfl) ?_
 refine .p (nC rfl rfl (fZ rfl oS rfl (lA rfl .no aAF (.u rfl) (fun _=>RdN.part (n:=8) (cs':=wa 8 (fJ xs (xs.length / 64))) aQ (aRQ)) (fun _=>(by first|exact qE|exact qL|rfl)) ?_)))
 refine .p (nC rfl rfl (fZ rfl qW rfl (lO rfl bZ rfl aQ (by first|exact aJ rfl|rfl) ?_)))
 refine .p (nC rfl rfl (fZ rfl aAK rfl (lO rfl dG rfl aQ (by first|exact aJ rfl|rfl) ?_)))
 refine nE rfl aH ?_; intro b16
 refine oX rfl aH aX (.u rfl) (.u rfl) .here (aCG fL oaRP) (by (try simp only [bJ,bB]); omega) ?_
 intro v21 L21 _ ov21 eL21
 have lL21:L21.length=(fB xs).length:=by rw [eL21]
 refine dB (iR xs v21) rfl .no aSp (.cons (.u rfl) rfl (.cons (.u rfl) (yD ov21) (.cons (.u rfl) rfl .nil))) rfl (aRO rfl) ?_
 refine sw rfl (.u rfl) (.u rfl) rfl aAS aF (by rfl) (nL (mU _ _) (pK ov21 rfl)) ?_
 refine .nil (.code (.seq ?_))
 subst eL21
 refine .g (fZ rfl aAK rfl (lO rfl dG rfl .here (by first|exact aJ rfl|rfl) ?_))
 refine ci rfl .no rfl cX (.u rfl) ?_
 refine bw (k:=.u64) (b:=8#64) rfl .no rfl (.u rfl) (.u rfl) rfl (aS rfl rfl (.nc (.seq (bE rfl rfl ?_))))
 refine mkY (1) (72) rfl aH aX (.u rfl) (.u rfl) (by first|rfl|omega) (by first|rfl|omega) (by omega) (by omega) ?_; intro b31
 have lR31:(List.replicate (1) (0#8:Y)).length=1:=List.length_replicate
 refine .g (ia rfl .no aH (.u rfl) (.u rfl) (by omega) (by omega) ?_)
 refine s1r (z:=128#8) rfl (.u rfl) (.u rfl) gF .here (by omega) ?_; intro Ls6_2 eLs6_2 lLs6_2
 refine .nil (.code (.seq (.block ?_)))
 refine bD (α:=Nat×Value×List Y) (fun gh=>[(5,true,gh.2.1)]) (fun gh=>[rB gh.2.1 5 gh.2.2])
  (fun gh Gl=>(gh.1≤jJ xs.length)∧(gh.2.2=128#8 :: List.replicate gh.1 0#8)) (fun gh=>jJ xs.length-gh.1) (0,_,_) [(2,true,_),(3,true,_),(4,true,_)] [_,_,_,_,_]
  (aA rfl (aA rfl (aA rfl (aA rfl eZ))))
  (mS .here rfl (mS .here rfl (mS .here rfl (mS .here rfl (mS .here rfl (mS .here rfl mN)))))) ?_ ?_
 ·refine ⟨?_,?_⟩
  ·(try dsimp only)<;>(exact Nat.zero_le _)
  (try dsimp only)<;>(rw [eLs6_2]; rfl)
 intro gh N0 Gl0 hN0 hGl0 hF0
 obtain ⟨j,v,L⟩:=gh; dsimp only at hF0 hN0 ⊢
 obtain ⟨hj,eL⟩:=hF0
 have hK:=hK.mono hGl0
 have lL:L.length=j+1:=by rw [eL]; simp
 have hz:jJ xs.length=(119-xs.length%64)%64:=rfl
 refine .g (fZ rfl aAK rfl (lO rfl dG rfl aF (by first|exact aJ rfl|rfl) ?_))
 refine .p (lr rfl .no bL (.u rfl) .here ?_)
 refine aW (((xs.length+L.length):Nat):Int) rfl rfl rfl rfl ?_
 refine zI ((xs.length+L.length)) (64) rfl .no (.u rfl) (.u rfl) (by omega) (by omega) (fun _=>by first|decide|omega) ?_
 refine cP rfl rfl rfl rfl (.g (cD rfl (fun c1=>?_) (fun c1=>?_)))
 ·have c1k:=c1
  try simp only [aC,aD] at c1
  refine .skip (.code (.block (jH rfl rfl (mV rfl rfl ?_))))
  refine Go.Tan.b1 rfl aH aX (.u rfl) rfl rfl (by decide) ?_; intro b42
  refine cF rfl aH aX (.u rfl) (.u rfl) aF (Sc.one (y:=0#8) .here) (by show _+1≤_; omega) ?_
  intro v43 L43 ov43 eL43
  have lL43:L43.length=L.length+1:=by rw [eL43,List.length_append]; first|rfl | simp [bB]
  refine .g (aZ (j+1,v43,L43) ?_ ?_ ?_ ?_ ?_)
  ·exact (aA rfl (aA rfl (aA rfl (aA rfl eZ))))
  ·exact (mS .here rfl (mS aF rfl (mS aF rfl (mS aF rfl (mS aF rfl (mS aF rfl mN))))))
  ·(try dsimp only); omega
  ·exact hGl0
  refine ⟨?_,?_⟩
  ·(try dsimp only)<;>(omega)
  (try dsimp only)<;>(rw [eL43,eL,List.cons_append,←List.replicate_succ'])
 have c1k:=c1
 try simp only [aC,aD] at c1
 refine .exit (.xcode (.xlp (.xblk (.code (.seq (.seq (aM rfl rfl (aS rfl rfl (.nc (.block ?_))))))))))
 refine bD (α:=Nat×Value×List Y) (fun gh=>[(5,true,gh.2.1),(6,true,.int .i64 (56-8*(gh.1:Int)))]) (fun gh=>[rB gh.2.1 5 gh.2.2])
  (fun gh Gl=>(gh.1≤8)∧(gh.2.2=(128#8 :: List.replicate (jJ xs.length) 0#8)++qD xs.length gh.1)) (fun gh=>8-gh.1) (0,_,_) [(2,true,_),(3,true,_),(4,true,_)] [_,_,_,_,_]
  (aA rfl (aO rfl (aA rfl (aA rfl (aA rfl eZ)))))
  (mS .here rfl (mS .here rfl (mS .here rfl (mS .here rfl (mS .here rfl (mS .here rfl mN)))))) ?_ ?_
 ·refine ⟨?_,?_⟩
  ·(try dsimp only)<;>(first|omega|rfl|assumption|(simp; done))
  (try dsimp only)<;>(rw [eL,show j=jJ xs.length by omega]; simp [qD])
 intro gh N1 Gl1 hN1 hGl1 hF1
 obtain ⟨q,v,L⟩:=gh; dsimp only at hF1 hN1 ⊢
 obtain ⟨hq,eL⟩:=hF1
 have hK:=hK.mono hGl1
 have lL:L.length=jJ xs.length+1+q:=by rw [eL]; simp [aDL]; omega
 refine .g (cP rfl rfl rfl rfl (.g (cD rfl (fun c2=>?_) (fun c2=>?_))))
 ·have c2k:=c2
  try simp only [aC,aD] at c2
  refine .g (gY (k:=.u64) rfl .no (.u rfl) (.u rfl) (by omega) ?_)
  refine cu (k:=.u64) rfl .no rfl lG (.u rfl) ?_
  refine Go.Tan.b1 rfl aH aX (.u rfl) rfl rfl (by decide) ?_; intro b53
  refine cF rfl aH aX (.u rfl) (.u rfl) aF (Sc.one .here) (by show _+1≤_; omega) ?_
  intro v54 L54 ov54 eL54
  have lL54:L54.length=L.length+1:=by rw [eL54,List.length_append]; first|rfl | simp [bB]
  refine .g (aR rfl rfl rfl rfl ?_)
  refine .g (aZ (q+1,v54,L54) ?_ ?_ ?_ ?_ ?_)
  ·exact (aA rfl (aO rfl (aA rfl (aA rfl (aA rfl eZ)))))
  ·exact (mS .here rfl (mS aF rfl (mS aF rfl (mS aF rfl (mS aF rfl (mS aF rfl mN))))))
  ·first|omega|(dsimp only; omega)
  ·exact hGl1
  refine ⟨?_,?_⟩
  ·(try dsimp only)<;>(first|omega|rfl|assumption|(simp; done))
  (try dsimp only)<;>(rw [eL54,eL,aHA,←List.append_assoc,aOB (by omega)]; rfl)
 have c2k:=c2
 try simp only [aC,aD] at c2
 refine .exit (.xcode (.xlp (.xblk (.code (.seq ?_)))))
 have e8:L=zU xs.length:=by rw [eL,show q=8 by omega]; rfl
 subst e8
 have lt:=aEB xs.length
 have hz:jJ xs.length=(119-xs.length%64)%64:=rfl
 refine iV .here (aN3 (mS bP rfl (mS bP rfl mN))) ?_; intro GfR31 hR31 hleR31 evR31 hsR31; subst evR31
 have hK:=hK.mono hleR31
 refine .g (ka rfl (.inr rfl) aEp (aB rfl (aB rfl aE)) (rP .here .here) (aDg xs (zU xs.length) _ _ _ _ hsR31 hK (by omega)) ?_)
 rintro _ G56 μ56 hG56 ⟨vq,rfl,rfl⟩
 refine .nil (.code (.seq (aM rfl rfl ?_)))
 refine al rfl fX ?_; intro b7
 refine .nil (.code (.seq (.seq (aM rfl rfl (mV rfl rfl (.nc (.block ?_)))))))
 refine bD (α:=Nat×(Nat→Y)) (fun gh=>[(57,true,.int .i64 (gh.1:Int))]) (fun gh=>[.blk b7 (cl (ba 32 gh.2) 23)])
  (fun gh Gl=>(gh.1≤32)∧(gh.2=fV (gP xs) gh.1)) (fun gh=>32-gh.1) (0,fun _=>0#8) [(2,true,_),(3,true,_),(7,true,_)] [_,_,_,_,_]
  (aO rfl (aA rfl (aA rfl (aA rfl eZ))))
  (mS .here rfl (mS .here rfl (mS .here rfl (mS .here rfl (mS .here rfl (mS .here rfl mN)))))) ?_ ?_
 ·refine ⟨?_,?_⟩
  ·(try dsimp only)<;>(first|omega|rfl|assumption|(simp; done))
  (try dsimp only)<;>(first|omega|rfl|assumption|(simp; done))
 intro gh N2 Gl2 hN2 hGl2 hF2
 obtain ⟨i,f⟩:=gh; dsimp only at hF2 hN2 ⊢
 obtain ⟨hi,ef⟩:=hF2
 refine .g (cP rfl rfl rfl rfl (.g (cD rfl (fun c3=>?_) (fun c3=>?_))))
 ·have c3k:=c3
  try simp only [aC,aD] at c3
  refine .g (qun (i) (4) rfl .no (.u rfl) (.u rfl) (by omega) (by omega) (fun _=>by first|decide|omega) (by omega) ?_)
  refine fZ rfl oS rfl (iW rfl dI rfl rfl ?_)
  refine lO rfl bG rfl aF (by first|exact bF ((i / 4)) (by omega) (by omega)|exact cM ((i / 4)) (by omega) (by omega)|exact cW ((i / 4)) (by omega) (by omega)|rfl) ?_
  refine .p (zI (i) (4) rfl .no (.u rfl) (.u rfl) (by omega) (by omega) (fun _=>by first|decide|omega) ?_)
  refine dR (((8*(i%4)):Nat):Int) rfl .no (.u rfl) (.u rfl) rfl (by omega) (fun _=>cB (by omega) (by omega)) ?_
  refine dR (((24-8*(i%4)):Nat):Int) rfl .no (.u rfl) (.u rfl) rfl (by omega) (fun _=>cB (by omega) (by omega)) ?_
  refine gY (k:=.u32) rfl .no (.u rfl) (.u rfl) (by omega) ?_
  refine cu (k:=.u32) rfl .no rfl vD (.u rfl) ?_
  refine iW rfl gJ rfl rfl ?_
  refine s1 rfl (.u rfl) (.u rfl) rfl gF .here (by first|decide|(simp only [bO,aU,bJ]; omega)) (by first|exact cV (i) (by omega)|exact hZ (i) (by omega)|exact lZ (i) (by omega) (by omega)|rfl) ?_
  refine .g (aW (((i+1):Nat):Int) rfl rfl rfl rfl ?_)
  refine .g (aZ (i+1,bA f i (gP xs i)) ?_ ?_ ?_ ?_ ?_)
  ·exact (aO rfl (aA rfl (aA rfl (aA rfl eZ))))
  ·exact (mS .here rfl (mS .here rfl (mS .here rfl (mS .here rfl (mS .here rfl (mS .here rfl mN))))))
  ·first|omega|(dsimp only; omega)
  ·exact hGl2
  refine ⟨?_,?_⟩
  ·(try dsimp only)<;>(first|omega|rfl|assumption|(simp; done))
  (try dsimp only)<;>(rw [ef]; rfl)
 have c3k:=c3
 try simp only [aC,aD] at c3
 refine .g (lB rfl cK rfl .here ?_)
 refine sW rfl rfl rfl rfl fN bP ?_
 refine .nil (.code (.ret (We.fin Tryz.results116 (.cell rfl (fun w hw=>bK cK (RdN.own .here) ((by first|exact qE|exact qL|rfl)) hw) .nil) (mS fL rfl (mS fL rfl mN)) ?_)))
 obtain rfl:i=32:=by omega
 exact ⟨rfl,by rw [ef,iK (fun i hi=>(kC (gP xs) hi).symm)]; rfl⟩
theorem aTO:aT Tryz.prog 136=true:=by kernel_rfl
theorem jN:cH Tryz.prog 53=some (34,1,24):=by kernel_rfl
theorem aE0:(cH Tryz.prog 53).isSome=true:=by kernel_rfl
theorem aKU:aT Tryz.prog 116=true:=by kernel_rfl
theorem sA (xs:List Y) (h:Sh) (n:BitVec 64) (many:Nat) (G:PM) (hs:SlR G 1 aL h xs) (hl:xs.length≤140737488351232) (hm:many≤8):Ct Tryz.prog 35 ([h.val xs.length,uv .u64 n,.int .i64 (many:Int)]:List Value).toArray G [] (PR 5 (fun L=>L=xs++cO n many)):=by
 refine Ct.of Tryz.func35 rfl Tryz.ntmps35 rfl fun w0 hs0=>?_
 refine .seq (aM rfl rfl (aS rfl rfl (.nc (.seq (jH rfl rfl ?_)))))
 refine nE rfl aH ?_; intro b8
 refine .p (oX rfl aH aX (.u rfl) (.u rfl) .here hs.sc (by (try simp only [bJ,bB]); omega) ?_)
 intro v10 L10 _ ov10 eL10
 have lL10:L10.length=xs.length:=by rw [eL10]
 refine .g (wK (many) (8) rfl .no (.u rfl) (.u rfl) (by omega) (by omega) ?_)
 refine mAn (0) ((min many 8)) rfl .no (.u rfl) (.u rfl) (by omega) (by omega) ?_
 refine mV rfl rfl (.nc (.block ?_))
 refine bD (α:=Nat×Value×List Y×BitVec 64) (fun gh=>[(1,true,uv .u64 gh.2.2.2),(7,true,gh.2.1),(14,true,.int .i64 (gh.1:Int))]) (fun gh=>[rB gh.2.1 5 gh.2.2.1])
  (fun gh Gl=>(gh.1≤many)∧(gh.2.2.1=xs++cO n gh.1)∧(gh.2.2.2=n >>> (8*gh.1))) (fun gh=>many-gh.1) (0,_,_,n) [(13,true,_)] []
  (aA rfl (aA rfl (aO rfl (aA rfl eZ))))
  (mS .here rfl mN) ?_ ?_
 ·refine ⟨?_,?_,?_⟩
  ·(try dsimp only)<;>(first|omega|rfl|assumption|(simp; done))
  ·(try dsimp only)<;>(rw [eL10]; simp [cO])
  (try dsimp only)<;>(simp)
 intro gh N0 Gl0 hN0 hGl0 hF0
 obtain ⟨k,v,L,m⟩:=gh; dsimp only at hF0 hN0 ⊢
 obtain ⟨hk,eL,em⟩:=hF0
 have lL:L.length=xs.length+k:=by rw [eL]; simp [gW]
 refine .g (cP rfl rfl rfl rfl (.g (cD rfl (fun c1=>?_) (fun c1=>?_))))
 ·have c1k:=c1
  try simp only [aC,aD] at c1
  refine .g (cu (k:=.u64) rfl .no rfl lG (.u rfl) ?_)
  refine Go.Tan.b1 rfl aH aX (.u rfl) rfl rfl (by decide) ?_; intro b19
  refine cF rfl aH aX (.u rfl) (.u rfl) aF (Sc.one .here) (by show _+1≤_; omega) ?_
  intro v20 L20 ov20 eL20
  have lL20:L20.length=L.length+1:=by rw [eL20,List.length_append]; first|rfl | simp [bB]
  refine .g (gY (k:=.u64) rfl .no (.u rfl) (.u rfl) (fun _=>by decide) ?_)
  refine .g (aW (((k+1):Nat):Int) rfl rfl rfl rfl ?_)
  refine .g (aZ (k+1,v20,L20,m >>> 8) ?_ ?_ ?_ ?_ ?_)
  ·exact (aA rfl (aA rfl (aO rfl (aA rfl eZ))))
  ·exact (mS .here rfl mN)
  ·first|omega|(dsimp only; omega)
  ·exact hGl0
  refine ⟨?_,?_,?_⟩
  ·(try dsimp only)<;>(first|omega|rfl|assumption|(simp; done))
  ·(try dsimp only)<;>(rw [eL20,eL,em,aGU,List.append_assoc]; rfl)
  (try dsimp only)<;>(rw [em,←BitVec.shiftRight_add]; rfl)
 have c1k:=c1
 try simp only [aC,aD] at c1
 refine .exit (.xcode (.xlp (.xblk (.code (.seq (bE rfl rfl (mV rfl rfl (aS rfl rfl (.nc (.ret (We.fin Tryz.results35 (.tmp rfl .nil) (mS .here rfl mN) ?_)))))))))))
 obtain rfl:k=many:=by omega
 exact ⟨L,eL,rfl⟩
theorem aEU (key nonce:Nat→Y) (count:W) (h:Sh) (xs:List Y) (G:PM) (hs:SlR G 1 aL h xs) (hl:xs.length≤140737488351232):Ct Tryz.prog 112 ([.agg (ba 32 key).toArray,.agg (ba 12 nonce).toArray,U count,h.val xs.length]:List Value).toArray G [] (PR 5 (fun L=>L=jD key nonce count xs)):=by
 refine Ct.of Tryz.func112 rfl Tryz.ntmps112 rfl fun w0 hs0=>?_
 refine .seq (fC rfl rfl ?_)
 refine bX rfl rfl rfl ?_; intro b4
 refine bX rfl rfl rfl ?_; intro b5
 refine aS rfl rfl (.nc (.seq (jH rfl rfl ?_)))
 refine nE rfl aH ?_; intro b14
 refine .p (oX rfl aH aX (.u rfl) (.u rfl) .here hs.sc (by (try simp only [bJ,bB]); omega) ?_)
 intro v16 L16 _ ov16 eL16
 have lL16:L16.length=xs.length:=by rw [eL16]
 refine aS rfl rfl (.nc (.seq (.seq ?_)))
 refine zZ .here ?_; intro sR16 bbR16 evR16 lcR16 oaR16; subst evR16
 obtain rfl:=eL16.symm
 refine bE rfl rfl (mV rfl rfl (aS rfl rfl (.nc (.block ?_))))
 refine bD (α:=Nat×Sh×List Y) (fun gh=>[(2,true,U (count+BitVec.ofNat 32 gh.1)),(10,true,gh.2.1.val (xs.length-64*gh.1))]) (fun gh=>[rB (sR16.val xs.length) 5 gh.2.2])
  (fun gh Gl=>(gh.2.2.length=xs.length)∧(gh.2.2=mG key nonce count xs (64*gh.1))∧(64*gh.1<xs.length→gh.2.1.oa=some ⟨bbR16,64*gh.1,none⟩)∧(xs.length-64*gh.1≤gh.2.1.cap)) (fun gh=>xs.length-64*gh.1) (0,sR16,xs) [(4,true,_),(5,true,_),(9,true,_)] [_,_]
  (eY rfl (by simp) (aA rfl (aA rfl (aA rfl (aA rfl eZ)))))
  (mS .here rfl (mS .here rfl (mS .here rfl mN))) ?_ ?_
 ·refine ⟨?_,?_,?_,?_⟩
  ·(try dsimp only)<;>(rfl)
  ·(try dsimp only)<;>(exact (aMn _ _ _ _).symm)
  ·(try dsimp only)<;>(exact oaR16)
  (try dsimp only)<;>(exact lcR16)
 intro gh N0 Gl0 hN0 hGl0 hF0
 obtain ⟨j,r,L⟩:=gh; dsimp only at hF0 hN0 ⊢
 obtain ⟨lL,eL,hr,hrc⟩:=hF0
 refine .g (lE rfl bL rfl (cP rfl rfl rfl rfl (.g (cD rfl (fun c1=>?_) (fun c1=>?_)))))
 ·have c1k:=c1
  try simp only [aC,aD] at c1
  refine .skip (.code (.seq (.block (.seq ?_))))
  have hlt:64*j<xs.length:=by omega
  have e1:=oaR16 (by omega)
  have e2:=hr hlt
  obtain ⟨so,sc⟩:=sR16
  obtain ⟨ro,rc⟩:=r
  simp only at e1 e2
  subst e1; subst e2
  refine .g (lB rfl vB rfl aQ ?_)
  refine lB rfl aJ1 rfl aF ?_
  refine .p (kV rfl aTO (aB rfl (aB rfl (aB rfl aE))) (aJu _ _ _ _) ?_)
  refine al rfl rD ?_; intro b11
  refine sw rfl (.u rfl) (.u rfl) rfl jT .here (by first|exact qE|exact qL|rfl) (dV _ _) ?_
  refine .g (lE rfl bL rfl (wK ((xs.length-64*j)) (64) rfl .no (.u rfl) (.u rfl) (by omega) (by omega) ?_))
  refine aS rfl rfl (.nc (.seq (.seq (bE rfl rfl (mV rfl rfl (mV rfl rfl (.nc (.block ?_))))))))
  refine bD (α:=Nat×List Y) (fun gh=>[(31,true,.int .i64 (gh.1:Int))]) (fun gh=>[rB (Sh.val ⟨some ⟨bbR16,0,none⟩,sc⟩ xs.length) 5 gh.2])
   (fun gh Gl=>(gh.1≤min (xs.length-64*j) 64)∧(gh.2=mG key nonce count xs (64*j+gh.1))) (fun gh=>64-gh.1) (0,L) [(2,true,_),(4,true,_),(5,true,_),(9,true,_),(10,true,_),(11,true,_),(12,true,_),(30,true,_)] [_,_,_]
   (aO rfl (aA rfl (aA rfl (aA rfl (aA rfl (aA rfl (aA rfl (aA rfl (aA rfl eZ)))))))))
   (mS aF rfl (mS .here rfl (mS .here rfl (mS .here rfl mN)))) ?_ ?_
  ·refine ⟨?_,?_⟩
   ·(try dsimp only)<;>(exact Nat.zero_le _)
   (try dsimp only)<;>(rw [eL]; rfl)
  intro gh N1 Gl1 hN1 hGl1 hF1
  obtain ⟨i,L2⟩:=gh; dsimp only at hF1 hN1 ⊢
  obtain ⟨hi,eL2⟩:=hF1
  have lL2:L2.length=xs.length:=by rw [eL2,aFv]
  refine .g (cP rfl rfl rfl rfl (.g (cD rfl (fun c2=>?_) (fun c2=>?_))))
  ·have c2k:=c2
   try simp only [aC,aD] at c2
   refine .g (bH (mc:=⟨false,false⟩) [0,1,2,3,4,5,6,7,8,9] aV (by kernel_rfl) ?_)
   refine mV rfl rfl (mV rfl rfl (ih rfl .no aH (.u rfl) (.u rfl) (by omega) (by omega) (fun _=>rfl) ?_))
   refine lN rfl bW rfl (Rd.row .here (pG (o:=64*j) (64*j+i) (by omega) (by omega))) ?_
   refine .p (iW rfl jK rfl rfl ?_)
   refine lO rfl bW rfl aF (by first|exact bF (i) (by omega) (by omega)|exact cM (i) (by omega) (by omega)|exact cW (i) (by omega) (by omega)|rfl) ?_
   refine bw (k:=.u8) rfl .no rfl (.u rfl) (.u rfl) rfl (ih rfl .no aH (.u rfl) (.u rfl) (by omega) (by omega) (fun _=>rfl) ?_)
   refine s1r rfl (.u rfl) (.u rfl) gF .here (by show 64*j+_*1<_; omega) ?_; intro L9 eL9 lL9
   refine .g (aW (((i+1):Nat):Int) rfl rfl rfl rfl ?_)
   refine .g (aZ (i+1,L9) ?_ ?_ ?_ ?_ ?_)
   ·exact (aO rfl (aA rfl (aA rfl (aA rfl (aA rfl (aA rfl (aA rfl (aA rfl (aA rfl eZ)))))))))
   ·exact (mS .here rfl (mS .here rfl (mS .here rfl (mS .here rfl mN))))
   ·first|omega|(dsimp only; omega)
   ·exact hGl1
   refine ⟨?_,?_⟩
   ·(try dsimp only)<;>(omega)
   (try dsimp only)<;>(rw [eL9,eL2,show (Sh.o ⟨some ⟨bbR16,64*j,none⟩,rc⟩+(i:Int).toNat*1)=64*j+i from (by show 64*j+_*1=_; omega)]; exact aMm (xs:=xs) (j:=j) (i:=i) (by omega) (by omega))
  have c2k:=c2
  try simp only [aC,aD] at c2
  refine .g (sd rfl .no aH (.u rfl) (.u rfl) (by omega) (by omega) ?_)
  refine .g (bw (k:=.u32) (b:=1#32) rfl .no rfl (.u rfl) (.u rfl) rfl (.g (aZ (j+1,Sh.cut ⟨some ⟨bbR16,64*j,none⟩,rc⟩ (min (xs.length-64*j) 64) 1,L2) ?_ ?_ ?_ ?_ ?_)))
  ·exact (eY rfl (by show U (count+BitVec.ofNat 32 j+1#32)=U (count+BitVec.ofNat 32 (j+1)); rw [BitVec.add_assoc,←BitVec.ofNat_add]) (eY rfl (congrArg (Sh.val _) (by omega)) (aA rfl (aA rfl (aA rfl eZ)))))
  ·exact (mS .here (by rfl) (mS aF rfl (mS aF rfl mN)))
  ·first|omega|(dsimp only; omega)
  ·exact (hGl0).trans hGl1
  refine ⟨?_,?_,?_,?_⟩
  ·(try dsimp only)<;>(rw [eL2,aFv])
  ·(try dsimp only)<;>(rw [eL2]; exact aMo (by omega))
  ·(try dsimp only)<;>(intro h3; have hrc2:xs.length-64*j≤rc:=hrc; exact aMt (by omega) (by omega))
  (try dsimp only)<;>(show _≤rc-_; have hrc2:xs.length-64*j≤rc:=hrc; omega)
 have c1k:=c1
 try simp only [aC,aD] at c1
 refine .exit (.xcode (.xlp (.xblk (.code (.seq (bE rfl rfl (mV rfl rfl (aS rfl rfl (.nc (.ret (We.fin Tryz.results112 (.tmp rfl .nil) (mS .here rfl mN) ?_)))))))))))
 exact ⟨L,by rw [eL,aMl (by omega)],rfl⟩
theorem zR (ps:List (Sh×List Y)) (h:Sh) (G:PM) (hs:SlP G h ps) (hK:RdNP G 1 0 (wa 64 kW)) (hl:(cN ps).length≤1152921504606846976) (hn:ps.length≤1000):Ct Tryz.prog 76 ([h.val ps.length]:List Value).toArray G [] (fun _ μ' u=>μ'=[]∧u=.agg (ba 32 (gP (cN ps))).toArray):=by
 refine Ct.of Tryz.func76 rfl Tryz.ntmps76 rfl fun w0 hs0=>?_
 refine .seq (aM rfl rfl ?_)
 refine al rfl fX ?_; intro b2
 refine .g (kv rfl .no aEo aE (fun _=>aCS _) ?_)
 refine al rfl aCB ?_; intro b3
 refine sw rfl (.u rfl) (.u rfl) rfl aAS .here (by rfl) (nL (mU _ _) (pK rfl rfl)) ?_
 refine .nil (kY 5 ?_)
 refine .g (lE rfl aE0 rfl (mV rfl rfl (.nc (.block ?_))))
 refine bD (α:=Nat×Value) (fun gh=>[(9,true,.int .i64 (gh.1:Int))]) (fun gh=>[rB gh.2 5 (fB (cN (ps.take gh.1))),.blk b3 (cl (iR (cN (ps.take gh.1)) gh.2) 168)])
  (fun gh Gl=>(gh.1≤ps.length)) (fun gh=>ps.length-gh.1) (0,.slice none 0 0) [(2,true,_),(3,true,_),(7,true,_),(8,true,_)] [_]
  (aO rfl (aA rfl (aA rfl (aA rfl (aA rfl eZ)))))
  (mS .here (by simp [fB,cN]) (mS .here rfl (mS .here rfl mN))) ?_ ?_
 ·(try dsimp only)<;>(first|omega|rfl|assumption|(simp; done))
 intro gh N0 Gl0 hN0 hGl0 hF0
 obtain ⟨k,vq⟩:=gh; dsimp only at hF0 hN0 ⊢
 have hk:=hF0
 have hs:=hs.mono hGl0
 have hK:=hK.mono hGl0
 refine .g (cP rfl rfl rfl rfl (.g (cD rfl (fun c1=>?_) (fun c1=>?_))))
 ·have c1k:=c1
  try simp only [aC,aD] at c1
  refine .skip (.code (.seq (.block (.seq (fC rfl rfl (ih rfl .no jN (.u rfl) (.u rfl) (by omega) (by omega) (fun _=>hs.sl.nn (k:=k) (by omega)) ?_))))))
  obtain ⟨p12,ep12⟩:=eG (k:=k) (xs:=ps) (by omega)
  have hq12:=hs.get ep12
  refine lN rfl bZ rfl ((hs.at (k) (by omega) ep12).rd) ?_
  refine .g (ka rfl (.inr rfl) aEp (aB rfl (aB rfl aE)) (rP aF .here) (aDg (cN (ps.take k)) p12.2 _ _ _ _ hq12 hK (by have:=aCh ep12; omega)) ?_)
  rintro _ G14 μ14 hG14 ⟨vq',rfl,rfl⟩
  have hK:=hK.mono hG14
  refine .g (aW (((k+1):Nat):Int) rfl rfl rfl rfl ?_)
  refine .g (aZ (k+1,vq') ?_ ?_ ?_ ?_ ?_)
  ·exact (aO rfl (aA rfl (aA rfl (aA rfl (aA rfl eZ)))))
  ·exact (mS aF (by rw [vS ep12]) (mS .here (by rw [vS ep12]) (mS .here rfl mN)))
  ·first|omega|(dsimp only; omega)
  ·exact (hGl0).trans hG14
  (try dsimp only)<;>(first|omega|rfl|assumption|(simp; done))
 have c1k:=c1
 try simp only [aC,aD] at c1
 refine .exit (.xcode (.xlp (.xblk (.code (.seq ?_)))))
 obtain rfl:k=ps.length:=by omega
 rw [List.take_length]
 refine .g (ka rfl (.inr rfl) aKU (aB rfl aE) (rP aF .here) (aFA (cN ps) _ _ _ hK hl) ?_)
 rintro _ G16 μ16 hG16 ⟨rfl,rfl⟩
 refine sW rfl rfl rfl rfl fN aQ ?_
 refine .nil (.code (.ret (aP Tryz.results76 (.cell rfl (fun w hw=>bK cK (RdN.own .here) ((by first|exact qE|exact qL|rfl)) hw) .nil) ?_)))
 exact ⟨rfl,rfl⟩
theorem mZ:(Tryz.prog.info? 34).bind (·.zero)=some (.slice none 0 0):=by kernel_rfl
theorem aAP:aT Tryz.prog 76=true:=by kernel_rfl
theorem SlP.one {G:PM} {b T:Nat} {h1:Sh} {L1:List Y} (hle:PM.le G (G.add b (cl [h1.val L1.length] T))) (hs:SlR G 1 aL h1 L1):SlP (G.add b (cl [h1.val L1.length] T)) ⟨some ⟨b,0,none⟩,1⟩ [(h1,L1)] :=
 ⟨nA (T:=T) (iG _ _ _) (fun _ _=>rfl) (by simp),fun p hp=>by rw [List.mem_singleton.1 hp]; exact hs.mono hle⟩
theorem aLP {G:PM} {b T:Nat} {h1 h2:Sh} {L1 L2:List Y} (hle:PM.le G (G.add b (cl [h1.val L1.length,h2.val L2.length] T))) (hs:SlR G 1 aL h1 L1) (hs2:SlR G 1 aL h2 L2):SlP (G.add b (cl [h1.val L1.length,h2.val L2.length] T)) ⟨some ⟨b,0,none⟩,2⟩ [(h1,L1),(h2,L2)] :=
 ⟨nA (T:=T) (iG _ _ _) (fun _ _=>rfl) (by simp),fun p hp=>by
  rcases List.mem_cons.1 hp with rfl | hp
  ·exact hs.mono hle
  ·rw [List.mem_singleton.1 hp]; exact hs2.mono hle⟩
theorem SlP.four {G:PM} {b T:Nat} {h1 h2 h3 h4:Sh} {L1 L2 L3 L4:List Y} (hle:PM.le G (G.add b (cl [h1.val L1.length,h2.val L2.length,h3.val L3.length,h4.val L4.length] T))) (hs:SlR G 1 aL h1 L1) (hs2:SlR G 1 aL h2 L2) (hs3:SlR G 1 aL h3 L3) (hs4:SlR G 1 aL h4 L4) :
  SlP (G.add b (cl [h1.val L1.length,h2.val L2.length,h3.val L3.length,h4.val L4.length] T)) ⟨some ⟨b,0,none⟩,4⟩ [(h1,L1),(h2,L2),(h3,L3),(h4,L4)] :=
 ⟨nA (T:=T) (iG _ _ _) (fun _ _=>rfl) (by simp),fun p hp=>by
  simp only [List.mem_cons,List.not_mem_nil,or_false] at hp
  rcases hp with rfl|rfl|rfl|rfl
  ·exact hs.mono hle
  ·exact hs2.mono hle
  ·exact hs3.mono hle
  ·exact hs4.mono hle⟩
theorem aRV {G:PM} {b T:Nat} {h1:Sh} {L1:List Y} (hle:PM.le G (G.add b (cl [h1.val L1.length] T))) (hs:SlR G 1 aL h1 L1) (hK:RdNP G 1 0 (wa 64 kW)) (hl:L1.length≤1152921504606846976):Ct Tryz.prog 76 ([.slice (some ⟨b,0,none⟩) 1 1]:List Value).toArray (G.add b (cl [h1.val L1.length] T)) [] (fun _ μ' u=>μ'=[]∧u=.agg (ba 32 (gP L1)).toArray):=by
 have h:=zR [(h1,L1)] ⟨some ⟨b,0,none⟩,1⟩ _ (SlP.one hle hs) (hK.mono hle) (by simpa [cN] using hl) (by simp)
 rw [show cN [(h1,L1)]=L1 by simp [cN]] at h
 exact h
theorem aRW {G:PM} {b T:Nat} {h1 h2:Sh} {L1 L2:List Y} (hle:PM.le G (G.add b (cl [h1.val L1.length,h2.val L2.length] T))) (hs:SlR G 1 aL h1 L1) (hs2:SlR G 1 aL h2 L2) (hK:RdNP G 1 0 (wa 64 kW)) (hl:L1.length+L2.length≤1152921504606846976):Ct Tryz.prog 76 ([.slice (some ⟨b,0,none⟩) 2 2]:List Value).toArray (G.add b (cl [h1.val L1.length,h2.val L2.length] T)) [] (fun _ μ' u=>μ'=[]∧u=.agg (ba 32 (gP (L1++L2))).toArray):=by
 have h:=zR [(h1,L1),(h2,L2)] ⟨some ⟨b,0,none⟩,2⟩ _ (aLP hle hs hs2) (hK.mono hle) (by simpa [cN] using hl) (by simp)
 rw [show cN [(h1,L1),(h2,L2)]=L1++L2 by simp [cN]] at h
 exact h
theorem aBE {f g:Nat→Y} {k:Nat} {a b:Y} (ef:f=fV g k) (h:b=g k):bA (bA f k a) k b=fV g (k+1):=by
 rw [aEH,ef,h]; rfl
theorem wM {f g:Nat→Y} {k:Nat} {a:Y} (ef:f=fV g k) (h:a=g k):bA f k a=fV g (k+1):=by
 rw [ef,h]; rfl
theorem aO1 (key:List Y) (h:Sh) (G:PM) (hs:SlR G 1 aL h key) (hK:RdNP G 1 0 (wa 64 kW)) (hl:key.length≤140737488351232):Ct Tryz.prog 147 ([h.val key.length]:List Value).toArray G [] (fun _ μ' u=>μ'=[]∧u=.tuple #[.agg (ba 64 (dX key 54#8)).toArray,.agg (ba 64 (dX key 92#8)).toArray]):=by
 refine Ct.of Tryz.func147 rfl Tryz.ntmps147 rfl fun w0 hs0=>?_
 refine .seq (bE rfl rfl ?_)
 refine al rfl rD ?_; intro b2
 refine al rfl rD ?_; intro b3
 refine .g (lE rfl bL rfl (cP rfl rfl rfl rfl (.g (cD rfl (fun c1=>?_) (fun c1=>?_)))))
 ·have c1k:=c1
  try simp only [aC,aD] at c1
  have ek1:oG key=aBc key:=by unfold oG; rw [if_pos (by omega)]
  refine .seq (nQ rfl rfl (mV rfl rfl ?_))
  refine Go.Tan.b1 rfl jN mZ (.u rfl) rfl rfl (by decide) ?_; intro b10
  refine kp rfl .no aAP (aB rfl aE) (Gp.add .here Gp.nil) (fun _ hle hq=>aRV hle hs hK (by omega)) ?_
  refine al rfl fX ?_; intro b4
  refine sW rfl rfl rfl rfl fN .here ?_
  refine .nil (.code ?_)
  refine fM .here (by intro b hb; cases hb) ?_; intro Gfb4 hleb4 hbb4
  have hs:=hs.mono hleb4
  refine bE rfl rfl ?_
  refine kA rfl .no gJ (.u rfl) hbb4 (by first|exact jC|exact gS|exact jB) ?_; intro h12 L12 eL12 lL12 hs12
  refine aS rfl rfl (.nil ?_)
  have ek1:oG key=L12:=by rw [ek1,eL12]; rfl
  refine .code (.seq (.seq ?_))
  skip
  refine aM rfl rfl (mV rfl rfl (.nc (.block ?_)))
  refine bD (α:=Nat×(Nat→Y)×(Nat→Y)) (fun gh=>[(13,true,.int .i64 (gh.1:Int))]) (fun gh=>[.blk b3 (cl (ba 64 gh.2.2) 188),.blk b2 (cl (ba 64 gh.2.1) 188)])
   (fun gh Gl=>(gh.1≤64)∧(gh.2.1=fV (dX key 54#8) gh.1)∧(gh.2.2=fV (dX key 92#8) gh.1)) (fun gh=>64-gh.1) (0,fun _=>0#8,fun _=>0#8) [(0,true,_),(2,true,_),(3,true,_)] [_]
   (aO rfl (aA rfl (aA rfl (aA rfl eZ))))
   (mS aF rfl (mS aF rfl (mS .here rfl mN))) ?_ ?_
  ·refine ⟨?_,?_,?_⟩
   ·(try dsimp only)<;>(first|omega|rfl|assumption|(simp; done))
   ·(try dsimp only)<;>(first|omega|rfl|assumption|(simp; done))
   (try dsimp only)<;>(first|omega|rfl|assumption|(simp; done))
  intro gh N0 Gl0 hN0 hGl0 hF0
  obtain ⟨k,f,f2⟩:=gh; dsimp only at hF0 hN0 ⊢
  obtain ⟨hk,ef,ef2⟩:=hF0
  have hs:=hs.mono hGl0
  have hs12:=hs12.mono hGl0
  refine .g (cP rfl rfl rfl rfl (.g (cD rfl (fun c2=>?_) (fun c2=>?_))))
  ·have c2k:=c2
   try simp only [aC,aD] at c2
   refine .g (iW rfl jK rfl rfl ?_)
   refine s1 rfl (.u rfl) (.u rfl) rfl gF aF (by first|decide|(simp only [bO,aU,bJ]; omega)) (by first|exact hZ (z:=54#8) (k) (by omega)|exact cV (z:=54#32) (k) (by omega)|rfl) ?_
   refine iW rfl jK rfl rfl ?_
   refine s1 rfl (.u rfl) (.u rfl) rfl gF aF (by first|decide|(simp only [bO,aU,bJ]; omega)) (by first|exact hZ (z:=92#8) (k) (by omega)|exact cV (z:=92#32) (k) (by omega)|rfl) ?_
   refine .g (lE rfl bL rfl (cP rfl rfl rfl rfl (.g (cD rfl (fun c3=>?_) (fun c3=>?_)))))
   ·have c3k:=c3
    try simp only [aC,aD] at c3
    refine .seq (bH (mc:=⟨false,false⟩) [0,1,2,3,4,5,6,7,8,9] aV (by kernel_rfl) ?_)
    refine .p (iW rfl jK rfl rfl ?_)
    refine lO rfl bW rfl aF (by first|exact bF (k) (by omega) (by omega)|exact cM (k) (by omega) (by omega)|exact cW (k) (by omega) (by omega)|rfl) ?_
    refine mV rfl rfl (mV rfl rfl (ih rfl .no aH (.u rfl) (.u rfl) (by omega) (by omega) (fun _=>hs12.nn (k:=k) (by omega)) ?_))
    refine lN rfl bW rfl ((hs12.yat (k) (by omega) (by omega)).rd) ?_
    refine bw (k:=.u8) rfl .no rfl (.u rfl) (.u rfl) rfl (iW rfl jK rfl rfl ?_)
    refine s1 rfl (.u rfl) (.u rfl) rfl gF aF (by first|decide|(simp only [bO,aU,bJ]; omega)) (by first|exact cV (k) (by omega)|exact hZ (k) (by omega)|exact lZ (k) (by omega) (by omega)|rfl) ?_
    refine .g (bH (mc:=⟨false,false⟩) [0,1,2,3,4,5,6,7,8,9] aV (by kernel_rfl) ?_)
    refine .p (iW rfl jK rfl rfl ?_)
    refine lO rfl bW rfl aF (by first|exact bF (k) (by omega) (by omega)|exact cM (k) (by omega) (by omega)|exact cW (k) (by omega) (by omega)|rfl) ?_
    refine mV rfl rfl (mV rfl rfl (ih rfl .no aH (.u rfl) (.u rfl) (by omega) (by omega) (fun _=>hs12.nn (k:=k) (by omega)) ?_))
    refine lN rfl bW rfl ((hs12.yat (k) (by omega) (by omega)).rd) ?_
    refine bw (k:=.u8) rfl .no rfl (.u rfl) (.u rfl) rfl (iW rfl jK rfl rfl ?_)
    refine s1 rfl (.u rfl) (.u rfl) rfl gF aF (by first|decide|(simp only [bO,aU,bJ]; omega)) (by first|exact cV (k) (by omega)|exact hZ (k) (by omega)|exact lZ (k) (by omega) (by omega)|rfl) ?_
    refine .g (aW (((k+1):Nat):Int) rfl rfl rfl rfl ?_)
    refine .g (aZ (k+1,bA (bA f k 54#8) k (bA f k 54#8 k ^^^ L12.getD k 0),bA (bA f2 k 92#8) k (bA f2 k 92#8 k ^^^ L12.getD k 0)) ?_ ?_ ?_ ?_ ?_)
    ·exact (aO rfl (aA rfl (aA rfl (aA rfl eZ))))
    ·exact (mS .here rfl (mS .here rfl (mS .here rfl mN)))
    ·first|omega|(dsimp only; omega)
    ·exact hGl0
    refine ⟨?_,?_,?_⟩
    ·(try dsimp only)<;>(first|omega|rfl|assumption|(simp; done))
    ·(try dsimp only)<;>(exact aBE ef (by rw [uV,dX,ek1,if_pos (by omega)]))
    (try dsimp only)<;>(exact aBE ef2 (by rw [uV,dX,ek1,if_pos (by omega)]))
   have c3k:=c3
   try simp only [aC,aD] at c3
   refine .g (aW (((k+1):Nat):Int) rfl rfl rfl rfl ?_)
   refine .g (aZ (k+1,bA f k 54#8,bA f2 k 92#8) ?_ ?_ ?_ ?_ ?_)
   ·exact (aO rfl (aA rfl (aA rfl (aA rfl eZ))))
   ·exact (mS .here rfl (mS .here rfl (mS .here rfl mN)))
   ·first|omega|(dsimp only; omega)
   ·exact hGl0
   refine ⟨?_,?_,?_⟩
   ·(try dsimp only)<;>(first|omega|rfl|assumption|(simp; done))
   ·(try dsimp only)<;>(exact wM ef (by rw [dX,ek1,if_neg (by omega)]))
   (try dsimp only)<;>(exact wM ef2 (by rw [dX,ek1,if_neg (by omega)]))
  have c2k:=c2
  try simp only [aC,aD] at c2
  refine .exit (.xcode (.xlp (.xblk (.code (.seq (aCI aV rfl ?_))))))
  refine WoT.n2 0 1 (by kernel_rfl) ?_ ?_
  ·refine lB rfl gM rfl aF ?_
   refine .nil (WoT.n2 1 2 (by kernel_rfl) ?_ ?_)
   ·refine lB rfl gM rfl .here ?_
    refine .nil (WoT.n1 2 (by kernel_rfl) ?_)
    refine sW rfl rfl rfl rfl jT aF ?_
    refine .nil (WoT.n1 3 (by kernel_rfl) ?_)
    refine sW rfl rfl rfl rfl jT aF ?_
    refine .nil (WoT.last (by kernel_rfl) ?_)
    refine .code (.ret (aP Tryz.results147 (.cell rfl (fun w hw=>bK gM (RdN.own aF) ((by first|exact qE|exact qL|rfl)) hw) (.cell rfl (fun w hw=>bK gM (RdN.own .here) ((by first|exact qE|exact qL|rfl)) hw) .nil)) ?_))
    obtain rfl:k=64:=by omega
    exact ⟨rfl,by rw [ef,ef2,iK (fun i hi=>kC (dX key 54#8) hi),iK (fun i hi=>kC (dX key 92#8) hi)]; rfl⟩
   refine sW rfl rfl rfl rfl jT aF ?_
   refine .nil (WoT.n1 1 (by kernel_rfl) ?_)
   refine lB rfl gM rfl aF ?_
   refine .nil (WoT.n1 3 (by kernel_rfl) ?_)
   refine sW rfl rfl rfl rfl jT aF ?_
   refine .nil (WoT.last (by kernel_rfl) ?_)
   refine .code (.ret (aP Tryz.results147 (.cell rfl (fun w hw=>bK gM (RdN.own aF) ((by first|exact qE|exact qL|rfl)) hw) (.cell rfl (fun w hw=>bK gM (RdN.own .here) ((by first|exact qE|exact qL|rfl)) hw) .nil)) ?_))
   obtain rfl:k=64:=by omega
   exact ⟨rfl,by rw [ef,ef2,iK (fun i hi=>kC (dX key 54#8) hi),iK (fun i hi=>kC (dX key 92#8) hi)]; rfl⟩
  refine lB rfl gM rfl .here ?_
  refine .nil (WoT.n1 0 (by kernel_rfl) ?_)
  refine lB rfl gM rfl aF ?_
  refine .nil (WoT.n1 2 (by kernel_rfl) ?_)
  refine sW rfl rfl rfl rfl jT aF ?_
  refine .nil (WoT.n1 3 (by kernel_rfl) ?_)
  refine sW rfl rfl rfl rfl jT aF ?_
  refine .nil (WoT.last (by kernel_rfl) ?_)
  refine .code (.ret (aP Tryz.results147 (.cell rfl (fun w hw=>bK gM (RdN.own aF) ((by first|exact qE|exact qL|rfl)) hw) (.cell rfl (fun w hw=>bK gM (RdN.own .here) ((by first|exact qE|exact qL|rfl)) hw) .nil)) ?_))
  obtain rfl:k=64:=by omega
  exact ⟨rfl,by rw [ef,ef2,iK (fun i hi=>kC (dX key 54#8) hi),iK (fun i hi=>kC (dX key 92#8) hi)]; rfl⟩
 have c1k:=c1
 try simp only [aC,aD] at c1
 have ek2:oG key=key:=by unfold oG; rw [if_neg (by omega)]
 refine .skip (.code (.seq (.seq ?_)))
 skip
 refine aM rfl rfl (mV rfl rfl (.nc (.block ?_)))
 refine bD (α:=Nat×(Nat→Y)×(Nat→Y)) (fun gh=>[(13,true,.int .i64 (gh.1:Int))]) (fun gh=>[.blk b3 (cl (ba 64 gh.2.2) 188),.blk b2 (cl (ba 64 gh.2.1) 188)])
  (fun gh Gl=>(gh.1≤64)∧(gh.2.1=fV (dX key 54#8) gh.1)∧(gh.2.2=fV (dX key 92#8) gh.1)) (fun gh=>64-gh.1) (0,fun _=>0#8,fun _=>0#8) [(0,true,_),(2,true,_),(3,true,_)] []
  (aO rfl (aA rfl (aA rfl (aA rfl eZ))))
  (mS .here rfl (mS .here rfl mN)) ?_ ?_
 ·refine ⟨?_,?_,?_⟩
  ·(try dsimp only)<;>(first|omega|rfl|assumption|(simp; done))
  ·(try dsimp only)<;>(first|omega|rfl|assumption|(simp; done))
  (try dsimp only)<;>(first|omega|rfl|assumption|(simp; done))
 intro gh N1 Gl1 hN1 hGl1 hF1
 obtain ⟨k,f,f2⟩:=gh; dsimp only at hF1 hN1 ⊢
 obtain ⟨hk,ef,ef2⟩:=hF1
 have hs:=hs.mono hGl1
 refine .g (cP rfl rfl rfl rfl (.g (cD rfl (fun c4=>?_) (fun c4=>?_))))
 ·have c4k:=c4
  try simp only [aC,aD] at c4
  refine .g (iW rfl jK rfl rfl ?_)
  refine s1 rfl (.u rfl) (.u rfl) rfl gF aF (by first|decide|(simp only [bO,aU,bJ]; omega)) (by first|exact hZ (z:=54#8) (k) (by omega)|exact cV (z:=54#32) (k) (by omega)|rfl) ?_
  refine iW rfl jK rfl rfl ?_
  refine s1 rfl (.u rfl) (.u rfl) rfl gF aF (by first|decide|(simp only [bO,aU,bJ]; omega)) (by first|exact hZ (z:=92#8) (k) (by omega)|exact cV (z:=92#32) (k) (by omega)|rfl) ?_
  refine .g (lE rfl bL rfl (cP rfl rfl rfl rfl (.g (cD rfl (fun c5=>?_) (fun c5=>?_)))))
  ·have c5k:=c5
   try simp only [aC,aD] at c5
   refine .seq (bH (mc:=⟨false,false⟩) [0,1,2,3,4,5,6,7,8,9] aV (by kernel_rfl) ?_)
   refine .p (iW rfl jK rfl rfl ?_)
   refine lO rfl bW rfl aF (by first|exact bF (k) (by omega) (by omega)|exact cM (k) (by omega) (by omega)|exact cW (k) (by omega) (by omega)|rfl) ?_
   refine mV rfl rfl (mV rfl rfl (ih rfl .no aH (.u rfl) (.u rfl) (by omega) (by omega) (fun _=>hs.nn (k:=k) (by omega)) ?_))
   refine lN rfl bW rfl ((hs.yat (k) (by omega) (by omega)).rd) ?_
   refine bw (k:=.u8) rfl .no rfl (.u rfl) (.u rfl) rfl (iW rfl jK rfl rfl ?_)
   refine s1 rfl (.u rfl) (.u rfl) rfl gF aF (by first|decide|(simp only [bO,aU,bJ]; omega)) (by first|exact cV (k) (by omega)|exact hZ (k) (by omega)|exact lZ (k) (by omega) (by omega)|rfl) ?_
   refine .g (bH (mc:=⟨false,false⟩) [0,1,2,3,4,5,6,7,8,9] aV (by kernel_rfl) ?_)
   refine .p (iW rfl jK rfl rfl ?_)
   refine lO rfl bW rfl aF (by first|exact bF (k) (by omega) (by omega)|exact cM (k) (by omega) (by omega)|exact cW (k) (by omega) (by omega)|rfl) ?_
   refine mV rfl rfl (mV rfl rfl (ih rfl .no aH (.u rfl) (.u rfl) (by omega) (by omega) (fun _=>hs.nn (k:=k) (by omega)) ?_))
   refine lN rfl bW rfl ((hs.yat (k) (by omega) (by omega)).rd) ?_
   refine bw (k:=.u8) rfl .no rfl (.u rfl) (.u rfl) rfl (iW rfl jK rfl rfl ?_)
   refine s1 rfl (.u rfl) (.u rfl) rfl gF aF (by first|decide|(simp only [bO,aU,bJ]; omega)) (by first|exact cV (k) (by omega)|exact hZ (k) (by omega)|exact lZ (k) (by omega) (by omega)|rfl) ?_
   refine .g (aW (((k+1):Nat):Int) rfl rfl rfl rfl ?_)
   refine .g (aZ (k+1,bA (bA f k 54#8) k (bA f k 54#8 k ^^^ key.getD k 0),bA (bA f2 k 92#8) k (bA f2 k 92#8 k ^^^ key.getD k 0)) ?_ ?_ ?_ ?_ ?_)
   ·exact (aO rfl (aA rfl (aA rfl (aA rfl eZ))))
   ·exact (mS .here rfl (mS .here rfl mN))
   ·first|omega|(dsimp only; omega)
   ·exact hGl1
   refine ⟨?_,?_,?_⟩
   ·(try dsimp only)<;>(first|omega|rfl|assumption|(simp; done))
   ·(try dsimp only)<;>(exact aBE ef (by rw [uV,dX,ek2,if_pos (by omega)]))
   (try dsimp only)<;>(exact aBE ef2 (by rw [uV,dX,ek2,if_pos (by omega)]))
  have c5k:=c5
  try simp only [aC,aD] at c5
  refine .g (aW (((k+1):Nat):Int) rfl rfl rfl rfl ?_)
  refine .g (aZ (k+1,bA f k 54#8,bA f2 k 92#8) ?_ ?_ ?_ ?_ ?_)
  ·exact (aO rfl (aA rfl (aA rfl (aA rfl eZ))))
  ·exact (mS .here rfl (mS .here rfl mN))
  ·first|omega|(dsimp only; omega)
  ·exact hGl1
  refine ⟨?_,?_,?_⟩
  ·(try dsimp only)<;>(first|omega|rfl|assumption|(simp; done))
  ·(try dsimp only)<;>(exact wM ef (by rw [dX,ek2,if_neg (by omega)]))
  (try dsimp only)<;>(exact wM ef2 (by rw [dX,ek2,if_neg (by omega)]))
 have c4k:=c4
 try simp only [aC,aD] at c4
 refine .exit (.xcode (.xlp (.xblk (.code (.seq (aCI aV rfl ?_))))))
 refine WoT.n2 0 1 (by kernel_rfl) ?_ ?_
 ·refine lB rfl gM rfl aF ?_
  refine .nil (WoT.n2 1 2 (by kernel_rfl) ?_ ?_)
  ·refine lB rfl gM rfl .here ?_
   refine .nil (WoT.n1 2 (by kernel_rfl) ?_)
   refine sW rfl rfl rfl rfl jT aF ?_
   refine .nil (WoT.n1 3 (by kernel_rfl) ?_)
   refine sW rfl rfl rfl rfl jT aF ?_
   refine .nil (WoT.last (by kernel_rfl) ?_)
   refine .code (.ret (aP Tryz.results147 (.cell rfl (fun w hw=>bK gM (RdN.own aF) ((by first|exact qE|exact qL|rfl)) hw) (.cell rfl (fun w hw=>bK gM (RdN.own .here) ((by first|exact qE|exact qL|rfl)) hw) .nil)) ?_))
   obtain rfl:k=64:=by omega
   exact ⟨rfl,by rw [ef,ef2,iK (fun i hi=>kC (dX key 54#8) hi),iK (fun i hi=>kC (dX key 92#8) hi)]; rfl⟩
  refine sW rfl rfl rfl rfl jT aF ?_
  refine .nil (WoT.n1 1 (by kernel_rfl) ?_)
  refine lB rfl gM rfl aF ?_
  refine .nil (WoT.n1 3 (by kernel_rfl) ?_)
  refine sW rfl rfl rfl rfl jT aF ?_
  refine .nil (WoT.last (by kernel_rfl) ?_)
  refine .code (.ret (aP Tryz.results147 (.cell rfl (fun w hw=>bK gM (RdN.own aF) ((by first|exact qE|exact qL|rfl)) hw) (.cell rfl (fun w hw=>bK gM (RdN.own .here) ((by first|exact qE|exact qL|rfl)) hw) .nil)) ?_))
  obtain rfl:k=64:=by omega
  exact ⟨rfl,by rw [ef,ef2,iK (fun i hi=>kC (dX key 54#8) hi),iK (fun i hi=>kC (dX key 92#8) hi)]; rfl⟩
 refine lB rfl gM rfl .here ?_
 refine .nil (WoT.n1 0 (by kernel_rfl) ?_)
 refine lB rfl gM rfl aF ?_
 refine .nil (WoT.n1 2 (by kernel_rfl) ?_)
 refine sW rfl rfl rfl rfl jT aF ?_
 refine .nil (WoT.n1 3 (by kernel_rfl) ?_)
 refine sW rfl rfl rfl rfl jT aF ?_
 refine .nil (WoT.last (by kernel_rfl) ?_)
 refine .code (.ret (aP Tryz.results147 (.cell rfl (fun w hw=>bK gM (RdN.own aF) ((by first|exact qE|exact qL|rfl)) hw) (.cell rfl (fun w hw=>bK gM (RdN.own .here) ((by first|exact qE|exact qL|rfl)) hw) .nil)) ?_))
 obtain rfl:k=64:=by omega
 exact ⟨rfl,by rw [ef,ef2,iK (fun i hi=>kC (dX key 54#8) hi),iK (fun i hi=>kC (dX key 92#8) hi)]; rfl⟩
theorem aTU:aT Tryz.prog 147=true:=by kernel_rfl
theorem aTV:aT Tryz.prog 148=true:=by kernel_rfl
theorem aKc:aT Tryz.prog 149=true:=by kernel_rfl
theorem aLB:iX Tryz.prog 164=some (ba 16 (fun _=>0#8)):=by kernel_rfl
theorem aEm:cL Tryz.prog 65 1=some 32:=by kernel_rfl
theorem aBu:iH Tryz.prog 125=some (12,5,1):=by kernel_rfl
theorem tQ:aT Tryz.prog 35=true:=by kernel_rfl
theorem aEq:aT Tryz.prog 135=true:=by kernel_rfl
theorem aEZ:iH Tryz.prog 164=some (16,5,1):=by kernel_rfl
theorem aEY:dT Tryz.prog 164=some (some 16):=by kernel_rfl
theorem aK8:dF Tryz.prog 164=some 16:=by kernel_rfl
theorem aB0:cL Tryz.prog 65 0=some 0:=by kernel_rfl
theorem qS:dT Tryz.prog 125=some (some 12):=by kernel_rfl
theorem aKS:aT Tryz.prog 112=true:=by kernel_rfl
theorem pP:dT Tryz.prog 65=some (some 64):=by kernel_rfl
theorem aKT:aT Tryz.prog 113=true:=by kernel_rfl
theorem aSk:uA Tryz.prog 164 16=true:=by kernel_rfl
theorem aDM (key:List Y) (hk:Sh) (ps:List (Sh×List Y)) (h:Sh) (G:PM) (hsk:SlR G 1 aL hk key) (hs:SlP G h ps) (hK:RdNP G 1 0 (wa 64 kW)) (hlk:key.length≤140737488351232) (hl:(cN ps).length≤1000000000000000) (hn:ps.length≤1000):Ct Tryz.prog 135 ([hk.val key.length,h.val ps.length]:List Value).toArray G [] (fun _ μ' u=>μ'=[]∧u=.agg (ba 32 (pF key (cN ps))).toArray):=by
 refine Ct.of Tryz.func135 rfl Tryz.ntmps135 rfl fun w0 hs0=>?_
 refine .seq (aM rfl rfl ?_)
 refine al rfl fX ?_; intro b4
 refine .g (kV rfl aTU (aB rfl aE) (aO1 key hk _ hsk hK hlk) ?_)
 refine .p (eX rfl rfl rfl (eX rfl rfl rfl ?_))
 refine al rfl rD ?_; intro b5
 refine al rfl rD ?_; intro b6
 refine sW rfl rfl rfl rfl jT aF ?_
 refine sW rfl rfl rfl rfl jT aF ?_
 refine .nil (.code (.seq ?_))
 refine fM aF (by intro b hb; cases hb) ?_; intro Gfb5 hleb5 hbb5
 have hs:=hs.mono hleb5
 have hK:=hK.mono hleb5
 refine fM .here (by intro b hb; cases hb) ?_; intro Gfb6 hleb6 hbb6
 have hs:=hs.mono hleb6
 have hK:=hK.mono hleb6
 have hbb5:=hbb5.mono hleb6
 refine .g (kc rfl aTV aE (aLI _) ?_)
 rintro _ G16 μ16 hG16 ⟨b16,rfl,rfl⟩
 have hs:=hs.mono hG16
 have hK:=hK.mono hG16
 have hbb5:=hbb5.mono hG16
 have hbb6:=hbb6.mono hG16
 refine aS rfl rfl (.nc (.seq (fC rfl rfl (mV rfl rfl ?_))))
 refine kA rfl .no jK (.u rfl) hbb5 (by first|exact jC|exact gS|exact jB) ?_; intro h18 L18 eL18 lL18 hs18
 refine ka rfl (.inr rfl) aKc (aB rfl (aB rfl aE)) (rP .here .here) (aFF [] L18 _ _ _ _ hs18 hK (by simp; omega)) ?_
 rintro _ G19 μ19 hG19 ⟨vq0,rfl,rfl⟩
 have hs:=hs.mono hG19
 have hK:=hK.mono hG19
 have hbb6:=hbb6.mono hG19
 refine .g (lE rfl aE0 rfl (mV rfl rfl (.nc (.block ?_))))
 refine bD (α:=Nat×Value) (fun gh=>[(22,true,.int .i64 (gh.1:Int))]) (fun gh=>[.blk b16 (cl (iR (L18++cN (ps.take gh.1)) gh.2) 168),rB gh.2 5 (fB (L18++cN (ps.take gh.1)))])
  (fun gh Gl=>(gh.1≤ps.length)) (fun gh=>ps.length-gh.1) (0,vq0) [(4,true,_),(6,true,_),(7,true,_),(20,true,_),(21,true,_)] [_]
  (aO rfl (aA rfl (aA rfl (aA rfl (aA rfl (aA rfl eZ))))))
  (mS .here (by simp [cN]) (mS .here (by simp [cN]) (mS .here rfl mN))) ?_ ?_
 ·(try dsimp only)<;>(first|omega|rfl|assumption|(simp; done))
 intro gh N0 Gl0 hN0 hGl0 hF0
 obtain ⟨k,vq⟩:=gh; dsimp only at hF0 hN0 ⊢
 have hk:=hF0
 have hs:=hs.mono hGl0
 have hK:=hK.mono hGl0
 have hbb6:=hbb6.mono hGl0
 refine .g (cP rfl rfl rfl rfl (.g (cD rfl (fun c1=>?_) (fun c1=>?_))))
 ·have c1k:=c1
  try simp only [aC,aD] at c1
  refine .skip (.code (.seq (.block (.seq (fC rfl rfl (ih rfl .no jN (.u rfl) (.u rfl) (by omega) (by omega) (fun _=>hs.sl.nn (k:=k) (by omega)) ?_))))))
  obtain ⟨p25,ep25⟩:=eG (k:=k) (xs:=ps) (by omega)
  have hq25:=hs.get ep25
  refine lN rfl bZ rfl ((hs.at (k) (by omega) ep25).rd) ?_
  refine .g (ka rfl (.inr rfl) aKc (aB rfl (aB rfl aE)) (rP .here .here) (aFF (L18++cN (ps.take k)) p25.2 _ _ _ _ hq25 hK (by have:=aCh ep25; rw [List.length_append]; omega)) ?_)
  rintro _ G28 μ28 hG28 ⟨vq',rfl,rfl⟩
  have hK:=hK.mono hG28
  have hbb6:=hbb6.mono hG28
  refine .g (aW (((k+1):Nat):Int) rfl rfl rfl rfl ?_)
  refine .g (aZ (k+1,vq') ?_ ?_ ?_ ?_ ?_)
  ·exact (aO rfl (aA rfl (aA rfl (aA rfl (aA rfl (aA rfl eZ))))))
  ·exact (mS .here (by rw [vS ep25,List.append_assoc]) (mS .here (by rw [vS ep25,List.append_assoc]) (mS .here rfl mN)))
  ·first|omega|(dsimp only; omega)
  ·exact (hGl0).trans hG28
  (try dsimp only)<;>(first|omega|rfl|assumption|(simp; done))
 have c1k:=c1
 try simp only [aC,aD] at c1
 refine .exit (.xcode (.xlp (.xblk (.code (.seq ?_)))))
 obtain rfl:k=ps.length:=by omega
 rw [List.take_length]
 refine .g (ka rfl (.inr rfl) aKU (aB rfl aE) (rP .here .here) (aFA (L18++cN ps) _ _ _ hK (by rw [List.length_append]; omega)) ?_)
 rintro _ G31 μ31 hG31 ⟨rfl,rfl⟩
 have hK:=hK.mono hG31
 have hbb6:=hbb6.mono hG31
 refine al rfl fX ?_; intro b10
 refine sW rfl rfl rfl rfl fN .here ?_
 refine .nil (.code (.seq ?_))
 refine fM .here (by intro b hb; cases hb) ?_; intro Gfb10 hleb10 hbb10
 have hK:=hK.mono hleb10
 have hbb6:=hbb6.mono hleb10
 refine bH (mc:=⟨false,false⟩) [0,1,2,3,4] aV (by kernel_rfl) ?_
 refine kA rfl .no jK (.u rfl) hbb6 (by first|exact jC|exact gS|exact jB) ?_; intro h32 L32 eL32 lL32 hs32
 refine kA rfl .no gJ (.u rfl) hbb10 (by first|exact jC|exact gS|exact jB) ?_; intro h33 L33 eL33 lL33 hs33
 refine Go.Tan.bN rfl jN mZ (Evp.cons (.u rfl) (Evp.cons (.u rfl) Evp.nil)) rfl (by decide) (by simp [Value.oneCell',Sh.val]) ?_; intro b34
 refine kp rfl .no aAP (aB rfl aE) (Gp.add .here Gp.nil) (fun _ hle hq=>aRW hle hs32 hs33 hK (by omega)) ?_
 refine sW rfl rfl rfl rfl fN bP ?_
 refine .nil (.code (.ret (aP Tryz.results135 (.cell rfl (fun w hw=>bK cK (RdN.own .here) ((by first|exact qE|exact qL|rfl)) hw) .nil) ?_)))
 exact ⟨rfl,by rw [eL32,eL33,eL18]; rfl⟩
theorem aOM {G:PM} {b T:Nat} {hk h1 h2 h3 h4:Sh} {key L1 L2 L3 L4:List Y} (hle:PM.le G (G.add b (cl [h1.val L1.length,h2.val L2.length,h3.val L3.length,h4.val L4.length] T))) (hsk:SlR G 1 aL hk key) (hs:SlR G 1 aL h1 L1) (hs2:SlR G 1 aL h2 L2) (hs3:SlR G 1 aL h3 L3) (hs4:SlR G 1 aL h4 L4) (hK:RdNP G 1 0 (wa 64 kW)) (hlk:key.length≤140737488351232) (hl:L1.length+L2.length+L3.length+L4.length≤1000000000000000) :
  Ct Tryz.prog 135 ([hk.val key.length,.slice (some ⟨b,0,none⟩) 4 4]:List Value).toArray (G.add b (cl [h1.val L1.length,h2.val L2.length,h3.val L3.length,h4.val L4.length] T)) [] (fun _ μ' u=>μ'=[]∧u=.agg (ba 32 (pF key (L1++L2++L3++L4))).toArray):=by
 have h:=aDM key hk [(h1,L1),(h2,L2),(h3,L3),(h4,L4)] ⟨some ⟨b,0,none⟩,4⟩ _ (hsk.mono hle) (SlP.four hle hs hs2 hs3 hs4) (hK.mono hle) hlk (by simp [cN]; omega) (by simp)
 rw [show cN [(h1,L1),(h2,L2),(h3,L3),(h4,L4)]=L1++L2++L3++L4 by simp [cN]] at h
 exact h
theorem aFC (enc mac nonce:Nat→Y) (ad:List Y) (ha:Sh) (xs:List Y) (hx:Sh) (G:PM) (hsa:SlR G 1 aL ha ad) (hsx:SlR G 1 aL hx xs) (hK:RdNP G 1 0 (wa 64 kW)) (hla:ad.length≤140737488351232) (hl:xs.length≤140737488355328):Ct Tryz.prog 113 ([.agg (ba 32 enc++ba 32 mac).toArray,.agg (ba 12 nonce).toArray,ha.val ad.length,hx.val xs.length]:List Value).toArray G [] (fun _ μ' u=>μ'=[]∧u=.agg (ba 16 (tH mac nonce ad xs)).toArray):=by
 refine Ct.of Tryz.func113 rfl Tryz.ntmps113 rfl fun w0 hs0=>?_
 refine .seq (fC rfl rfl ?_)
 refine bX rfl rfl rfl ?_; intro b4
 refine bX rfl rfl rfl ?_; intro b5
 refine al rfl aLB ?_; intro b8
 refine .nil (.code (.seq ?_))
 refine fM aQ (by intro b hb; cases hb) ?_; intro Gfb4 hleb4 hbb4
 have hsa:=hsa.mono hleb4
 have hsx:=hsx.mono hleb4
 have hK:=hK.mono hleb4
 refine fM aF (by intro b hb; cases hb) ?_; intro Gfb5 hleb5 hbb5
 have hsa:=hsa.mono hleb5
 have hsx:=hsx.mono hleb5
 have hK:=hK.mono hleb5
 have hbb4:=hbb4.mono hleb5
 refine bH (mc:=⟨false,false⟩) [0,1,2,3,4,6,7,8,5,9,10,11,12] aV (by kernel_rfl) ?_
 refine fA rfl aEm rfl ?_
 refine kA rfl .no tN (.u rfl) hbb4 (by first|exact jC|exact gS|exact jB) ?_; intro h11 L11 eL11 lL11 hs11
 refine .p (lE rfl bL rfl (ci rfl .no rfl cX (.u rfl) ?_))
 refine mV rfl rfl ?_
 refine kA rfl .no aBu (.u rfl) hbb5 (by first|exact jC|exact gS|exact jB) ?_; intro h17 L17 eL17 lL17 hs17
 refine .p (kc rfl tQ (aB rfl (aB rfl (aB rfl aE))) (Ct.frzB (sA [] ⟨none,0⟩ _ 8 _ SlR.nul (by simp) (by decide))) ?_)
 rintro _ G15 μ15 hG15 ⟨h15,L15,eL15,rfl,rfl,hs15⟩
 have hsa:=hsa.mono hG15
 have hsx:=hsx.mono hG15
 have hK:=hK.mono hG15
 have hs11:=hs11.mono hG15
 have hs17:=hs17.mono hG15
 refine Go.Tan.bN rfl jN mZ (Evp.cons (.u rfl) (Evp.cons (.u rfl) (Evp.cons (.u rfl) (Evp.cons (.u rfl) Evp.nil)))) rfl (by decide) (by simp [Value.oneCell',Sh.val]) ?_; intro b19
 have lL15:L15.length=8:=by rw [eL15,List.nil_append]; exact gW _ 8
 refine kp rfl .no aEq (aB rfl (aB rfl aE)) (Gp.add .here Gp.nil) (fun _ hle hq=>aOM hle hs11 hs15 hsa hs17 hsx hK (by omega) (by omega)) ?_
 refine al rfl fX ?_; intro b9
 refine sW rfl rfl rfl rfl fN .here ?_
 refine .g (sah rfl .no gJ (.u rfl) (.u rfl) (fun _=>by first|decide|omega) (fun _=>by first|decide|omega) ?_)
 refine sp rfl .no aEZ (.u rfl) (fun _=>by first|decide|omega) ?_
 refine lA rfl .no aEY (.u rfl) (fun _=>RdN.part (n:=16) (cs':=ba 16 _) .here (aCO (by decide))) (fun _=>(by first|exact qE|exact qL|rfl)) ?_
 refine sW rfl rfl rfl rfl aK8 aQ ?_
 refine .nil (.code (.ret (aP Tryz.results113 (.cell rfl (fun w hw=>bK aEY (RdN.own .here) ((by first|exact qE|exact qL|rfl)) hw) .nil) ?_)))
 exact ⟨rfl,by rw [eL11,eL15,eL17]; rfl⟩
theorem aRf (enc mac nonce:Nat→Y) (ad:List Y) (ha:Sh) (xs:List Y) (v:Value) (G:PM) (hsa:SlR G 1 aL ha ad) (hK:RdNP G 1 0 (wa 64 kW)) (hla:ad.length≤140737488351232) (hl:xs.length≤140737488355328):Ct Tryz.prog 113 ([.agg (ba 32 enc++ba 32 mac).toArray,.agg (ba 12 nonce).toArray,ha.val ad.length,v]:List Value).toArray G [rB v 5 xs] (fun _ μ' u=>∃ ν,μ'=rB v 5 xs :: ν∧ν=[]∧u=.agg (ba 16 (tH mac nonce ad xs)).toArray) :=
 xG (fun hx G2 hle hv hs=>by subst hv; exact aFC enc mac nonce ad ha xs hx G2 (hsa.mono hle) hs (hK.mono hle) hla hl)
theorem aLN (enc mac nonce:Nat→Y) (ad:List Y) (ha:Sh) (xs:List Y) (hx:Sh) (G:PM) (hsa:SlR G 1 aL ha ad) (hsx:SlR G 1 aL hx xs) (hK:RdNP G 1 0 (wa 64 kW)) (hla:ad.length≤140737488351232) (hl:xs.length≤140737488351232):Ct Tryz.prog 72 ([.agg (ba 32 enc++ba 32 mac).toArray,.agg (ba 12 nonce).toArray,ha.val ad.length,hx.val xs.length]:List Value).toArray G [] (PR 5 (fun L=>L=kT enc mac nonce ad xs)):=by
 refine Ct.of Tryz.func72 rfl Tryz.ntmps72 rfl fun w0 hs0=>?_
 have lc:=uG enc nonce 1#32 xs
 refine .seq (fC rfl rfl ?_)
 refine bX rfl rfl rfl ?_; intro b4
 refine bX rfl rfl rfl ?_; intro b5
 refine .g (fZ rfl aB0 rfl (lA rfl .no vB (.u rfl) (fun _=>RdN.part (n:=32) (cs':=ba 32 enc) aF (gS)) (fun _=>(by first|exact qE|exact qL|rfl)) ?_))
 refine lB rfl qS rfl .here ?_
 refine .p (kc rfl aKS (aB rfl (aB rfl (aB rfl (aB rfl aE)))) (iY (aEU enc nonce 1#32 hx xs _ hsx hl)) ?_)
 rintro v15 G15 μ15 hG15 ⟨L15,ov15,eL15,rfl⟩
 have hsa:=hsa.mono hG15
 have hK:=hK.mono hG15
 refine aS rfl rfl (.nc (.seq (rW rfl rfl ?_)))
 have lL15:L15.length=xs.length:=by rw [eL15,uG]
 refine lB rfl pP rfl aQ ?_
 refine lB rfl qS rfl aF ?_
 refine .p (ka rfl (.inr rfl) aKT (aB rfl (aB rfl (aB rfl (aB rfl aE)))) (bR .here) (aRf enc mac nonce ad ha L15 _ _ hsa hK hla (by rw [eL15,uG]; omega)) ?_)
 rintro _ G20 μ20 hG20 ⟨_,rfl,rfl,rfl⟩
 refine al rfl aLB ?_; intro b10
 refine sW rfl rfl rfl rfl aK8 .here ?_
 refine .g (lV rfl .no aEZ (.u rfl) (cF rfl aH aX (.u rfl) (.u rfl) aF (Sc.arr .here) (by (try simp only [bJ,bB]); omega) ?_))
 intro v23 L23 ov23 eL23
 have lL23:L23.length=L15.length+16:=by rw [eL23,List.length_append]; first|rfl | simp [bB]
 refine aS rfl rfl (.nc (.ret (We.fin Tryz.results72 (.tmp rfl .nil) (mS .here rfl mN) ?_)))
 exact ⟨L23,by rw [eL23,eL15]; rfl,rfl⟩
theorem aE9 (enc mac nonce:Nat→Y) (ad:List Y) (ha:Sh) (xs:List Y) (hx:Sh) (G:PM) (hsa:SlR G 1 aL ha ad) (hsx:SlR G 1 aL hx xs) (hK:RdNP G 1 0 (wa 64 kW)) (hla:ad.length≤140737488351232) (hl:xs.length≤140737488351248):Ct Tryz.prog 123 ([.agg (ba 32 enc++ba 32 mac).toArray,.agg (ba 12 nonce).toArray,ha.val ad.length,hx.val xs.length]:List Value).toArray G [] (fun _ μ' u=>∃ v L e,OpenR (oK enc mac nonce ad xs) L e∧μ'=[rB v 5 L]∧u=.tuple #[v,.int .i64 e]):=by
 refine Ct.of Tryz.func123 rfl Tryz.ntmps123 rfl fun w0 hs0=>?_
 refine .seq (jH rfl rfl ?_)
 refine bX rfl rfl rfl ?_; intro b4
 refine bX rfl rfl rfl ?_; intro b5
 refine .g (lE rfl bL rfl (aR rfl rfl rfl rfl ?_))
 refine .g (cP rfl rfl rfl rfl (.g (cD rfl (fun c1=>?_) (fun c1=>?_))))
 ·have c1k:=c1
  try simp only [aC,aD] at c1
  refine .seq (bE rfl rfl (aS rfl rfl (aS rfl rfl (.nc (.ret (kY 5 ?_))))))
  refine We.fin Tryz.results123 (.tmp rfl (.tmp rfl .nil)) (mS .here rfl mN) ?_
  rw [aHd (by omega)]; exact ⟨_,[],60,.inr ⟨rfl,rfl,rfl⟩,rfl,rfl⟩
 have c1k:=c1
 try simp only [aC,aD] at c1
 refine .g (kE ((xs.length-16)) rfl .no aH hsx (.u rfl) (.u rfl) (by omega) (by omega) ?_)
 intro h19 L19 eL19 lL19 hs19
 have lL19:=lL19 rfl
 refine .g (bH (mc:=⟨false,false⟩) [0,1,2,3,5,6,7,8,9,4,10] aV (by kernel_rfl) ?_)
 refine lB rfl pP rfl aF ?_
 refine lB rfl qS rfl .here ?_
 refine .p (kD ((xs.length-16)) rfl .no aH hsx (.u rfl) (.u rfl) (by omega) (by omega) ?_)
 intro h27 L27 eL27 lL27 hs27
 have lL27:=lL27 rfl
 refine spS rfl .no aEZ hs27 (.u rfl) (by omega) (by decide) ?_
 refine lA rfl .no aEY (.u rfl) (fun _=>(hs27.arr (m:=16) (by omega)).rd) (fun _=>aU _ _) ?_
 refine kV rfl aKT (aB rfl (aB rfl (aB rfl (aB rfl aE)))) (aFC enc mac nonce ad ha L19 h19 _ hsa hs19 hK hla (by omega)) ?_
 refine nqB rfl .no aSk (.u rfl) (.u rfl) ?_
 refine .g (cD rfl (fun c2=>?_) (fun c2=>?_))
 ·have c2k:=c2
  try simp only [aC,aD] at c2
  refine .seq (bE rfl rfl (aS rfl rfl (aS rfl rfl (.nc (.ret (kY 5 ?_))))))
  refine We.fin Tryz.results123 (.tmp rfl (.tmp rfl .nil)) (mS .here rfl mN) ?_
  rw [aHc (by omega) (by rw [← eL19,←eL27,←aAD L27,show L27.length=16 by omega]; exact c2)]; exact ⟨_,[],60,.inr ⟨rfl,rfl,rfl⟩,rfl,rfl⟩
 have c2k:=c2
 try simp only [aC,aD] at c2
 refine .g (fZ rfl aB0 rfl (lA rfl .no vB (.u rfl) (fun _=>RdN.part (n:=32) (cs':=ba 32 enc) aF (gS)) (fun _=>(by first|exact qE|exact qL|rfl)) ?_))
 refine lB rfl qS rfl .here ?_
 refine .p (kc rfl aKS (aB rfl (aB rfl (aB rfl (aB rfl aE)))) (iY (aEU enc nonce 1#32 h19 L19 _ hs19 (by omega))) ?_)
 rintro v35 G35 μ35 hG35 ⟨L35,ov35,eL35,rfl⟩
 refine aS rfl rfl (aS rfl rfl (.nc (.ret (We.fin Tryz.results123 (.tmp rfl (.tmp rfl .nil)) (mS .here rfl mN) ?_))))
 rw [aDZ (by omega) (by rw [← eL19,←eL27,←aAD L27,show L27.length=16 by omega]; exact c2),←eL19]; exact ⟨v35,L35,0,.inl ⟨by rw [eL35],rfl⟩,rfl,rfl⟩
theorem aEc:csT Tryz.prog 34=true:=by kernel_rfl
def zF:Nat→Y:=fun _=>0#8
end Go.Proofs.YtbdnclpopappeaaGreatDoor
